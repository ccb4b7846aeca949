/- Texts of the claim SchedWhole, one behind the other. -/
import Derived.Test.YtdemfamgieonbaaGreatSchedWholeM4
import Derived.Lib.ConvBytes
import Derived.Shelf.SortM.Plain
import Derived.Shelf.SortM.SortNone
import Derived.Ground.SlgmProg
import Derived.Test.YtdemfamgieonbaaGreatProg
import Derived.Deep.OwnRows
set_option linter.all false
namespace Go.Proofs.YtdemfamgieonbaaGreat
open Go Go.Sep
set_option maxRecDepth 100000
def tagOk (g:TagM):Prop:=0 ≤ g.node∧g.node < 9∧0 < g.epoch∧0 < g.seq∧0 ≤ g.tr∧g.tr < 3
instance (g:TagM):Decidable (tagOk g):=by unfold tagOk; infer_instance
def marksOk (rg:Int) (ks:List TX) (mks:List MkX):Prop:=mks.map MkX.key = ks∧∀ m ∈ mks,0 ≤ m.home∧m.home < rg
instance (rg:Int) (ks:List TX) (mks:List MkX):Decidable (marksOk rg ks mks):=by unfold marksOk; infer_instance
abbrev OrdOk (rg:Int) (g:TagM) (t:TxX) (mks:List MkX):Prop:=rightT rg t = true∧tagOk g∧marksOk rg (keysT (t.reads++t.writes)) mks
abbrev orV (g:TagM) (t:TxX) (ms:Sl):List Value:=orL g.node g.epoch g.seq g.tr t ms
section
variable {B:World} {Γ Δ:List HProp} {g:TagM} {t:TxX} {ms:Sl} {mks:List MkX}
theorem zJd {rg:Int} {Q:Int→K} (hr:∀ w,Holds B Γ w→txRd w t) (hm:∀ w,Holds B Γ w→RdC w ms 3 (mks.flatMap mkL)) (hl:t.reads.length ≤ 1000∧t.writes.length ≤ 1000∧t.ops.length ≤ 1000) (hml:mks.length ≤ 100000)
  (h:HG B Γ (Q (if OrdOk rg g t mks then 0 else 1))):HG B Γ (zAV.call (orV g t ms).toArray rg Q):=fun w hw=>by
 refine zLb _ _ _ _ ?_
 have hmn:ms.n = mks.length:=rd_len zDv (by omega) (hm w hw)
 refine hg hw ?_
 clear hw w
 unfold zAV
 refine s_new fun o2=>?_
 refine s_dr ?_
 refine s_wsD [blk o2 (.cells (orV g t ms).toArray zBe (0,0))] ?_
 refine s_ldNS (b:=o2) (l:=orV g t ms) (l':=[.int .i64 g.node,.int .u64 g.epoch,.int .u64 g.seq]) ?_
 refine s_ldNS (b:=o2) (off:=4) (l:=orV g t ms) (l':=txL t) ?_
 have hkl:=zGd (t.reads++t.writes)
 rw [List.length_append] at hkl
 have rest:∀ (id5:Nat) (ks:Sl),HG B (blk id5 (.cells [.int .i64 g.node,.int .u64 g.epoch,.int .u64 g.seq].toArray zLt (0,0))::SlS ks (keysT (t.reads++t.writes))::blk o2 (.cells (orV g t ms).toArray zBe (0,0))::Γ) (zAV.s1 Q rg ⟨o2,0,none⟩ ⟨id5,0,none⟩ ks):=fun id5 ks=>by
  refine s_cap ks fun k1 k2 k3 k4=>?_
  have hkn:ks.n = (keysT (t.reads++t.writes)).length:=by simpa using k1.symm
  have no:¬ OrdOk rg g t mks→HG B Γ (Q 1):=fun hn=>by rw [if_neg hn] at h; exact h
  have S2:∀ b:Bool,(b = true ↔ rightT rg t = true∧tagOk g)→HG B (SlS ks (keysT (t.reads++t.writes))::blk o2 (.cells (orV g t ms).toArray zBe (0,0))::Γ) (zAV.s2 Q rg ⟨o2,0,none⟩ ks b):=fun b hb=>by
   have bad:¬ OrdOk rg g t mks→HG B (SlS ks (keysT (t.reads++t.writes))::blk o2 (.cells (orV g t ms).toArray zBe (0,0))::Γ) (zAV.s3 Q rg ⟨o2,0,none⟩ ks true):=fun hn=>by
    unfold zAV.s3
    exact s_t (s_end (no hn))
   unfold zAV.s2
   cases b
   ·refine s_t ?_
    exact bad fun ho=>by have:=hb.2 ⟨ho.1,ho.2.1⟩; cases this
   ·refine s_f ?_
    have hok:=hb.1 rfl
    refine s_ld (b:=o2) (off:=9) (l:=orV g t ms) (x:=ms) ?_
    by_cases hlen:mks.length = (keysT (t.reads++t.writes)).length
    ·rw [show decide ((ms.n:Int) ≠ (ks.n:Int)) = false by simp; omega]
     unfold zAV.s3
     refine s_f ?_
     refine s_ld (b:=o2) (off:=9) (l:=orV g t ms) (x:=ms) ?_
     refine zDA (α:=Int) (fun x=>∃ i:Nat,x = (i:Int)∧i ≤ mks.length∧∀ j,j < i→(mks[j]?.map MkX.key) = (keysT (t.reads++t.writes))[j]?∧∀ m,mks[j]? = some m→0 ≤ m.home∧m.home < rg) (fun x=>mks.length - x.toNat) ⟨0,rfl,Nat.zero_le _,by omega⟩ fun k' x hx hk'=>?_
     obtain ⟨i,rfl,hi,ha⟩:=hx
     unfold zAV.b4
     refine s_ite (fun hc=>?_) fun hc=>?_
     ·have hil:i < mks.length:=by simp only [decide_eq_true_eq] at hc; omega
      have hge:mks[i]? = some mks[i]:=List.getElem?_eq_getElem hil
      have hgk:(keysT (t.reads++t.writes))[i]? = some (keysT (t.reads++t.writes))[i]:=List.getElem?_eq_getElem (by omega)
      generalize mks[i] = m at hge
      generalize (keysT (t.reads++t.writes))[i] = key at hgk
      refine s_idxN mkL zDv (fun w hw=>hm w hw.drops) hge ?_
      refine s_new fun m9=>?_
      refine s_stN (b:=m9) (l':=mkL m) ?_
      refine s_dr ?_
      refine s_ld (b:=m9) (l:=mkL m) (x:=bs m.key) ?_
      refine s_idxS (L:=keysT (t.reads++t.writes)) (j:=i) (fun w hw=>(own_rd (s:=ks) hw).1) hgk ?_
      have S5:∀ c:Bool,(c = true ↔ ¬ (m.key = key∧0 ≤ m.home∧m.home < rg))→HG B (SlS ks (keysT (t.reads++t.writes))::blk o2 (.cells (orV g t ms).toArray zBe (0,0))::Γ) (zAV.s5 Q k' rg ks ms (ms.n:Int) (i:Int) c):=fun c hcc=>by
       unfold zAV.s5
       cases c
       ·refine s_f ?_
        refine s_ai ?_
        have hyes:m.key = key∧0 ≤ m.home∧m.home < rg:=by
         by_cases hh:m.key = key∧0 ≤ m.home∧m.home < rg
         ·exact hh
         ·have:=hcc.2 hh; cases this
        refine hk' _ ⟨i + 1,by simp,hil,fun j hj=>?_⟩ (by omega)
        by_cases hji:j = i
        ·subst hji
         rw [hge,hgk]
         exact ⟨by simp [hyes.1],fun m' hm'=>by cases hm'; exact hyes.2⟩
        ·exact ha j (by omega)
       ·refine s_t ?_
        refine s_end (no fun ho=>hcc.1 rfl ?_)
        have h1:=congrArg (·[i]?) ho.2.2.1
        simp only [List.getElem?_map,hge,hgk,Option.map_some,Option.some.injEq] at h1
        exact ⟨h1,ho.2.2.2 m (List.mem_of_getElem? hge)⟩
      refine s_ite (fun h1=>?_) fun h1=>?_
      ·refine s_end (S5 true ?_)
       have:m.key ≠ key:=by simpa using h1
       simp [this]
      have hkey:m.key = key:=by simpa using h1
      refine s_ld (b:=m9) (off:=1) (l:=mkL m) (x:=m.home) ?_
      refine s_ite (fun h2=>?_) fun h2=>?_
      ·refine s_end (S5 true ?_)
       simp only [decide_eq_true_eq] at h2
       simp only [true_iff,not_and]
       intro _ h3; omega
      refine s_ld (b:=m9) (off:=1) (l:=mkL m) (x:=m.home) ?_
      refine s_end (S5 _ ?_)
      simp only [decide_eq_false_iff_not,decide_eq_true_eq] at h2 ⊢
      constructor
      ·rintro h3 ⟨_,_,h4⟩; omega
      ·intro h3
       by_cases h4:rg ≤ m.home
       ·exact h4
       ·exact absurd ⟨hkey,by omega,by omega⟩ h3
     ·have hil:i = mks.length:=by simp only [decide_eq_false_iff_not] at hc; omega
      have hall:OrdOk rg g t mks:=by
       refine ⟨hok.1,hok.2,List.ext_getElem? fun j=>?_,fun m hm=>?_⟩
       ·by_cases hj:j < i
        ·rw [List.getElem?_map]; exact (ha j hj).1
        ·rw [List.getElem?_eq_none (by simp; omega),List.getElem?_eq_none (by omega)]
       ·obtain ⟨j,hj,rfl⟩:=List.mem_iff_getElem.1 hm
        exact (ha j (by omega)).2 _ (List.getElem?_eq_getElem hj)
      rw [if_pos hall] at h
      exact s_end h
    ·rw [show decide ((ms.n:Int) ≠ (ks.n:Int)) = true by simp; omega]
     exact bad fun ho=>hlen (by have:=congrArg List.length ho.2.2.1; simpa using this)
  have S2':∀ b:Bool,(b = true ↔ rightT rg t = true∧tagOk g)→HG B (blk id5 (.cells [.int .i64 g.node,.int .u64 g.epoch,.int .u64 g.seq].toArray zLt (0,0))::SlS ks (keysT (t.reads++t.writes))::blk o2 (.cells (orV g t ms).toArray zBe (0,0))::Γ) (zAV.s2 Q rg ⟨o2,0,none⟩ ks b):=fun b hb=>s_end (S2 b hb)
  unfold zAV.s1
  refine s_ldN (b:=o2) (off:=4) (l:=orV g t ms) (l':=txL t) ?_
  refine zR9 (t:=t) (n:=rg) (fun w hw=>hr w hw.drops) ⟨by omega,by omega,by omega⟩ ?_
  by_cases hrt:rightT rg t = true
  rotate_left
  ·rw [if_neg hrt]
   refine s_f ?_
   exact S2' false (by simp [hrt])
  rw [if_pos hrt]
  refine s_t ?_
  refine s_ld (b:=id5) (x:=g.node) ?_
  refine s_ite (fun h1=>?_) fun h1=>?_
  rotate_left
  ·exact S2' false (by simp only [decide_eq_false_iff_not] at h1; simp [tagOk,h1])
  simp only [decide_eq_true_eq] at h1
  refine s_ld (b:=id5) (x:=g.node) ?_
  refine s_ite (fun h2=>?_) fun h2=>?_
  rotate_left
  ·exact S2' false (by simp only [decide_eq_false_iff_not] at h2; simp [tagOk,h2])
  simp only [decide_eq_true_eq] at h2
  refine s_ld (b:=id5) (off:=1) (x:=g.epoch) ?_
  refine s_ite (fun h3=>?_) fun h3=>?_
  rotate_left
  ·exact S2' false (by simp only [decide_eq_false_iff_not] at h3; simp [tagOk,h3])
  simp only [decide_eq_true_eq] at h3
  refine s_ld (b:=id5) (off:=2) (x:=g.seq) ?_
  refine s_ite (fun h4=>?_) fun h4=>?_
  rotate_left
  ·exact S2' false (by simp only [decide_eq_false_iff_not] at h4; simp [tagOk,h4])
  simp only [decide_eq_true_eq] at h4
  refine s_ld (b:=o2) (off:=3) (l:=orV g t ms) (x:=g.tr) ?_
  refine s_ite (fun h5=>?_) fun h5=>?_
  rotate_left
  ·exact S2' false (by simp only [decide_eq_false_iff_not] at h5; simp [tagOk,h5])
  simp only [decide_eq_true_eq] at h5
  refine s_ld (b:=o2) (off:=3) (l:=orV g t ms) (x:=g.tr) ?_
  exact S2' _ (by simp only [decide_eq_true_eq]; exact ⟨fun h6=>⟨hrt,h1,h2,h3,h4,h5,h6⟩,fun h6=>h6.2.2.2.2.2.2⟩)
 refine s_all2 ?_ ?_
 ·refine zLW (t:=t) (fun w hw=>(hr w hw.drops).1) (fun w hw=>(hr w hw.drops).2.1) (by omega) (by omega) fun ks=>?_
  refine s_sv ?_
  refine s_new fun id5=>?_
  refine s_sv ?_
  refine s_stN (b:=id5) (l':=[.int .i64 g.node,.int .u64 g.epoch,.int .u64 g.seq]) ?_
  exact s_end (rest id5 ks)
 ·refine s_new fun id5=>?_
  refine s_sv ?_
  refine zLW (t:=t) (fun w hw=>(hr w hw.drops).1) (fun w hw=>(hr w hw.drops).2.1) (by omega) (by omega) fun ks=>?_
  refine s_sv ?_
  refine s_stN (b:=id5) (l':=[.int .i64 g.node,.int .u64 g.epoch,.int .u64 g.seq]) ?_
  exact s_end (rest id5 ks)
end
end Go.Proofs.YtdemfamgieonbaaGreat
namespace Go.Sep
open Go Go.RowKit
def strT2 (P:Program) (T U E:TypeId):Bool:=(match P.underlying T with | some .string=>true | _=>false) && (match P.underlying U with | some (.slice e)=>Nat.beq e E | _=>false) && (match P.underlying E with | some (.int .u8)=>true | _=>false)
theorem zPm {P:Program} {T U E:TypeId} (h:strT2 P T U E = true):P.underlying T = some .string∧P.underlying U = some (.slice E)∧P.underlying E = some (.int .u8):=by
 unfold strT2 at h
 simp only [Bool.and_eq_true] at h
 obtain ⟨⟨h1,h2⟩,h3⟩:=h
 refine ⟨?_,?_,?_⟩
 ·split at h1 <;> first | assumption | cases h1
 ·split at h2
  ·rename_i e he; rw [he,Nat.eq_of_beq_eq_true h2]
  ·cases h2
 ·split at h3 <;> first | assumption | cases h3
theorem zPA {P:Program} {B:World} {Γ:List HProp} {T U E:TypeId} {xs:List UInt8} {k:Sl→K} (h:∀ s,s.n = xs.length→HG B (SlC E 1 s (xs.map byteV)::Γ) (k s)) (hT:strT2 P T U E = true:=by kernel_rfl) :
  HG B Γ (Do P (convert T U (.string (bs xs))) Sl.val k):=fun w hw=>by
 obtain ⟨h1,h2,h3⟩:=zPm hT
 have hrun:=Go.Lib.run_convert_string_bytes w T U E (bs xs) h1 h2 h3
 have hsz:(bs xs).size = xs.length:=rfl
 have hcap:xs.length ≤ grownCap w xs.length 0 E:=by
  unfold grownCap Question.cut
  simp only
  omega
 refine ⟨⟨some ⟨w.heap.size,0,none⟩,xs.length,grownCap w xs.length 0 E⟩,_,hrun,h _ rfl _ ?_⟩
 have h4:=hw.alloc (.cells (Go.Lib.bytesCells w E (bs xs)) E ((Go.Lib.bytesCells w E (bs xs)).size,(Go.Lib.bytesCells w E (bs xs)).size + 1))
 have h5:Holds B (blk w.heap.size (.cells (Go.Lib.bytesCells w E (bs xs)) E ((Go.Lib.bytesCells w E (bs xs)).size,(Go.Lib.bytesCells w E (bs xs)).size + 1))::Γ) (Go.Lib.bytesWorld w E (bs xs)):=by
  refine h4.zOL ?_ rfl rfl rfl
  apply Array.ext_getElem?
  intro j
  simp only [Array.getElem?_push]
  by_cases hj:j = w.heap.size
  ·subst hj
   rw [Go.Lib.bytesWorld_at_new,if_pos rfl]
  ·rw [if_neg hj]
   by_cases hl:j < w.heap.size
   ·exact Go.Lib.bytesWorld_at_old w E (bs xs) j hl
   ·have hs:=Go.Lib.bytesWorld_size w E (bs xs)
    rw [Array.getElem?_eq_none (by omega),Array.getElem?_eq_none (by omega)]
 have hlen:(Go.Lib.bytesCells w E (bs xs)).size = xs.length + (grownCap w xs.length 0 E - xs.length):=by
  simp [Go.Lib.bytesCells,hsz]
 refine slShut (a:=⟨w.heap.size,0,none⟩) (cs:=Go.Lib.bytesCells w E (bs xs)) rfl h5 ⟨rfl,fun i _ hi=>?_,?_,fun i hi=>?_,?_,hcap⟩
 ·simp only at hi ⊢; omega
 ·simp only; omega
 ·simp only [List.length_map] at hi
  simp only [Nat.zero_add,Go.Lib.bytesCells]
  rw [Array.getElem?_append_left (by simp [hsz]; omega)]
  simp only [Array.getElem?_map,List.getElem?_map,List.getElem?_toArray]; rfl
 ·simp
end Go.Sep
namespace Go.Proofs.YtdemfamgieonbaaGreat
open Go Go.Sep Go.Sep.Bt
set_option maxRecDepth 100000
section
variable {B:World} {Γ Δ:List HProp} {Q:Bool→K}
end
end Go.Proofs.YtdemfamgieonbaaGreat
namespace Go.Proofs.YtdemfamgieonbaaGreat
open Go Go.Sep Go.Sep.Bt
set_option maxRecDepth 100000
theorem op_key {t:TxX} {o:OpM} (h:opRight t o = true):o.kind = 7∨o.key ∈ t.reads++t.writes:=by
 unfold opRight at h
 split at h
 ·cases h
 split at h
 ·exact .inl (by assumption)
 split at h
 ·cases h
 ·rename_i h1
  refine .inr ?_
  by_cases h2:o.key ∈ t.writes
  ·simp [h2]
  ·by_cases h3:o.key ∈ t.reads
   ·simp [h3]
   ·exact absurd ⟨h2,.inl h3⟩ h1
section
variable {B:World} {Γ Δ:List HProp} {q:Bool→K}
theorem zQm {R:WX} {x:List UInt8×(Rec×Sl)} {w:World} (hx:x ∈ R) (h:Holds B (Sep.stars (R.map wB)::Γ) w):RdB w x.2.2 x.2.1.val:=by
 obtain ⟨Δ,h2⟩:=zL6 hx h
 exact rdB_of h2
end
end Go.Proofs.YtdemfamgieonbaaGreat
namespace Go.Proofs.YtdemfamgieonbaaGreat
open Go Go.Sep Go.RowKit
end Go.Proofs.YtdemfamgieonbaaGreat
namespace Go.Proofs.YtdemfamgieonbaaGreat
open Go Go.Sep
set_option maxRecDepth 100000
def PenW (p N:Nat):HProp:=ex fun xs:List UInt8=>Sep.stars [pur (xs.length ≤ N),PenR p xs]
abbrev ItemOk (kind ix:Int):Prop:=kind = 1∧ix = 0∨kind = 2∧0 ≤ ix∧ix < 64
section
variable {B:World} {Γ Δ:List HProp} {p N:Nat} {k Q:K}
theorem s_penW (h:∀ xs,xs.length ≤ N→HG B (PenR p xs::Γ) k):HG B (PenW p N::Γ) k:=s_ex fun xs=>s_flat <| s_pur fun h1=>h xs h1
theorem zJ4 {xs:List UInt8} (h1:xs.length ≤ N) (h:HG B (PenW p N::Γ) k):HG B (PenR p xs::Γ) k:=fun w hw=>by
 refine h w ?_
 have h3:Holds B (Sep.stars [pur (xs.length ≤ N),PenR p xs]::Γ) w:=Holds.flat.2 (Holds.pur.2 ⟨h1,hw⟩)
 exact h3.imp fun g hg=>⟨xs,hg⟩
instance (priority:=high) zUS:Sep.Own p (PenW p N::Γ) (PenW p N) Γ:=⟨.refl _⟩
theorem zFf {n:Int} (h0:0 ≤ n) (hn:n < 1180591620717411303424) (hN:N ≤ 40000000) (h:HG B (PenW p (N + 10)::Γ) Q):HG B (PenW p N::Γ) (zBJ.call (some ⟨p,0,none⟩) n Q):=by
 refine s_penW fun xs hx=>?_
 obtain ⟨m,rfl⟩:∃ m:Nat,n = (m:Int):=⟨n.toNat,by omega⟩
 have hnl:=zGK 9 m (by simp; omega)
 refine num_hg (by omega) (by omega) ?_
 exact zJ4 (by simp only [List.length_append]; omega) h
theorem zJ5 {b:Sl} {ys:List UInt8} {L:Nat} (hr:∀ w,Holds B Γ w→RdB w b ys) (hy:ys.length ≤ L) (hL:L ≤ 1000000) (hN:N ≤ 5000000) (h:HG B (PenW p (N + 10 + L)::Γ) Q):HG B (PenW p N::Γ) (zCm.call (some ⟨p,0,none⟩) b Q):=by
 refine s_penW fun xs hx=>?_
 have hnl:=zGK 9 ys.length (by simp; omega)
 refine zTB hr (by omega) (by omega) ?_
 exact zJ4 (by simp only [List.length_append]; omega) h
theorem zPB {s:Sl} {L:List Int} (hr:∀ w,Holds B Γ w→RdC w s 1 (L.map (Value.int .u64))) (hL:∀ x ∈ L,0 ≤ x∧x < 1180591620717411303424) (hl:L.length ≤ 1000) (hN:N ≤ 1000000) (h:HG B (PenW p (N + 10 * L.length)::Γ) Q):HG B (PenW p N::Γ) (zCv.call (some ⟨p,0,none⟩) s Q):=fun w hw=>by
 refine zMh _ _ _ _ ?_
 have hsn:s.n = L.length:=by have:=(hr w hw.tail).len; simpa using this.symm
 refine hg hw ?_
 clear hw w
 unfold zCv
 refine s_loop (α:=Int) (ι:=Nat) (fun x i=>x = (i:Int)∧i ≤ L.length) (fun x i=>PenW p (N + 10 * i)::Γ) (fun x i=>L.length - i) 0 ⟨rfl,Nat.zero_le _⟩ ?_
 rintro k' _ i ⟨rfl,hi⟩ hk'
 unfold zCv.b1
 refine s_ite (fun hb=>?_) fun hb=>?_
 ·have hil:i < L.length:=by simp only [decide_eq_true_eq] at hb; omega
  have hge:L[i]? = some L[i]:=List.getElem?_eq_getElem hil
  obtain ⟨h1,h2⟩:=hL _ (List.getElem_mem hil)
  generalize L[i] = x at hge h1 h2
  refine s_idx1 (L:=L) (fun w hw=>hr w hw.tail) hge ?_
  refine zFf h1 h2 (by omega) ?_
  refine s_ai ?_
  have:=hk' ((i:Int) + 1) (i + 1) ⟨by simp,hil⟩ (by omega)
  rw [show N + 10 * (i + 1) = N + 10 * i + 10 by omega] at this
  exact this
 ·have hil:i = L.length:=by simp only [decide_eq_false_iff_not] at hb; omega
  rw [hil]; exact h
theorem zNs {s:Sl} {L:List TX} (hr:∀ w,Holds B Γ w→RdC w s 1 (L.map strV)) (hL:∀ x ∈ L,x.length ≤ 200) (hl:L.length ≤ 1000) (hN:N ≤ 1000000) (h:HG B (PenW p (N + 10 + 210 * L.length)::Γ) Q):HG B (PenW p N::Γ) (zCj.call (some ⟨p,0,none⟩) s Q):=fun w hw=>by
 refine zLd _ _ _ _ ?_
 have hsn:s.n = L.length:=by have:=(hr w hw.tail).len; simpa using this.symm
 refine hg hw ?_
 clear hw w
 unfold zCj
 refine s_ar (wrapU64 (by omega) (by omega)) ?_
 refine zFf (by omega) (by omega) (by omega) ?_
 refine s_loop (α:=Int) (ι:=Nat) (fun x i=>x = (i:Int)∧i ≤ L.length) (fun x i=>PenW p (N + 10 + 210 * i)::Γ) (fun x i=>L.length - i) 0 ⟨rfl,Nat.zero_le _⟩ ?_
 rintro k' _ i ⟨rfl,hi⟩ hk'
 unfold zCj.b1
 refine s_ite (fun hb=>?_) fun hb=>?_
 ·have hil:i < L.length:=by simp only [decide_eq_true_eq] at hb; omega
  have hge:L[i]? = some L[i]:=List.getElem?_eq_getElem hil
  have h1:=hL _ (List.getElem_mem hil)
  generalize L[i] = x at hge h1
  refine s_idxS (L:=L) (fun w hw=>hr w hw.tail) hge ?_
  refine zPA (E:=zAe) (xs:=x) fun b hb=>?_
  refine s_own p ?_
  refine zJ5 (L:=200) (ys:=x) (fun w hw=>(own_rd (s:=b) hw).1) h1 (by omega) (by omega) ?_
  refine s_ai ?_
  have:=hk' ((i:Int) + 1) (i + 1) ⟨by simp,hil⟩ (by omega)
  rw [show N + 10 + 210 * (i + 1) = N + 10 + 210 * i + 10 + 200 by omega] at this
  exact s_end this
 ·have hil:i = L.length:=by simp only [decide_eq_false_iff_not] at hb; omega
  rw [hil]; exact h
theorem zDJ (n:Int):0 ≤ IntKind.wrap .u64 n∧IntKind.wrap .u64 n < 18446744073709551616:=by
 simp only [IntKind.wrap,IntKind.signed,IntKind.bits]
 simp
 omega
theorem zQn {n:Int} {q:Int→K} (h:∀ m:Int,0 ≤ m→m < 18446744073709551616→HG B Γ (q m)):HG B Γ (zDu.call n q):=by
 refine fun w hw=>zKj _ _ _ ?_
 refine hg hw ?_
 clear hw w
 unfold zDu
 refine s_ar rfl ?_
 refine s_cd (by decide) ?_
 refine s_ar rfl ?_
 refine s_cd (by decide) ?_
 refine s_ar rfl ?_
 refine s_ar rfl ?_
 refine s_ar rfl ?_
 obtain ⟨h1,h2⟩:=zDJ ((BitVec.ofInt IntKind.u64.bits (shlOf .u64 (IntKind.wrap .u64 n) 1) ^^^ BitVec.ofInt IntKind.u64.bits (IntKind.wrap .u64 (shrOf .i64 n 63))).toNat:Int)
 exact h _ h1 h2
theorem zFP {rg:Int} {t:TxX} (h:rightT rg t = true):(∀ k ∈ t.reads++t.writes,k.length ≤ 16)∧(t.reads.length + t.writes.length ≤ 8)∧t.ops.length ≤ 16∧∀ x ∈ t.ops,x.1.key.length ≤ 16∧x.1.val.length ≤ 32:=by
 by_cases hk:t.kind = 2
 ·obtain ⟨ho,_⟩:=zHq h hk
  unfold rightT at h
  split at h
  ·cases h
  rename_i hb
  split at h
  ·cases h
  rename_i hkb
  simp only [headBad,not_or,Nat.not_lt] at hb
  refine ⟨fun k hk=>?_,by omega,by rw [ho]; simp,by rw [ho]; simp⟩
  exact Nat.le_of_not_lt fun h=>hkb (.inl ⟨k,hk,.inr h⟩)
 ·have hops:=zMH h hk
  unfold rightT at h
  split at h
  ·cases h
  rename_i hb
  split at h
  ·cases h
  rename_i hkb
  split at h
  ·cases h
  rename_i hc
  simp only [headBad,not_or,Nat.not_lt] at hb
  simp only [not_or,Nat.not_lt] at hc
  have hks:∀ k ∈ t.reads++t.writes,k.length ≤ 16:=fun k hk=>Nat.le_of_not_lt fun h=>hkb (.inl ⟨k,hk,.inr h⟩)
  refine ⟨hks,by omega,hc.2.2,fun x hx=>?_⟩
  have hr:=hops x hx
  constructor
  ·rcases op_key hr with h7 | h7
   ·unfold opRight at hr
    split at hr
    ·cases hr
    simp only [Bool.and_eq_true,decide_eq_true_eq] at hr
    rw [hr.1]; simp
   ·exact hks _ h7
  ·unfold opRight at hr
   split at hr
   ·cases hr
   ·rename_i h8; omega
theorem zSE {g:TagM} {t:TxX} {ms:Sl} {mks:List MkX} {rg:Int} (hrt:rightT rg t = true) (hg0:0 ≤ g.epoch∧g.epoch < 18446744073709551616) (hg1:0 ≤ g.seq∧g.seq < 18446744073709551616) (hmk:∀ m ∈ mks,0 ≤ m.cnt∧m.cnt < 18446744073709551616)
  (hr:∀ w,Holds B Γ w→txRd w t) (hm:∀ w,Holds B Γ w→RdC w ms 3 (mks.flatMap mkL)) (hml:mks.length ≤ 1000) (hN:N ≤ 100000) (h:∀ N',N' ≤ N + 100000→HG B (PenW p N'::Γ) Q):HG B (PenW p N::Γ) (zBw.call (some ⟨p,0,none⟩) (orV g t ms).toArray Q):=fun w hw=>by
 refine zLc _ _ _ _ ?_
 have hmn:ms.n = mks.length:=rd_len zDv (by omega) (hm w hw.tail)
 have hon:t.os.n = t.ops.length:=rd_len zDF (by omega) (hr w hw.tail).2.2.1
 refine Sep.hg hw ?_
 clear hw w
 obtain ⟨k1,k2,k3,k4⟩:=zFP hrt
 unfold zBw
 refine s_new fun o3=>?_
 refine s_ld (b:=o3) (l:=orV g t ms) (x:=g.node) ?_
 refine s_ar rfl ?_
 refine s_ld (b:=o3) (off:=1) (l:=orV g t ms) (x:=g.epoch) ?_
 refine s_ld (b:=o3) (off:=2) (l:=orV g t ms) (x:=g.seq) ?_
 refine s_ld (b:=o3) (off:=3) (l:=orV g t ms) (x:=g.tr) ?_
 refine s_ar rfl ?_
 refine s_ld (b:=o3) (off:=4) (l:=orV g t ms) (x:=t.kind) ?_
 refine s_ar rfl ?_
 refine s_ld (b:=o3) (off:=8) (l:=orV g t ms) (x:=t.to) ?_
 refine s_ar rfl ?_
 refine s_new fun t34=>?_
 have u1:=zDJ g.node
 have u2:=zDJ g.tr
 have u3:=zDJ t.kind
 have u4:=zDJ t.to
 refine s_own p ?_
 refine zPB (L:=[IntKind.wrap .u64 g.node,g.epoch,g.seq,IntKind.wrap .u64 g.tr,IntKind.wrap .u64 t.kind,IntKind.wrap .u64 t.to]) (fun w hw=>?_) ?_ (by simp) (by omega) ?_
 ·have:=blk_rd (B:=B) (esz:=6) (k:=6) (t:=t34) (cs:=[.int .u64 (IntKind.wrap .u64 g.node),.int .u64 g.epoch,.int .u64 g.seq,.int .u64 (IntKind.wrap .u64 g.tr),.int .u64 (IntKind.wrap .u64 t.kind),.int .u64 (IntKind.wrap .u64 t.to)]) rfl w hw
  exact ⟨by simp,fun h=>(by cases h),fun a ha i hi=>this.at' a ha i hi⟩
 ·intro x hx
  simp only [List.mem_cons,List.not_mem_nil,or_false] at hx
  rcases hx with rfl | rfl | rfl | rfl | rfl | rfl <;> omega
 refine s_end (Δ:=PenW p (N + 60)::blk o3 (.cells (orV g t ms).toArray zBe (0,0))::Γ) ?_
 refine s_ld (b:=o3) (off:=5) (l:=orV g t ms) (x:=t.rs) ?_
 refine zNs (L:=t.reads) (fun w hw=>(hr w hw.drops).1) (fun x hx=>by have:=k1 x (List.mem_append_left _ hx); omega) (by omega) (by omega) ?_
 refine s_ld (b:=o3) (off:=6) (l:=orV g t ms) (x:=t.ws) ?_
 refine zNs (L:=t.writes) (fun w hw=>(hr w hw.drops).2.1) (fun x hx=>by have:=k1 x (List.mem_append_right _ hx); omega) (by omega) (by omega) ?_
 refine s_ld (b:=o3) (off:=7) (l:=orV g t ms) (x:=t.os) ?_
 refine s_ar (wrapU64 (by omega) (by omega)) ?_
 refine zFf (by omega) (by omega) (by omega) ?_
 refine s_ld (b:=o3) (off:=7) (l:=orV g t ms) (x:=t.os) ?_
 generalize hN1:N + 60 + 10 + 210 * t.reads.length + 10 + 210 * t.writes.length + 10 = N1
 refine s_loop (α:=Int) (ι:=Nat) (fun x i=>x = (i:Int)∧i ≤ t.ops.length) (fun x i=>PenW p (N1 + 440 * i)::blk o3 (.cells (orV g t ms).toArray zBe (0,0))::Γ) (fun x i=>t.ops.length - i) 0 ⟨rfl,Nat.zero_le _⟩ ?_
 rintro k' _ i ⟨rfl,hi⟩ hk'
 unfold zBw.b1
 refine s_ite (fun hb=>?_) fun hb=>?_
 ·have hil:i < t.ops.length:=by simp only [decide_eq_true_eq] at hb; omega
  have hge:t.ops[i]? = some t.ops[i]:=List.getElem?_eq_getElem hil
  have hmem:t.ops[i] ∈ t.ops:=List.getElem_mem hil
  generalize t.ops[i] = x at hge hmem
  obtain ⟨h1,h2⟩:=k4 x hmem
  refine s_idxN opF zDF (fun w hw=>(hr w hw.drops).2.2.1) hge ?_
  refine s_new fun x5=>?_
  refine s_stN (b:=x5) (l':=opF x) ?_
  refine s_ld (b:=x5) (l:=opF x) (x:=x.1.kind) ?_
  refine s_ar rfl ?_
  have u5:=zDJ x.1.kind
  refine s_own p ?_
  refine zFf (by omega) (by omega) (by omega) ?_
  refine s_ld (b:=x5) (off:=1) (l:=opF x) (x:=bs x.1.key) ?_
  refine zPA (E:=zAe) (xs:=x.1.key) fun b hb=>?_
  refine s_own p ?_
  refine zJ5 (L:=200) (ys:=x.1.key) (fun w hw=>(own_rd (s:=b) hw).1) (by omega) (by omega) (by omega) ?_
  refine s_ld (b:=x5) (off:=2) (l:=opF x) (x:=x.2) ?_
  refine zJ5 (L:=200) (ys:=x.1.val) (fun w hw=>(hr w hw.drops).2.2.2 x hmem) (by omega) (by omega) (by omega) ?_
  refine s_ld (b:=x5) (off:=3) (l:=opF x) (x:=x.1.n) ?_
  refine zQn fun m hm1 hm2=>?_
  refine zFf hm1 (by omega) (by omega) ?_
  refine s_ai ?_
  have:=hk' ((i:Int) + 1) (i + 1) ⟨by simp,hil⟩ (by omega)
  rw [show N1 + 440 * (i + 1) = N1 + 440 * i + 10 + 10 + 200 + 10 + 200 + 10 by omega] at this
  exact s_end this
 ·have hil:i = t.ops.length:=by simp only [decide_eq_false_iff_not] at hb; omega
  refine s_ld (b:=o3) (off:=9) (l:=orV g t ms) (x:=ms) ?_
  rw [hil]
  refine s_end (Δ:=PenW p (N1 + 440 * t.ops.length + 20 * 0)::Γ) ?_
  refine s_loop (α:=Int) (ι:=Nat) (fun x i=>x = (i:Int)∧i ≤ mks.length) (fun x i=>PenW p (N1 + 440 * t.ops.length + 20 * i)::Γ) (fun x i=>mks.length - i) 0 ⟨rfl,Nat.zero_le _⟩ ?_
  rintro k2 _ j ⟨rfl,hj⟩ hk2
  unfold zBw.b2
  refine s_ite (fun hb2=>?_) fun hb2=>?_
  ·have hjl:j < mks.length:=by simp only [decide_eq_true_eq] at hb2; omega
   have hge:mks[j]? = some mks[j]:=List.getElem?_eq_getElem hjl
   obtain ⟨h1,h2⟩:=hmk _ (List.getElem_mem hjl)
   generalize mks[j] = m at hge h1 h2
   refine s_idxN mkL zDv (fun w hw=>hm w hw.tail) hge ?_
   refine s_new fun m7=>?_
   refine s_stN (b:=m7) (l':=mkL m) ?_
   refine s_ld (b:=m7) (off:=1) (l:=mkL m) (x:=m.home) ?_
   refine s_ar rfl ?_
   have u5:=zDJ m.home
   refine s_own p ?_
   refine zFf (by omega) (by omega) (by omega) ?_
   refine s_ld (b:=m7) (off:=2) (l:=mkL m) (x:=m.cnt) ?_
   refine zFf h1 (by omega) (by omega) ?_
   refine s_ai ?_
   have:=hk2 ((j:Int) + 1) (j + 1) ⟨by simp,hjl⟩ (by omega)
   rw [show N1 + 440 * t.ops.length + 20 * (j + 1) = N1 + 440 * t.ops.length + 20 * j + 10 + 10 by omega] at this
   exact s_end this
  ·have hjl:j = mks.length:=by simp only [decide_eq_false_iff_not] at hb2; omega
   exact h _ (by omega)
theorem zNt {kind ix:Int} {g:TagM} {t:TxX} {ms:Sl} {mks:List MkX} {q:Sl→Int→K} (hg0:0 ≤ g.epoch∧g.epoch < 18446744073709551616) (hg1:0 ≤ g.seq∧g.seq < 18446744073709551616) (hmk:∀ m ∈ mks,0 ≤ m.cnt∧m.cnt < 18446744073709551616)
  (hr:∀ w,Holds B Γ w→txRd w t) (hm:∀ w,Holds B Γ w→RdC w ms 3 (mks.flatMap mkL)) (hl:t.reads.length ≤ 1000∧t.writes.length ≤ 1000∧t.ops.length ≤ 1000) (hml:mks.length ≤ 1000)
  (hbad:¬ (ItemOk kind ix∧OrdOk 3 g t mks)→HG B Γ (q ⟨none,0,0⟩ 1)) (hgood:ItemOk kind ix→OrdOk 3 g t mks→∀ s,HG B Γ (q s 0)) :
  HG B Γ (zAg.call (.int .i64 kind::.int .i64 ix::orV g t ms).toArray q):=by
 refine fun w hw=>zIi _ _ _ ?_
 refine hg hw ?_
 clear hw w
 unfold zAg
 refine s_new fun i1=>?_
 have S2:∀ b:Bool,(b = false ↔ ItemOk kind ix∧OrdOk 3 g t mks)→HG B (blk i1 (.cells (.int .i64 kind::.int .i64 ix::orV g t ms).toArray zDo (0,0))::Γ) (zAg.s2 q ⟨i1,0,none⟩ b):=fun b hb=>by
  unfold zAg.s2
  cases b
  ·obtain ⟨hi,ho⟩:=hb.1 rfl
   refine s_f ?_
   refine zQk fun p=>?_
   refine zJ4 (N:=0) (by simp) ?_
   refine s_ld (b:=i1) (x:=kind) ?_
   refine s_ar rfl ?_
   refine s_ld (b:=i1) (off:=1) (x:=ix) ?_
   refine s_ar rfl ?_
   refine s_new fun t46=>?_
   have u1:=zDJ kind
   have u2:=zDJ ix
   refine s_own p ?_
   refine zPB (L:=[IntKind.wrap .u64 kind,IntKind.wrap .u64 ix]) (fun w hw=>?_) ?_ (by simp) (by omega) ?_
   ·have:=blk_rd (B:=B) (esz:=2) (k:=2) (t:=t46) (cs:=[.int .u64 (IntKind.wrap .u64 kind),.int .u64 (IntKind.wrap .u64 ix)]) rfl w hw
    exact ⟨by simp,fun h=>(by cases h),fun a ha i hi=>this.at' a ha i hi⟩
   ·intro x hx
    simp only [List.mem_cons,List.not_mem_nil,or_false] at hx
    rcases hx with rfl | rfl <;> omega
   refine s_ldN (b:=i1) (off:=2) (l':=orV g t ms) ?_
   refine zSE ho.1 hg0 hg1 hmk (fun w hw=>hr w hw.drops) (fun w hw=>hm w hw.drops) hml (by simp) fun N' hN'=>?_
   refine s_penW fun xs hx=>?_
   refine zTC (by simp only [List.length_cons,List.length_nil] at hN'; omega) fun s=>?_
   exact s_end (hgood hi ho s)
  ·refine s_t ?_
   exact s_end (hbad fun hh=>by have:=hb.2 hh; cases this)
 have S1:∀ b:Bool,(b = true ↔ ItemOk kind ix)→HG B (blk i1 (.cells (.int .i64 kind::.int .i64 ix::orV g t ms).toArray zDo (0,0))::Γ) (zAg.s1 q ⟨i1,0,none⟩ b):=fun b hb=>by
  unfold zAg.s1
  cases b
  ·refine s_t ?_
   exact S2 true (by simp only [Bool.true_eq_false,false_iff]; intro hh; have:=hb.2 hh.1; cases this)
  ·refine s_f ?_
   refine s_ldN (b:=i1) (off:=2) (l':=orV g t ms) ?_
   refine zJd (rg:=3) (fun w hw=>hr w hw.drops) (fun w hw=>hm w hw.drops) hl (by omega) ?_
   have hi:=hb.1 rfl
   by_cases ho:OrdOk 3 g t mks
   ·rw [if_pos ho]; exact S2 _ ⟨fun _=>⟨hi,ho⟩,fun _=>by simp⟩
   ·rw [if_neg ho]; exact S2 _ ⟨fun h=>by simp at h,fun h=>absurd h.2 ho⟩
 have piece:(kind ≠ 1∨ix ≠ 0)→HG B (blk i1 (.cells (.int .i64 kind::.int .i64 ix::orV g t ms).toArray zDo (0,0))::Γ) (Ld ⟨i1,0,none⟩ (Value.int .i64) fun t16=>Ite (decide (t16 = 2)) (Ld ((⟨i1,0,none⟩:Addr).add 1) (Value.int .i64) fun t20=>Ite (decide ((0:Int) ≤ t20)) (Ld ((⟨i1,0,none⟩:Addr).add 1) (Value.int .i64) fun t25=>zAg.s1 q ⟨i1,0,none⟩ (decide (t25 < 64))) (zAg.s1 q ⟨i1,0,none⟩ false)) (zAg.s1 q ⟨i1,0,none⟩ false)):=fun hn=>by
  refine s_ld (b:=i1) (x:=kind) ?_
  refine s_ite (fun h2=>?_) fun h2=>?_
  ·simp only [decide_eq_true_eq] at h2
   refine s_ld (b:=i1) (off:=1) (x:=ix) ?_
   refine s_ite (fun h3=>?_) fun h3=>?_
   ·simp only [decide_eq_true_eq] at h3
    refine s_ld (b:=i1) (off:=1) (x:=ix) ?_
    exact S1 _ (by simp only [decide_eq_true_eq,ItemOk]; omega)
   ·simp only [decide_eq_false_iff_not] at h3
    exact S1 false (by simp only [Bool.false_eq_true,false_iff,ItemOk]; omega)
  ·simp only [decide_eq_false_iff_not] at h2
   exact S1 false (by simp only [Bool.false_eq_true,false_iff,ItemOk]; omega)
 refine s_ld (b:=i1) (x:=kind) ?_
 refine s_ite (fun h1=>?_) fun h1=>?_
 ·simp only [decide_eq_true_eq] at h1
  refine s_ld (b:=i1) (off:=1) (x:=ix) ?_
  refine s_ite (fun h2=>?_) fun h2=>?_
  ·simp only [decide_eq_true_eq] at h2
   exact S1 true (by simp [ItemOk,h1,h2])
  ·simp only [decide_eq_false_iff_not] at h2
   exact piece (.inr h2)
 ·simp only [decide_eq_false_iff_not] at h1
  exact piece (.inl h1)
end
end Go.Proofs.YtdemfamgieonbaaGreat
namespace Go.Proofs.YtdemfamgieonbaaGreat
open Go Go.Sep
set_option maxRecDepth 100000
set_option maxHeartbeats 4000000
attribute [local irreducible] CallD
attribute [local irreducible] G Gp Cx Tx Ex Sx Dx Ox Ax Lx Rx Fx Bx Bj Al Do Ld LdN St StN New CallF Ar DoU Rd Rd2 Pu Cd Ite Fv CallV CallY Ans0 Ans1 Ans2 Ans3 Ans4 Ans5 Ext Dead Dr WithS Sv LdS LdNS RdS Rd2S Nn Idx IdxA IdxS Fld Bld Slc SlcS Cat All LoopK RangeF RangeJ TakeD
namespace F_IRSched
instance at_25:AT Tryz.prog 25 5:=⟨by kernel_rfl⟩
instance at_37:AT Tryz.prog 37 4:=⟨by kernel_rfl⟩
instance at_40:AT Tryz.prog 40 10:=⟨by kernel_rfl⟩
instance at_48:AT Tryz.prog 48 12:=⟨by kernel_rfl⟩
instance at_51:AT Tryz.prog 51 2:=⟨by kernel_rfl⟩
instance cb_100:CB Tryz.prog 100:=⟨by kernel_rfl⟩
instance cb_101:CB Tryz.prog 101:=⟨by kernel_rfl⟩
instance cb_13:CB Tryz.prog 13:=⟨by kernel_rfl⟩
instance cb_156:CB Tryz.prog 156:=⟨by kernel_rfl⟩
instance cb_157:CB Tryz.prog 157:=⟨by kernel_rfl⟩
instance cb_158:CB Tryz.prog 158:=⟨by kernel_rfl⟩
instance cb_159:CB Tryz.prog 159:=⟨by kernel_rfl⟩
instance cb_46:CB Tryz.prog 46:=⟨by kernel_rfl⟩
instance cb_47:CB Tryz.prog 47:=⟨by kernel_rfl⟩
instance cb_48:CB Tryz.prog 48:=⟨by kernel_rfl⟩
instance cb_49:CB Tryz.prog 49:=⟨by kernel_rfl⟩
instance cb_52:CB Tryz.prog 52:=⟨by kernel_rfl⟩
instance cb_53:CB Tryz.prog 53:=⟨by kernel_rfl⟩
instance cb_54:CB Tryz.prog 54:=⟨by kernel_rfl⟩
instance cb_55:CB Tryz.prog 55:=⟨by kernel_rfl⟩
instance cb_56:CB Tryz.prog 56:=⟨by kernel_rfl⟩
instance cb_57:CB Tryz.prog 57:=⟨by kernel_rfl⟩
instance cb_58:CB Tryz.prog 58:=⟨by kernel_rfl⟩
instance cb_59:CB Tryz.prog 59:=⟨by kernel_rfl⟩
instance cb_60:CB Tryz.prog 60:=⟨by kernel_rfl⟩
instance cb_62:CB Tryz.prog 62:=⟨by kernel_rfl⟩
instance cb_63:CB Tryz.prog 63:=⟨by kernel_rfl⟩
instance cb_84:CB Tryz.prog 84:=⟨by kernel_rfl⟩
instance cb_95:CB Tryz.prog 95:=⟨by kernel_rfl⟩
instance cb_98:CB Tryz.prog 98:=⟨by kernel_rfl⟩
instance cb_99:CB Tryz.prog 99:=⟨by kernel_rfl⟩
instance ct_127:CT Tryz.prog 127:=⟨by kernel_rfl⟩
instance ct_130:CT Tryz.prog 130:=⟨by kernel_rfl⟩
instance ct_132:CT Tryz.prog 132:=⟨by kernel_rfl⟩
instance ct_133:CT Tryz.prog 133:=⟨by kernel_rfl⟩
instance ct_136:CT Tryz.prog 136:=⟨by kernel_rfl⟩
instance ct_146:CT Tryz.prog 146:=⟨by kernel_rfl⟩
instance ct_22:CT Tryz.prog 22:=⟨by kernel_rfl⟩
instance ct_29:CT Tryz.prog 29:=⟨by kernel_rfl⟩
instance ct_3:CT Tryz.prog 3:=⟨by kernel_rfl⟩
instance ct_30:CT Tryz.prog 30:=⟨by kernel_rfl⟩
instance ct_38:CT Tryz.prog 38:=⟨by kernel_rfl⟩
instance ct_42:CT Tryz.prog 42:=⟨by kernel_rfl⟩
instance ct_9:CT Tryz.prog 9:=⟨by kernel_rfl⟩
instance zUT:FT Tryz.prog 135 0 0 1:=⟨by kernel_rfl⟩
instance zUU:FT Tryz.prog 135 1 1 1:=⟨by kernel_rfl⟩
instance zUV:FT Tryz.prog 135 2 2 1:=⟨by kernel_rfl⟩
instance zUW:FT Tryz.prog 135 3 3 1:=⟨by kernel_rfl⟩
instance zUX:FT Tryz.prog 135 4 4 1:=⟨by kernel_rfl⟩
instance zUY:FT Tryz.prog 151 0 0 10:=⟨by kernel_rfl⟩
instance zUZ:FT Tryz.prog 151 1 10 1:=⟨by kernel_rfl⟩
instance zFb:FT Tryz.prog 25 0 0 1:=⟨by kernel_rfl⟩
instance zG7:FT Tryz.prog 25 2 2 1:=⟨by kernel_rfl⟩
instance zJI:FT Tryz.prog 40 0 0 4:=⟨by kernel_rfl⟩
instance zO9:FT Tryz.prog 40 1 4 5:=⟨by kernel_rfl⟩
instance zLX:FT Tryz.prog 40 2 9 1:=⟨by kernel_rfl⟩
instance zLY:FT Tryz.prog 48 0 0 1:=⟨by kernel_rfl⟩
instance zLZ:FT Tryz.prog 48 2 2 10:=⟨by kernel_rfl⟩
instance zOz:FT Tryz.prog 51 0 0 1:=⟨by kernel_rfl⟩
instance mx:MX Tryz.prog:=⟨mixed⟩
instance pl_135:PLT Tryz.prog 135 [(0,1),(1,1),(2,1),(3,1),(4,1)]:=⟨_,Tryz.underlying135,by kernel_rfl⟩
instance pl_151:PLT Tryz.prog 151 [(0,10),(10,1)]:=⟨_,Tryz.underlying151,by kernel_rfl⟩
instance pl_51:PLT Tryz.prog 51 [(0,1),(1,1)]:=⟨_,Tryz.underlying51,by kernel_rfl⟩
instance pl_53:PLT Tryz.prog 53 [(0,4),(4,2)]:=⟨_,Tryz.underlying53,by kernel_rfl⟩
instance sl_132:SLT Tryz.prog 132 136 1:=⟨by kernel_rfl⟩
instance sl_133:SLT Tryz.prog 133 146 1:=⟨by kernel_rfl⟩
instance sl_22:SLT Tryz.prog 22 9 1:=⟨by kernel_rfl⟩
instance sl_42:SLT Tryz.prog 42 3 1:=⟨by kernel_rfl⟩
instance sl_45:SLT Tryz.prog 45 53 6:=⟨by kernel_rfl⟩
instance sl_54:SLT Tryz.prog 54 37 4:=⟨by kernel_rfl⟩
instance sz_132:SZ Tryz.prog 132 1:=⟨by kernel_rfl⟩
instance sz_133:SZ Tryz.prog 133 1:=⟨by kernel_rfl⟩
instance sz_3:SZ Tryz.prog 3 1:=⟨by kernel_rfl⟩
instance sz_37:SZ Tryz.prog 37 4:=⟨by kernel_rfl⟩
instance sz_40:SZ Tryz.prog 40 10:=⟨by kernel_rfl⟩
instance sz_42:SZ Tryz.prog 42 1:=⟨by kernel_rfl⟩
instance sz_51:SZ Tryz.prog 51 2:=⟨by kernel_rfl⟩
instance un_146:UN Tryz.prog 146 (.pointer 151):=⟨Tryz.underlying146⟩
instance zt_135:ZT Tryz.prog 135 (.agg #[(.pointer none),(.pointer none),(Sl.val ⟨none,0,0⟩),(Sl.val ⟨none,0,0⟩),(Sl.val ⟨none,0,0⟩)]):=⟨Tryz.t135,by kernel_rfl,by kernel_rfl⟩
instance zt_136:ZT Tryz.prog 136 (.pointer none):=⟨Tryz.t136,by kernel_rfl,by kernel_rfl⟩
instance zt_146:ZT Tryz.prog 146 (.pointer none):=⟨Tryz.t146,by kernel_rfl,by kernel_rfl⟩
instance zt_151:ZT Tryz.prog 151 (.agg #[(.int .i64 0),(.int .u64 0),(.int .u64 0),(.int .i64 0),(.int .i64 0),(Sl.val ⟨none,0,0⟩),(Sl.val ⟨none,0,0⟩),(Sl.val ⟨none,0,0⟩),(.int .i64 0),(Sl.val ⟨none,0,0⟩),(Sl.val ⟨none,0,0⟩)]):=⟨Tryz.t151,by kernel_rfl,by kernel_rfl⟩
instance zt_37:ZT Tryz.prog 37 (.agg #[(.int .i64 0),(.int .u64 0),(.int .u64 0),(.int .i64 0)]):=⟨Tryz.t37,by kernel_rfl,by kernel_rfl⟩
instance zt_40:ZT Tryz.prog 40 (.agg #[(.int .i64 0),(.int .u64 0),(.int .u64 0),(.int .i64 0),(.int .i64 0),(Sl.val ⟨none,0,0⟩),(Sl.val ⟨none,0,0⟩),(Sl.val ⟨none,0,0⟩),(.int .i64 0),(Sl.val ⟨none,0,0⟩)]):=⟨Tryz.t40,by kernel_rfl,by kernel_rfl⟩
instance zt_51:ZT Tryz.prog 51 (.agg #[(.int .i64 0),(Sl.val ⟨none,0,0⟩)]):=⟨Tryz.t51,by kernel_rfl,by kernel_rfl⟩
instance zt_53:ZT Tryz.prog 53 (.agg #[(.int .i64 0),(.int .u64 0),(.int .u64 0),(.int .i64 0),(.int .i64 0),(Sl.val ⟨none,0,0⟩)]):=⟨Tryz.t53,by kernel_rfl,by kernel_rfl⟩
end F_IRSched
def zBt.b2 (Q:(Option Addr)→Int→K)  (X2:Int→K) (s6_2:(Option Addr)) (t22_2:Int) (t23_2:Int):K :=
 Ite (decide (t23_2 < t22_2))
  (Dr <| WithS fun S =>
  Nn s6_2 fun t28 =>
  LdS S (t28.add 2) Sl.val fun t30 =>
  zDQ.call t23_2 fun t32 =>
  Sv S <|
  New 136 #[(.pointer t32)] fun t33 =>
  Sv S <|
  Do Tryz.prog (Builtin.append_ #[132,132] 132 #[(Sl.val t30),(Sl.val (Sl.mk (some t33) 1 1))]) Sl.val fun t34 =>
  St (t28.add 2) (Sl.val t34) <|
  Ar (IntKind.wrap .i64 (t23_2 + 1)) fun t37 =>
  X2 t37)
  (Q s6_2 0)
def zBt.s1 (Q:(Option Addr)→Int→K)  (regions0_1:Int) (s6_1:(Option Addr)):K :=
 LoopK (α:=Int) (fun X x=>zBt.b2 Q X s6_1 regions0_1 x) 0
def zBt (regions0:Int) (Q:(Option Addr)→Int→K):K :=
 zDL.call regions0 fun t10x0 t10x1 =>
 Ite (decide (t10x1 ≠ 0))
  (Q none t10x1)
  (Dr <|
  All [
   (zEM.call  fun t17 =>
   Do Tryz.prog (Instr.makeSlice 42 (.int .i64 regions0) (.int .i64 regions0)) Sl.val fun t19 =>
   New 135 #[(.pointer t10x0),(.pointer t17),(Sl.val ⟨none,0,0⟩),(Sl.val t19),(Sl.val ⟨none,0,0⟩)] fun t21 =>
   zBt.s1 Q regions0 (some t21)),
   (Do Tryz.prog (Instr.makeSlice 42 (.int .i64 regions0) (.int .i64 regions0)) Sl.val fun t19 =>
   zEM.call  fun t17 =>
   New 135 #[(.pointer t10x0),(.pointer t17),(Sl.val ⟨none,0,0⟩),(Sl.val t19),(Sl.val ⟨none,0,0⟩)] fun t21 =>
   zBt.s1 Q regions0 (some t21))
   ])
theorem zNu (regions0:Int) (Q:(Option Addr)→Int→K) (w:World) (h:zBt regions0 Q w):zBt.call regions0 Q w:=by
 have hD8:DH 8 2 [8,11] (.s [0,1,2,3,5,4] (.a [(6,1,.a [(7,1,.a [(8,0,.s [9,10] (.a [(11,0,.e)]))])])])):=by intros; exact ⟨⟩
 have hL6:∀ (s6_2:(Option Addr)) (t22_2:Int),LH 6 (fun x:Int=>[(6,(.pointer s6_2)),(22,(.int .i64 t22_2)),(23,(.int .i64 x))]) (fun X x=>zBt.b2 Q X s6_2 t22_2 x):=by intros; exact ⟨⟩
 have hJ5:JH 5 fun D=>∃ (regions0_1:Int),D [(0,(.int .i64 regions0_1))] (fun C=>∀ (s6_1:(Option Addr)),C [(0,(.int .i64 regions0_1)),(6,(.pointer s6_1))] (zBt.s1 Q regions0_1 s6_1)):=by intros; exact ⟨fun _ ⟨_,h⟩=>⟨_,_,h⟩⟩
 have hD4:DH 4 0 [] (.s [0,2] (.a [(1,0,.a [(3,0,.s [4] (.a [(5,0,.s [6] .e)]))]),(3,0,.a [(1,0,.s [4] (.a [(5,0,.s [6] .e)]))])])):=by intros; exact ⟨⟩
 exact g_walk 39 h Tryz.func11
def zCP (s0:(Option Addr)) (tag1:(Array Value)) (t2:(Array Value)) (Q:(Array Value)→K):K :=
 New 37 tag1 fun tag4 =>
 New 25 t2 fun t5 =>
 New 40 #[(.int .i64 0),(.int .u64 0),(.int .u64 0),(.int .i64 0),(.int .i64 0),(Sl.val ⟨none,0,0⟩),(Sl.val ⟨none,0,0⟩),(Sl.val ⟨none,0,0⟩),(.int .i64 0),(Sl.val ⟨none,0,0⟩)] fun t6 =>
 Dr <|
 Nn s0 fun t8 =>
 Ld t8 Value.pointer fun t10 =>
 LdN tag4 4 fun t11 =>
 LdN t5 5 fun t12 =>
 zEa.call t10 t11 t12 fun t13 =>
 StN t6 10 t13 <|
 LdN t6 10 fun r0 =>
 Q r0
theorem zIA (s0:(Option Addr)) (tag1:(Array Value)) (t2:(Array Value)) (Q:(Array Value)→K) (w:World) (h:zCP s0 tag1 t2 Q w):zCP.call s0 tag1 t2 Q w:=by
 have hD1:DH 1 1 [6,7] (.s [0,1,2,3,4,5] (.a [(6,0,.a [(7,0,.e)])])):=by intros; exact ⟨⟩
 exact g_walk 14 h Tryz.func12
def zAF.s3 (Q:Sl→K)  (s0_3:Addr) (region4_3:Addr) (tag9_3:Addr) (marks10_3:Sl) (j11_3:(Option Addr)):K :=
 Nn j11_3 fun t104 =>
 Ld (t104.add 10) Sl.val fun t106 =>
 zAl.call t106 (.func (.func 61) #[] #[(.pointer (some region4_3))]) fun t108 =>
 St (t104.add 10) (Sl.val t108) <|
 Dr <|
 Ld (s0_3.add 1) Value.pointer fun t114 =>
 Ld s0_3 Value.pointer fun t118 =>
 LdN tag9_3 4 fun t119 =>
 zAd.call t114 t118 t119 marks10_3 <|
 zBb.call (some s0_3) fun t123 =>
 Q t123
def zAF.s2 (Q:Sl→K)  (s0_2:Addr) (region4_2:Addr) (i5_2:Addr) (tag9_2:Addr) (marks10_2:Sl) (j11_2:(Option Addr)):K :=
 Ld i5_2 (Value.int .i64) fun t96 =>
 Ite (decide (t96 = 2))
  (LdN (i5_2.add 2) 10 fun t99 =>
  Ld region4_2 (Value.int .i64) fun t100 =>
  zBz.call t99 t100 fun t101 =>
  zAF.s3 Q s0_2 region4_2 tag9_2 t101 j11_2)
  (zAF.s3 Q s0_2 region4_2 tag9_2 marks10_2 j11_2)
def zAF.s4 (Q:Sl→K)  (s0_4:Addr) (region4_4:Addr) (i5_4:Addr) (tag9_4:Addr) (marks10_4:Sl) (j11_4:(Option Addr)) (t64_4:Bool):K :=
 Ite t64_4
  (zBb.call (some s0_4) fun t73 =>
  Q t73)
  (Ite ((j11_4).isNone)
   (Dr <| WithS fun S =>
   LdNS S (i5_4.add 2) 10 fun t78 =>
   LdNS S (i5_4.add 2) 10 fun t81 =>
   zDz.call t78 fun t79 =>
   Sv S <|
   zA7.call t81 fun t82 =>
   Bld #[(.int .i64 0),(.int .u64 0),(.int .u64 0),(.int .i64 0),(.int .i64 0),(Sl.val ⟨none,0,0⟩),(Sl.val ⟨none,0,0⟩),(Sl.val ⟨none,0,0⟩),(.int .i64 0),(Sl.val ⟨none,0,0⟩),(Sl.val ⟨none,0,0⟩)] ([(0,10),(10,1)][·]?) [(0,(.agg t79)),(1,(Sl.val t82))] fun t83 =>
   New 151 t83 fun t84 =>
   Ld (s0_4.add 4) Sl.val fun t89 =>
   New 146 #[(.pointer (some t84))] fun t91 =>
   Do Tryz.prog (Builtin.append_ #[133,133] 133 #[(Sl.val t89),(Sl.val (Sl.mk (some t91) 1 1))]) Sl.val fun t92 =>
   St (s0_4.add 4) (Sl.val t92) <|
   zAF.s2 Q s0_4 region4_4 i5_4 tag9_4 marks10_4 (some t84))
   (zAF.s2 Q s0_4 region4_4 i5_4 tag9_4 marks10_4 j11_4))
def zAF.s1 (Q:Sl→K)  (s0_1:(Option Addr)) (region4_1:Addr) (i5_1:Addr) (t35_1:Bool):K :=
 Ite t35_1
  (Q (Sl.mk none 0 0))
  (Dr <|
  Nn s0_1 fun t37 =>
  Ld (t37.add 3) Sl.val fun t39 =>
  Ld region4_1 (Value.int .i64) fun t40 =>
  Idx t39 t40 1 fun t41 =>
  Ld t41 (Value.int .i64) fun t42 =>
  Ar (IntKind.wrap .i64 (t42 + 1)) fun t43 =>
  Idx t39 t40 1 fun t44 =>
  St t44 (.int .i64 t43) <|
  Dr <|
  Ld (t37.add 2) Sl.val fun t48 =>
  Ld region4_1 (Value.int .i64) fun t49 =>
  Idx t48 t49 1 fun t50 =>
  Ld t50 Value.pointer fun t51 =>
  LdN i5_1 12 fun t52 =>
  zAk.call t51 t52 fun t53 =>
  Ite (!t53)
   (Q (Sl.mk none 0 0))
   (Dr <| WithS fun S =>
   LdNS S (i5_1.add 2) 4 fun t57 =>
   LdS S ((i5_1.add 2).add 9) Sl.val fun t60 =>
   New 37 #[(.int .i64 0),(.int .u64 0),(.int .u64 0),(.int .i64 0)] fun tag9 =>
   Sv S <|
   StN tag9 4 t57 <|
   Sv S <|
   LdN tag9 4 fun t62 =>
   zDD.call (some t37) t62 fun t63 =>
   Ite (!(t63).isNone)
    (Ld i5_1 (Value.int .i64) fun t69 =>
    zAF.s4 Q t37 region4_1 i5_1 tag9 t60 t63 (decide (t69 = 1)))
    (zAF.s4 Q t37 region4_1 i5_1 tag9 t60 t63 false)))
def zAF (s0:(Option Addr)) (region1:Int) (i2:(Array Value)) (Q:Sl→K):K :=
 New 3 #[(.int .i64 region1)] fun region4 =>
 New 48 i2 fun i5 =>
 LdN i5 12 fun t13 =>
 zAg.call t13 fun t14x0 t14x1 =>
 Dr <| WithS fun S =>
 Ite (decide (t14x1 ≠ 0))
  (zAF.s1 Q s0 region4 i5 true)
  (LdS S region4 (Value.int .i64) fun t21 =>
  zBE.call s0 t21 fun t22 =>
  Sv S <|
  Ite (!t22)
   (zAF.s1 Q s0 region4 i5 true)
   (Nn s0 fun t29 =>
   LdNS S (i5.add 2) 10 fun t27 =>
   LdS S (t29.add 3) Sl.val fun t31 =>
   zAV.call t27 (t31.n:Int) fun t33 =>
   zAF.s1 Q (some t29) region4 i5 (decide (t33 ≠ 0))))
theorem zIB (s0:(Option Addr)) (region1:Int) (i2:(Array Value)) (Q:Sl→K) (w:World) (h:zAF s0 region1 i2 Q w):zAF.call s0 region1 i2 Q w:=by
 have hD17:DH 17 1 [10] (.s [0,1,2,4,5,6,9,3,7,8] (.a [(10,0,.e)])):=by intros; exact ⟨⟩
 have hJ16:JH 16 fun D=>∃ (s0_3:Addr) (region4_3:Addr) (tag9_3:Addr) (j11_3:(Option Addr)),D [(0,(.pointer (some s0_3))),(4,(.pointer (some region4_3))),(9,(.pointer (some tag9_3))),(11,(.pointer j11_3))] (fun C=>∀ (marks10_3:Sl),C [(0,(.pointer (some s0_3))),(4,(.pointer (some region4_3))),(9,(.pointer (some tag9_3))),(10,(Sl.val marks10_3)),(11,(.pointer j11_3))] (zAF.s3 Q s0_3 region4_3 tag9_3 marks10_3 j11_3)):=by intros; exact ⟨fun _ ⟨_,_,_,_,h⟩=>⟨_,_,h⟩⟩
 have hJ14:JH 14 fun D=>∃ (s0_2:Addr) (region4_2:Addr) (i5_2:Addr) (tag9_2:Addr) (marks10_2:Sl),D [(0,(.pointer (some s0_2))),(4,(.pointer (some region4_2))),(5,(.pointer (some i5_2))),(9,(.pointer (some tag9_2))),(10,(Sl.val marks10_2))] (fun C=>∀ (j11_2:(Option Addr)),C [(0,(.pointer (some s0_2))),(4,(.pointer (some region4_2))),(5,(.pointer (some i5_2))),(9,(.pointer (some tag9_2))),(10,(Sl.val marks10_2)),(11,(.pointer j11_2))] (zAF.s2 Q s0_2 region4_2 i5_2 tag9_2 marks10_2 j11_2)):=by intros; exact ⟨fun _ ⟨_,_,_,_,_,h⟩=>⟨_,_,h⟩⟩
 have hD12:DH 12 2 [5,7] (.s [0,3,1,4] (.a [(2,1,.a [(5,0,.s [6] (.a [(7,0,.s [8] .e)]))])])):=by intros; exact ⟨⟩
 have hJ10:JH 10 fun D=>∃ (s0_4:Addr) (region4_4:Addr) (i5_4:Addr) (tag9_4:Addr) (marks10_4:Sl) (j11_4:(Option Addr)),D [(0,(.pointer (some s0_4))),(4,(.pointer (some region4_4))),(5,(.pointer (some i5_4))),(9,(.pointer (some tag9_4))),(10,(Sl.val marks10_4)),(11,(.pointer j11_4))] (fun C=>∀ (t64_4:Bool),C [(0,(.pointer (some s0_4))),(4,(.pointer (some region4_4))),(5,(.pointer (some i5_4))),(9,(.pointer (some tag9_4))),(10,(Sl.val marks10_4)),(11,(.pointer j11_4)),(64,(.bool t64_4))] (zAF.s4 Q s0_4 region4_4 i5_4 tag9_4 marks10_4 j11_4 t64_4)):=by intros; exact ⟨fun _ ⟨_,_,_,_,_,_,h⟩=>⟨_,_,h⟩⟩
 have hD7:DH 7 2 [] (.s [0,1,3,4,2,5] (.a [(6,1,.a [(7,1,.s [8] .e)])])):=by intros; exact ⟨⟩
 have hD5:DH 5 1 [8] (.s [0,1,2,3,4,5,6,7] (.a [(8,0,.s [9] .e)])):=by intros; exact ⟨⟩
 have hD4:DH 4 1 [9] (.s [0,1,2,3,4,5,6,7,8] (.a [(9,0,.e)])):=by intros; exact ⟨⟩
 have hJ3:JH 3 fun D=>∃ (s0_1:(Option Addr)) (region4_1:Addr) (i5_1:Addr),D [(0,(.pointer s0_1)),(4,(.pointer (some region4_1))),(5,(.pointer (some i5_1)))] (fun C=>∀ (t35_1:Bool),C [(0,(.pointer s0_1)),(4,(.pointer (some region4_1))),(5,(.pointer (some i5_1))),(35,(.bool t35_1))] (zAF.s1 Q s0_1 region4_1 i5_1 t35_1)):=by intros; exact ⟨fun _ ⟨_,_,_,h⟩=>⟨_,_,h⟩⟩
 have hD2:DH 2 2 [16] (.s [0,1,2] (.i (.s [3,4,5,6,7,8,9,10,11,12,13,14,15,16,17,18] .e) (.s [3,4] (.a [(5,1,.s [6,7,8] (.i (.s [9,10,11,12,13,14,15,16,17,18] .e) (.s [9,11,12,13,10,14,15] (.a [(16,0,.s [17,18] .e)]))))])))):=by intros; exact ⟨⟩
 exact g_walk 124 h Tryz.func15
def zA0.b1 (Q:Sl→K)  (X1:Sl→Int→K) (t8_1:Sl) (t9_1:Int) (out2_1:Sl) (t10_1:Int):K :=
 Ite (decide (t10_1 < t9_1))
  (Idx t8_1 t10_1 1 fun t12 =>
  Ld t12 Value.pointer fun t13 =>
  Nn t13 fun t16 =>
  LdN t16 4 fun t19 =>
  Bld #[(.int .i64 0),(.int .u64 0),(.int .u64 0),(.int .i64 0)] (fun i=>some (i * 4,4)) [(0,(.agg t19))] fun ct20 =>
  New 37 ct20 fun t20 =>
  Do Tryz.prog (Builtin.append_ #[54,54] 54 #[(Sl.val out2_1),(Sl.val (Sl.mk (some t20) 1 1))]) Sl.val fun t21 =>
  Ar (IntKind.wrap .i64 (t10_1 + 1)) fun t22 =>
  X1 t21 t22)
  (Q out2_1)
def zA0 (s0:(Option Addr)) (Q:Sl→K):K :=
 Nn s0 fun t6 =>
 Ld (t6.add 4) Sl.val fun t8 =>
 LoopK (α:=Sl×Int) (fun X x=>zA0.b1 Q (fun out2_1 t10_1=>X (out2_1,t10_1)) t8 (t8.n:Int) x.1 x.2) ((Sl.mk none 0 0),0)
theorem zGo (s0:(Option Addr)) (Q:Sl→K) (w:World) (h:zA0 s0 Q w):zA0.call s0 Q w:=by
 have hL2:∀ (t8_1:Sl) (t9_1:Int),LH 2 (fun x:Sl×Int=>[(2,(Sl.val x.1)),(8,(Sl.val t8_1)),(9,(.int .i64 t9_1)),(10,(.int .i64 x.2))]) (fun X x=>zA0.b1 Q (fun out2_1 t10_1=>X (out2_1,t10_1)) t8_1 t9_1 x.1 x.2):=by intros; exact ⟨⟩
 exact g_walk 24 h Tryz.func16
def zDB (s0:(Option Addr)) (Q:Sl→K):K :=
 Nn s0 fun t4 =>
 Ld t4 Value.pointer fun t6 =>
 zDE.call t6 fun t7 =>
 Q t7
theorem zIC (s0:(Option Addr)) (Q:Sl→K) (w:World) (h:zDB s0 Q w):zDB.call s0 Q w:=by
 exact g_walk 8 h Tryz.func17
def zFG (s0:(Option Addr)) (region1:Int) (Q:Int→K):K :=
 zBE.call s0 region1 fun t7 =>
 Ite (!t7)
  (Q 0)
  (Nn s0 fun t10 =>
  Ld (t10.add 3) Sl.val fun t12 =>
  Idx t12 region1 1 fun t14 =>
  Ld t14 (Value.int .i64) fun t15 =>
  Q t15)
def zJh (s0:(Option Addr)) (region1:Int) (Q:Int→K):K :=
 zBE.call s0 region1 fun t7 =>
 Ite (!t7)
  (Q (-1))
  (Nn s0 fun t10 =>
  Ld (t10.add 2) Sl.val fun t12 =>
  Idx t12 region1 1 fun t14 =>
  Ld t14 Value.pointer fun t15 =>
  zFj.call t15 fun t16 =>
  Q t16)
def zBE.s1 (Q:Bool→K)  (t4_1:Bool):K :=
 Q t4_1
def zBE (s0:(Option Addr)) (region1:Int) (Q:Bool→K):K :=
 Ite (decide ((0:Int) ≤ region1))
  (Nn s0 fun t10 =>
  Ld (t10.add 3) Sl.val fun t12 =>
  zBE.s1 Q (decide (region1 < (t12.n:Int))))
  (zBE.s1 Q false)
theorem zHs (s0:(Option Addr)) (region1:Int) (Q:Bool→K) (w:World) (h:zBE s0 region1 Q w):zBE.call s0 region1 Q w:=by
 have hJ1000001:JH 1000001 fun D=>D [] (fun C=>∀ (t4_1:Bool),C [(4,(.bool t4_1))] (zBE.s1 Q t4_1)):=by intros; exact ⟨fun _ h=>⟨_,_,h⟩⟩
 exact g_walk 16 h Tryz.func53
def zDD (s0:(Option Addr)) (tag1:(Array Value)) (Q:(Option Addr)→K):K :=
 New 37 tag1 fun tag3 =>
 Nn s0 fun t7 =>
 Ld (t7.add 4) Sl.val fun t9 =>
 zAo.call t9 (.func (.func 96) #[] #[(.pointer (some tag3))]) fun t11 =>
 Ite (decide (t11 < 0))
  (Q none)
  (Ld (t7.add 4) Sl.val fun t17 =>
  Idx t17 t11 1 fun t19 =>
  Ld t19 Value.pointer fun t20 =>
  Q t20)
theorem zID (s0:(Option Addr)) (tag1:(Array Value)) (Q:(Option Addr)→K) (w:World) (h:zDD s0 tag1 Q w):zDD.call s0 tag1 Q w:=by
 exact g_walk 21 h Tryz.func56
def zBb.b1 (Q:Sl→K)  (X1:Sl→K) (s1_1:Addr) (out2_1:Sl):K :=
 Ld s1_1 Value.pointer fun t5 =>
 Nn t5 fun t6 =>
 Ld (t6.add 4) Sl.val fun t8 =>
 zAo.call t8 (.func (.func 97) #[] #[(.pointer (some s1_1))]) fun t10 =>
 Ite (decide (t10 < 0))
  (Q out2_1)
  (Ld s1_1 Value.pointer fun t14 =>
  Nn t14 fun t15 =>
  Ld (t15.add 4) Sl.val fun t17 =>
  Idx t17 t10 1 fun t19 =>
  Ld t19 Value.pointer fun t20 =>
  Nn t20 fun t21 =>
  LdN t21 10 fun t23 =>
  New 40 #[(.int .i64 0),(.int .u64 0),(.int .u64 0),(.int .i64 0),(.int .i64 0),(Sl.val ⟨none,0,0⟩),(Sl.val ⟨none,0,0⟩),(Sl.val ⟨none,0,0⟩),(.int .i64 0),(Sl.val ⟨none,0,0⟩)] fun o4 =>
  StN o4 10 t23 <|
  Dr <| WithS fun S =>
  Ar (IntKind.wrap .i64 (t10 + 1)) fun t31 =>
  LdS S s1_1 Value.pointer fun t24 =>
  LdS S s1_1 Value.pointer fun t25 =>
  Nn t25 fun t26 =>
  LdS S (t26.add 4) Sl.val fun t28 =>
  zBW.call t28 t10 t31 fun t32 =>
  Sv S <|
  Nn t24 fun t33 =>
  St (t33.add 4) (Sl.val t32) <|
  Dr <| WithS fun S =>
  LdNS S o4 4 fun t37 =>
  LdS S s1_1 Value.pointer fun t38 =>
  LdNS S o4 10 fun t39 =>
  zAZ.call t38 t39 fun t40 =>
  Sv S <|
  Bld #[(.int .i64 0),(.int .u64 0),(.int .u64 0),(.int .i64 0),(.int .i64 0),(Sl.val ⟨none,0,0⟩)] ([(0,4),(4,2)][·]?) [(0,(.agg t37)),(1,(.agg t40))] fun t41 =>
  Bld #[(.int .i64 0),(.int .u64 0),(.int .u64 0),(.int .i64 0),(.int .i64 0),(Sl.val ⟨none,0,0⟩)] (fun i=>some (i * 6,6)) [(0,(.agg t41))] fun ct42 =>
  New 53 ct42 fun t42 =>
  Do Tryz.prog (Builtin.append_ #[45,45] 45 #[(Sl.val out2_1),(Sl.val (Sl.mk (some t42) 1 1))]) Sl.val fun t43 =>
  X1 t43)
def zBb (s0:(Option Addr)) (Q:Sl→K):K :=
 New 29 #[(.pointer s0)] fun s1 =>
 LoopK (α:=Sl) (fun X x=>zBb.b1 Q X s1 x) (Sl.mk none 0 0)
theorem zIE (s0:(Option Addr)) (Q:Sl→K) (w:World) (h:zBb s0 Q w):zBb.call s0 Q w:=by
 have hD6:DH 6 2 [7,8] (.s [0,1,2,3,4] (.a [(5,1,.s [6] (.a [(7,0,.a [(8,0,.s [9] .e)])]))])):=by intros; exact ⟨⟩
 have hD5:DH 5 2 [11] (.s [5,6,7,0,1,2,3,4] (.a [(8,1,.s [9,10] (.a [(11,0,.e)]))])):=by intros; exact ⟨⟩
 have hL1:∀ (s1_1:Addr),LH 1 (fun x:Sl=>[(1,(.pointer (some s1_1))),(2,(Sl.val x))]) (fun X x=>zBb.b1 Q X s1_1 x):=by intros; exact ⟨⟩
 exact g_walk 44 h Tryz.func57
def zDi (h0:Int) (t1:Addr) (Q:Bool→K):K :=
 Ld t1 (Value.int .i64) fun t5 =>
 Q (decide (h0 = t5))
theorem zHB (h0:Int) (t1:Addr) (Q:Bool→K) (w:World) (h:zDi h0 t1 Q w):zDi.call h0 t1 Q w:=by
 exact g_walk 7 h Tryz.func61
def zDj (j0:(Option Addr)) (t1:Addr) (Q:Bool→K):K :=
 Dr <|
 Nn j0 fun t5 =>
 LdN t5 4 fun t8 =>
 LdN t1 4 fun t9 =>
 Pu Tryz.prog (do eqGuard .eql 37 (.tmp 8) (.tmp 9) (.agg t8) (.agg t9); binOp .eql 37 (.agg t8) (.agg t9):Sem Value) Value.bool fun t10 =>
 Q t10
theorem zHC (j0:(Option Addr)) (t1:Addr) (Q:Bool→K) (w:World) (h:zDj j0 t1 Q w):zDj.call j0 t1 Q w:=by
 exact g_walk 11 h Tryz.func96
def zBU.s1 (Q:Bool→K)  (t3_1:Bool):K :=
 Q t3_1
def zBU (j0:(Option Addr)) (t1:Addr) (Q:Bool→K):K :=
 Nn j0 fun t6 =>
 LdN t6 4 fun t9 =>
 New 37 #[(.int .i64 0),(.int .u64 0),(.int .u64 0),(.int .i64 0)] fun tag4 =>
 StN tag4 4 t9 <|
 Dr <| WithS fun S =>
 LdS S (t6.add 10) Sl.val fun t13 =>
 Ite (decide ((t13.n:Int) = 0))
  (LdS S t1 Value.pointer fun t17 =>
  Nn t17 fun t18 =>
  LdS S (t18.add 1) Value.pointer fun t20 =>
  LdNS S tag4 4 fun t21 =>
  zCS.call t20 t21 fun t22 =>
  Sv S <|
  Ite t22
   (zBU.s1 Q true)
   (LdS S t1 Value.pointer fun t24 =>
   Nn t24 fun t25 =>
   LdS S (t25.add 1) Value.pointer fun t27 =>
   LdNS S tag4 4 fun t28 =>
   zAy.call t27 t28 fun t29 =>
   zBU.s1 Q t29))
  (zBU.s1 Q false)
theorem zHD (j0:(Option Addr)) (t1:Addr) (Q:Bool→K) (w:World) (h:zBU j0 t1 Q w):zBU.call j0 t1 Q w:=by
 have hJ1000002:JH 1000002 fun D=>D [] (fun C=>∀ (t3_1:Bool),C [(3,(.bool t3_1))] (zBU.s1 Q t3_1)):=by intros; exact ⟨fun _ h=>⟨_,_,h⟩⟩
 have hD2:DH 2 2 [19] (.s [0,1,2,3,4,5,6] (.i (.s [7,8,9,10,11] (.a [(12,1,.s [13] (.i (.s [14,15,16,17,18,19,20,21,22] .e) (.s [14,15,16,17,18] (.a [(19,0,.s [20,21,22] .e)]))))])) (.s [7,8,9,10,11,12,13,14,15,16,17,18,19,20,21,22] .e))):=by intros; exact ⟨⟩
 exact g_walk 32 h Tryz.func97
def zAZ.s2 (Q:(Array Value)→K)  (t4_2:Addr) (result5_2:Addr) (t10_2:(Option Addr)) (t12_2:(Array Value)):K :=
 LdN result5_2 2 fun t67 =>
 StN t4_2 2 t67 <|
 zAq.calld t10_2 t12_2 <|
 LdN t4_2 2 fun r0 =>
 Q r0
def zAZ.s3 (Q:(Array Value)→K)  (s0_3:Addr) (o3_3:Addr) (t4_3:Addr) (result5_3:Addr) (t10_3:(Option Addr)) (t12_3:(Array Value)) (t45_3:Bool):K :=
 Ite t45_3
  (Dr <|
  Ld (s0_3.add 1) Value.pointer fun t49 =>
  LdN o3_3 4 fun t51 =>
  zAq.call t49 t51 <|
  Dr <|
  Ld (s0_3.add 1) Value.pointer fun t56 =>
  Ld s0_3 Value.pointer fun t60 =>
  Ld ((o3_3.add 4).add 2) Sl.val fun t63 =>
  Idx t63 0 1 fun t64 =>
  Ld t64 Value.string fun t65 =>
  zA5.call t56 t60 t65 <|
  zAZ.s2 Q t4_3 result5_3 t10_3 t12_3)
  (zAZ.s2 Q t4_3 result5_3 t10_3 t12_3)
def zAZ.s1 (Q:(Array Value)→K)  (s0_1:Addr) (o3_1:Addr) (t4_1:Addr) (result5_1:Addr) (writes6_1:Sl) (t10_1:(Option Addr)) (t12_1:(Array Value)):K :=
 Ld s0_1 Value.pointer fun t34 =>
 zBI.call t34 writes6_1 <|
 Ld (o3_1.add 4) (Value.int .i64) fun t39 =>
 Ite (decide (t39 = 2))
  (Ld result5_1 (Value.int .i64) fun t43 =>
  zAZ.s3 Q s0_1 o3_1 t4_1 result5_1 t10_1 t12_1 (decide (t43 = 0)))
  (zAZ.s3 Q s0_1 o3_1 t4_1 result5_1 t10_1 t12_1 false)
def zAZ (s0:(Option Addr)) (o1:(Array Value)) (Q:(Array Value)→K):K :=
 New 40 o1 fun o3 =>
 New 51 #[(.int .i64 0),(Sl.val ⟨none,0,0⟩)] fun t4 =>
 Dr <|
 Nn s0 fun t8 =>
 Ld (t8.add 1) Value.pointer fun t10 =>
 LdN o3 4 fun t12 =>
 Dr <|
 Ld (t8.add 1) Value.pointer fun t16 =>
 LdN o3 4 fun t18 =>
 zCS.call t16 t18 fun t19 =>
 Ite t19
  (StN t4 2 #[(.int .i64 112),(Sl.val ⟨none,0,0⟩)] <|
  zAq.calld t10 t12 <|
  LdN t4 2 fun r0 =>
  Q r0)
  (Dr <| WithS fun S =>
  LdS S t8 Value.pointer fun t25 =>
  LdNS S (o3.add 4) 5 fun t27 =>
  All [
   (zBd.call t25 t27 fun t28x0 t28x1 =>
   New 51 #[(.int .i64 0),(Sl.val ⟨none,0,0⟩)] fun result5 =>
   StN result5 2 t28x0 <|
   zAZ.s1 Q t8 o3 t4 result5 t28x1 t10 t12),
   (New 51 #[(.int .i64 0),(Sl.val ⟨none,0,0⟩)] fun result5 =>
   Sv S <|
   zBd.call t25 t27 fun t28x0 t28x1 =>
   StN result5 2 t28x0 <|
   zAZ.s1 Q t8 o3 t4 result5 t28x1 t10 t12)
   ])
theorem zHE (s0:(Option Addr)) (o1:(Array Value)) (Q:(Array Value)→K) (w:World) (h:zAZ s0 o1 Q w):zAZ.call s0 o1 Q w:=by
 have hJ9:JH 9 fun D=>∃ (t4_2:Addr) (result5_2:Addr) (t10_2:(Option Addr)) (t12_2:(Array Value)),D [(4,(.pointer (some t4_2))),(5,(.pointer (some result5_2))),(10,(.pointer t10_2)),(12,(.agg t12_2))] (fun C=>C [(4,(.pointer (some t4_2))),(5,(.pointer (some result5_2))),(10,(.pointer t10_2)),(12,(.agg t12_2))] (zAZ.s2 Q t4_2 result5_2 t10_2 t12_2)):=by intros; exact ⟨fun _ ⟨_,_,_,_,h⟩=>⟨_,_,h⟩⟩
 have hD8:DH 8 1 [13] (.s [0,1,2,4,5,6,8,9,3,7,10,11,12] (.a [(13,0,.e)])):=by intros; exact ⟨⟩
 have hD7:DH 7 1 [6] (.s [0,1,2,4,3,5] (.a [(6,0,.e)])):=by intros; exact ⟨⟩
 have hJ7:JH 7 fun D=>∃ (s0_3:Addr) (o3_3:Addr) (t4_3:Addr) (result5_3:Addr) (t10_3:(Option Addr)) (t12_3:(Array Value)),D [(0,(.pointer (some s0_3))),(3,(.pointer (some o3_3))),(4,(.pointer (some t4_3))),(5,(.pointer (some result5_3))),(10,(.pointer t10_3)),(12,(.agg t12_3))] (fun C=>∀ (t45_3:Bool),C [(0,(.pointer (some s0_3))),(3,(.pointer (some o3_3))),(4,(.pointer (some t4_3))),(5,(.pointer (some result5_3))),(10,(.pointer t10_3)),(12,(.agg t12_3)),(45,(.bool t45_3))] (zAZ.s3 Q s0_3 o3_3 t4_3 result5_3 t10_3 t12_3 t45_3)):=by intros; exact ⟨fun _ ⟨_,_,_,_,_,_,h⟩=>⟨_,_,h⟩⟩
 have hJ5:JH 5 fun D=>∃ (s0_1:Addr) (o3_1:Addr) (t4_1:Addr) (t10_1:(Option Addr)) (t12_1:(Array Value)),D [(0,(.pointer (some s0_1))),(3,(.pointer (some o3_1))),(4,(.pointer (some t4_1))),(10,(.pointer t10_1)),(12,(.agg t12_1))] (fun C=>∀ (result5_1:Addr) (writes6_1:Sl),C [(0,(.pointer (some s0_1))),(3,(.pointer (some o3_1))),(4,(.pointer (some t4_1))),(5,(.pointer (some result5_1))),(6,(Sl.val writes6_1)),(10,(.pointer t10_1)),(12,(.agg t12_1))] (zAZ.s1 Q s0_1 o3_1 t4_1 result5_1 writes6_1 t10_1 t12_1)):=by intros; exact ⟨fun _ ⟨_,_,_,_,_,h⟩=>⟨_,_,h⟩⟩
 have hD4:DH 4 2 [6,11] (.s [0,1,2,4,3,5] (.a [(6,0,.s [7,8,9] (.a [(10,0,.a [(11,0,.s [12] .e)])])),(10,1,.a [(6,0,.s [7,8,9] (.a [(11,0,.s [12] .e)]))])])):=by intros; exact ⟨⟩
 have hD2:DH 2 1 [6] (.s [0,1,2,4,3,5] (.a [(6,0,.e)])):=by intros; exact ⟨⟩
 have hD1:DH 1 1 [6] (.s [0,1,2,4,3,5] (.a [(6,0,.e)])):=by intros; exact ⟨⟩
 exact zSs 68 h Tryz.func101
end Go.Proofs.YtdemfamgieonbaaGreat
namespace Go.Proofs.YtdemfamgieonbaaGreat
open Go Go.Sep Go.Sep.Bt
set_option maxRecDepth 100000
def wrU (n:Nat) (M:Recs) (t:TxX):WM:=if (runW n M t).2.2 = 0 then sortW (runW n M t).1 else []
def decR (n:Nat) (g:TagM) (t:TxX) (M:Recs) (G:GM×DM):Recs:=if G.2 g = true then M else applyM n M (wrU n M t)
def decG (n:Nat) (g:TagM) (t:TxX) (M:Recs) (G:GM×DM):GM×DM :=
 if G.2 g = true then leaveM g G else
 if t.kind = 2∧(runW n M t).2.2 = 0 then leaveM g (movedM n (applyM n M (wrU n M t)) (t.writes.headD []) (leaveM g G)) else leaveM g G
def decC (n:Nat) (g:TagM) (t:TxX) (M:Recs) (G:GM×DM):Int:=if G.2 g = true then 112 else (runW n M t).2.2
def decO (n:Nat) (g:TagM) (t:TxX) (M:Recs) (G:GM×DM):OM:=if G.2 g = true then [] else if (runW n M t).2.2 = 0 then (runW n M t).2.1 else []
structure SzG (T:Nat) (G:GM×DM):Prop where
 gl:G.1.length ≤ T
 gs:∀ p ∈ G.1,p.2.1.length + p.2.2.length ≤ T
theorem SzG.gsz {T:Nat} {G:GM×DM} (h:SzG T G):gsz G.1 T:=⟨h.gl,fun p hp=>by have:=h.gs p hp; omega⟩
theorem SzG.up {T T':Nat} {G:GM×DM} (h:SzG T G) (ht:T ≤ T'):SzG T' G:=⟨Nat.le_trans h.gl ht,gs_up h.gs ht⟩
theorem SzG.leave {T:Nat} {G:GM×DM} (g:TagM) (h:SzG T G):SzG T (leaveM g G):=by
 obtain ⟨a,b⟩:=zRt (tag:=g) (x:=G) h.gl h.gs
 exact ⟨a,b⟩
theorem SzG.moved {T n:Nat} {S:Recs} {key:TX} {G:GM×DM} (h:SzG T G):SzG (T + 1) (movedM n S key G):=by
 obtain ⟨a,b⟩:=zRs (n:=n) (S:=S) (key:=key) (x:=G) h.gl h.gs
 exact ⟨a,gs_up b (by omega)⟩
theorem SzG.enters {T n:Nat} {S:Recs} {tag:TagM} {L:List MarkM} {G:GM×DM} (h:SzG T G):SzG (T + L.length) (enterM n S tag L G):=by
 obtain ⟨a,b⟩:=zL4 (n:=n) (S:=S) (tag:=tag) L (x:=G) h.gl h.gs
 exact ⟨a,b⟩
theorem dec_sz {n T:Nat} {g:TagM} {t:TxX} {M:Recs} {G:GM×DM} (h:SzG T G):SzG (T + 1) (decG n g t M G):=by
 unfold decG
 split
 ·exact (h.leave g).up (by omega)
 split
 ·exact ((h.leave g).moved).leave g
 ·exact (h.leave g).up (by omega)
theorem zNv {n:Nat} {M:Recs} {t:TxX} {rg:Int} (hrt:rightT rg t = true):(runW n M t).1.length ≤ 16∧((runW n M t).2.2 = 0→(runW n M t).2.1.length ≤ 16∧∀ x ∈ (runW n M t).1,x.1.length ≤ 16):=by
 obtain ⟨k1,k2,k3,k4⟩:=zFP hrt
 obtain ⟨_,g2⟩:=zTA (n:=n) (M:=M) hrt
 refine ⟨?_,fun hc=>⟨?_,fun x hx=>?_⟩⟩
 ·unfold runW
  split
  ·have h5:=zIc (n:=n) (M:=M) (to:=t.to) (ks:=t.writes) (W:=[])
   simp only [List.length_nil] at h5
   simp only; omega
  ·have h5:=zJy (n:=n) (M:=M) (xs:=t.ops) (W:=[]) (O:=[])
   simp only [List.length_nil] at h5
   omega
 ·rw [(g2 hc).2]
  have:=List.length_filter_le isOut t.ops
  omega
 ·exact k1 _ (List.mem_append_right _ ((g2 hc).1 _ hx).1)
theorem zPC {n:Nat} {M:Recs} {t:TxX} {rg:Int} (hrt:rightT rg t = true):(wrU n M t).length ≤ 16∧∀ x ∈ wrU n M t,x.1.length ≤ 16:=by
 obtain ⟨h1,h2⟩:=zNv (n:=n) (M:=M) hrt
 unfold wrU
 split
 ·rename_i hc
  refine ⟨by rw [(zEj _).length_eq]; exact h1,fun x hx=>(h2 hc).2 x ((zEj _).mem_iff.1 hx)⟩
 ·simp
abbrev sdL (st l:Nat) (a b c:Sl):List Value:=[.pointer (some ⟨st,0,none⟩),.pointer (some ⟨l,0,none⟩),a.val,b.val,c.val]
section
variable {B:World} {Γ Δ:List HProp} {k:K} {sd st l n:Nat} {M:Recs} {G:GM×DM} {a b c:Sl}
theorem s_ldA4 {α:Type} {a:Addr} {cs:List Value} {c:α→Value} {x:α} {k:α→K} (hn:∀ w,Holds B Γ w→RdN w (a.add 4) cs.toArray) (hv:cs[2]? = some (c x)) (h:HG B Γ (k x)):HG B Γ (Ld ((a.add 4).add 2) c k):=fun w hw=>⟨x,by
 have:=hn w hw 2 (by have:=(List.getElem?_eq_some_iff.1 hv).1; simpa using this)
 rw [this]; simpa using hv,h w hw⟩
theorem zMK {dm:DM} {M:GM} {tag:TagM} {N:Nat} {Q:K} (hN:gsz M N) (hNl:N ≤ 1000000) (h:HG B (LocksR l (leaveM tag (M,dm)).1 (leaveM tag (M,dm)).2::Γ) Q) :
  HG B (LocksR l M dm::Γ) (zAq.calld (some ⟨l,0,none⟩) (tagF tag).toArray Q):=fun w hw=>zG6 _ _ _ _ (zL3 hN hNl h w hw)
theorem zQo {rg:Int} {g:TagM} {t:TxX} {ms:Sl} {T:Nat} {q:Array Value→K} (hrt:rightT rg t = true) (hnn:∀ x ∈ t.ops,-9223372036854775808 ≤ x.1.n∧x.1.n ≤ 9223372036854775807) (hr:∀ w,Holds B Γ w→txRd w t) (hsz:SzG T G) (hT:T ≤ 900000) (hM:M.length ≤ 10000000)
  (h:∀ (os:Sl) (O:OX),O.map Prod.fst = decO n g t M G→HG B (SlC zA1 2 os (O.flatMap oF)::Sep.stars (O.map oB)::blk sd (.cells (sdL st l a b c).toArray zAw (0,0))::LocksR l (decG n g t M G).1 (decG n g t M G).2::StoreR st n (decR n g t M G)::Γ) (q #[.int .i64 (decC n g t M G),os.val])) :
  HG B (blk sd (.cells (sdL st l a b c).toArray zAw (0,0))::LocksR l G.1 G.2::StoreR st n M::Γ) (zAZ.call (some ⟨sd,0,none⟩) (orV g t ms).toArray q):=by
 refine fun w hw=>zHE _ _ _ _ ?_
 refine hg hw ?_
 clear hw w
 obtain ⟨k1,k2,k3,k4⟩:=zFP hrt
 obtain ⟨r1,r2⟩:=zNv (n:=n) (M:=M) hrt
 obtain ⟨w1,w2⟩:=zPC (n:=n) (M:=M) hrt
 unfold zAZ
 refine s_new fun o3=>?_
 refine s_new fun t4=>?_
 refine s_dr ?_
 refine s_nn ?_
 refine s_ld (b:=sd) (off:=1) (l:=sdL st l a b c) (x:=some ⟨l,0,none⟩) ?_
 refine s_ldN (b:=o3) (l:=orV g t ms) (l':=tagF g) ?_
 refine s_dr ?_
 refine s_ld (b:=sd) (off:=1) (l:=sdL st l a b c) (x:=some ⟨l,0,none⟩) ?_
 refine s_ldN (b:=o3) (l:=orV g t ms) (l':=tagF g) ?_
 refine s_own l ?_
 refine zL1 ?_
 unfold decO decG decC decR at h
 by_cases hd:G.2 g = true
 ·rw [hd]
  refine s_t ?_
  simp only [hd,if_true] at h
  refine s_stN (b:=t4) (l':=[.int .i64 112,Sl.val ⟨none,0,0⟩]) ?_
  refine s_own l ?_
  refine zMK hsz.gsz (by omega) ?_
  show HG B (LocksR l (leaveM g G).1 (leaveM g G).2::_) _
  refine s_ldN (b:=t4) (l':=[.int .i64 112,Sl.val ⟨none,0,0⟩]) ?_
  refine s_end (Δ:=blk sd (.cells (sdL st l a b c).toArray zAw (0,0))::LocksR l (leaveM g G).1 (leaveM g G).2::StoreR st n M::Γ) ?_
  refine fun w hw=>h ⟨none,0,0⟩ [] rfl w ?_
  exact (hw.starsNil).nilSl zA1 2
 rw [Bool.eq_false_iff.2 hd]
 refine s_f ?_
 simp only [hd,Bool.false_eq_true,if_false] at h
 refine s_dr ?_
 refine s_wsD [blk o3 (.cells (orV g t ms).toArray zBe (0,0)),blk sd (.cells (sdL st l a b c).toArray zAw (0,0))] ?_
 refine s_ldS (b:=sd) (l:=sdL st l a b c) (x:=some ⟨st,0,none⟩) ?_
 refine s_ldNS (b:=o3) (off:=4) (l:=orV g t ms) (l':=txL t) ?_
 have run:∀ {Ψ:List HProp} {kk:Array Value→Sl→K},(∀ w,Holds B Ψ w→txRd w t) →
   (∀ (os:Sl) (O:OX) (rows:Sl) (R:WX),O.map Prod.fst = (if (runW n M t).2.2 = 0 then (runW n M t).2.1 else [])→modW R = wrU n M t→(∀ p ∈ R,p.2.1.ok)→HG B (SlC zA1 2 os (O.flatMap oF)::Sep.stars (O.map oB)::SlC zBQ 5 rows (R.flatMap rowF)::Sep.stars (R.map wB)::StoreR st n M::Ψ) (kk #[.int .i64 (runW n M t).2.2,os.val] rows)) →
   HG B (StoreR st n M::Ψ) (zBd.call (some ⟨st,0,none⟩) (txL t).toArray kk):=fun {Ψ kk} hΨ hk=>by
  refine zNl (t:=t) ⟨fun x hx=>by have:=k1 x (List.mem_append_right _ hx); omega,fun x hx=>⟨by have:=(k4 x hx).1; omega,by have:=(k4 x hx).2; omega,hnn x hx⟩,by omega,by omega,by omega,fun x hx=>by have:=k1 x (List.mem_append_left _ hx); omega⟩ hΨ fun e os O rows R he hb hz hok=>?_
  subst he
  refine hk os O rows R ?_ ?_ hok
  ·split
   ·rename_i hc; exact (hz hc).1
   ·rename_i hc; rw [(hb hc).1]; rfl
  ·unfold wrU
   split
   ·rename_i hc; exact (hz hc).2
   ·rename_i hc; rw [(hb hc).2]; rfl
 have cont:∀ {r5:Nat} {os rows:Sl} {O:OX} {R:WX} {Ψ:List HProp},O.map Prod.fst = (if (runW n M t).2.2 = 0 then (runW n M t).2.1 else [])→modW R = wrU n M t→(∀ p ∈ R,p.2.1.ok) →
   HG B (SlC zBQ 5 rows (R.flatMap rowF)::Sep.stars (R.map wB)::StoreR st n M::blk r5 (.cells [.int .i64 (runW n M t).2.2,os.val].toArray zBO (0,0))::SlC zA1 2 os (O.flatMap oF)::Sep.stars (O.map oB)::LocksR l G.1 G.2::blk t4 (.cells [.int .i64 0,Sl.val ⟨none,0,0⟩].toArray zBO (0,0))::blk o3 (.cells (orV g t ms).toArray zBe (0,0))::blk sd (.cells (sdL st l a b c).toArray zAw (0,0))::Γ) (zAZ.s1 q ⟨sd,0,none⟩ ⟨o3,0,none⟩ ⟨t4,0,none⟩ ⟨r5,0,none⟩ rows (some ⟨l,0,none⟩) (tagF g).toArray):=fun {r5 os rows O R Ψ} hO hR hok=>by
  have hRl:R.length = (wrU n M t).length:=by rw [← hR]; simp [modW]
  unfold zAZ.s1
  refine s_ld (b:=sd) (l:=sdL st l a b c) (x:=some ⟨st,0,none⟩) ?_
  refine s_own st ?_
  refine zR0 (R:=R) (fun w hw=>(own_rd (s:=rows) hw).1) (fun x hx w hw=>zQm (Γ:=[]) hx hw.drops) (fun x hx=>⟨by
   have:(x.1,x.2.1) ∈ modW R:=List.mem_map.2 ⟨x,hx,rfl⟩
   rw [hR] at this
   have:=w2 _ this
   simp only at this; omega,hok x hx⟩) (by omega) ?_
  rw [hR]
  have S2:∀ {G':GM×DM},SzG (T + 1) G'→(leaveM g G') = (if t.kind = 2∧(runW n M t).2.2 = 0 then leaveM g (movedM n (applyM n M (wrU n M t)) (t.writes.headD []) (leaveM g G)) else leaveM g G) →
    HG B (blk r5 (.cells [.int .i64 (runW n M t).2.2,os.val].toArray zBO (0,0))::SlC zA1 2 os (O.flatMap oF)::Sep.stars (O.map oB)::LocksR l G'.1 G'.2::blk t4 (.cells [.int .i64 0,Sl.val ⟨none,0,0⟩].toArray zBO (0,0))::blk sd (.cells (sdL st l a b c).toArray zAw (0,0))::StoreR st n (applyM n M (wrU n M t))::Γ) (zAZ.s2 q ⟨t4,0,none⟩ ⟨r5,0,none⟩ (some ⟨l,0,none⟩) (tagF g).toArray):=fun {G'} hG' he=>by
   unfold zAZ.s2
   refine s_ldN (b:=r5) (l':=[.int .i64 (runW n M t).2.2,os.val]) ?_
   refine s_stN (b:=t4) (l':=[.int .i64 (runW n M t).2.2,os.val]) ?_
   refine s_own l ?_
   refine zMK hG'.gsz (by omega) ?_
   show HG B (LocksR l (leaveM g G').1 (leaveM g G').2::_) _
   refine s_ldN (b:=t4) (l':=[.int .i64 (runW n M t).2.2,os.val]) ?_
   have h1:=h os O hO
   rw [← he] at h1
   exact s_end h1
  refine s_ld (b:=o3) (off:=4) (l:=orV g t ms) (x:=t.kind) ?_
  have S3:∀ {bb:Bool},(bb = true ↔ t.kind = 2∧(runW n M t).2.2 = 0)→HG B (StoreR st n (applyM n M (wrU n M t))::blk r5 (.cells [.int .i64 (runW n M t).2.2,os.val].toArray zBO (0,0))::SlC zA1 2 os (O.flatMap oF)::Sep.stars (O.map oB)::LocksR l G.1 G.2::blk t4 (.cells [.int .i64 0,Sl.val ⟨none,0,0⟩].toArray zBO (0,0))::blk o3 (.cells (orV g t ms).toArray zBe (0,0))::blk sd (.cells (sdL st l a b c).toArray zAw (0,0))::Γ) (zAZ.s3 q ⟨sd,0,none⟩ ⟨o3,0,none⟩ ⟨t4,0,none⟩ ⟨r5,0,none⟩ (some ⟨l,0,none⟩) (tagF g).toArray bb):=fun {bb} hbb=>by
   unfold zAZ.s3
   cases bb
   ·have hn:¬ (t.kind = 2∧(runW n M t).2.2 = 0):=fun hh=>by have:=hbb.2 hh; cases this
    refine s_f ?_
    exact s_end (S2 (G':=G) (hsz.up (by omega)) (by rw [if_neg hn]))
   ·have hy:=hbb.1 rfl
    refine s_t ?_
    obtain ⟨_,key,hkey⟩:=zHq hrt hy.1
    refine s_dr ?_
    refine s_ld (b:=sd) (off:=1) (l:=sdL st l a b c) (x:=some ⟨l,0,none⟩) ?_
    refine s_ldN (b:=o3) (l:=orV g t ms) (l':=tagF g) ?_
    refine s_own l ?_
    refine zRo hsz.gsz (by omega) ?_
    show HG B (LocksR l (leaveM g G).1 (leaveM g G).2::_) _
    refine s_dr ?_
    refine s_ld (b:=sd) (off:=1) (l:=sdL st l a b c) (x:=some ⟨l,0,none⟩) ?_
    refine s_ld (b:=sd) (l:=sdL st l a b c) (x:=some ⟨st,0,none⟩) ?_
    refine s_ldA4 (cs:=txL t) (x:=t.ws) (fun w hw=>?_) rfl ?_
    ·exact rd_at (b:=o3) (off:=4) (l:=orV g t ms) (n:=5) hw
    refine s_idxS (L:=t.writes) (j:=0) (x:=key) (fun w hw=>(hr w (hw.drops (Δ:=Γ))).2.1) (by rw [hkey]; rfl) ?_
    refine s_own st ?_
    refine s_own l ?_
    refine zRq (N:=T) (by have:=k1 key (List.mem_append_right _ (by rw [hkey]; simp)); omega) (hsz.leave g).gsz (by omega) ?_
    show HG B (LocksR l (movedM n (applyM n M (wrU n M t)) key (leaveM g G)).1 (movedM n (applyM n M (wrU n M t)) key (leaveM g G)).2::_) _
    refine s_end (S2 (G':=movedM n (applyM n M (wrU n M t)) key (leaveM g G)) ((hsz.leave g).moved) ?_)
    rw [if_pos hy,hkey]; rfl
  refine s_ite (fun h1=>?_) fun h1=>?_
  ·have hk:t.kind = 2:=by simpa using h1
   refine s_ld (b:=r5) (l:=[.int .i64 (runW n M t).2.2,os.val]) (x:=(runW n M t).2.2) ?_
   exact s_end (S3 (by simp [hk]))
  ·have hk:t.kind ≠ 2:=by simpa using h1
   exact s_end (S3 (by simp [hk]))
 refine s_all2 ?_ ?_
 ·refine s_own st ?_
  refine run (fun w hw=>hr w hw.drops) fun os O rows R hO hR hok=>?_
  refine s_new fun r5=>?_
  refine s_stN (b:=r5) (l':=[.int .i64 (runW n M t).2.2,os.val]) ?_
  exact s_end (cont (os:=os) (Ψ:=[]) hO hR hok)
 ·refine s_new fun r5=>?_
  refine s_sv ?_
  refine s_own st ?_
  refine run (fun w hw=>hr w hw.drops) fun os O rows R hO hR hok=>?_
  refine s_stN (b:=r5) (l':=[.int .i64 (runW n M t).2.2,os.val]) ?_
  exact s_end (cont (os:=os) (Ψ:=[]) hO hR hok)
end
end Go.Proofs.YtdemfamgieonbaaGreat
namespace Go.Proofs.YtdemfamgieonbaaGreat
open Go Go.Sep Go.Sep.Bt
set_option maxRecDepth 100000
section
variable {B:World} {Γ Δ:List HProp} {k:K} {st sd n:Nat} {M:Recs} {P:Pool}
end
end Go.Proofs.YtdemfamgieonbaaGreat
namespace Go.Proofs.YtdemfamgieonbaaGreat
open Go.Proofs Go.Shelf
def sortRenI:Go.Shelf.Ren:=⟨fun | 5=>50 | 7=>87 | 8=>88 | 10=>135 | 11=>136 | 12=>137 | 13=>138 | 14=>139 | 15=>140 | 16=>141 | 17=>142 | 18=>143 | 19=>144 | 20=>145 | 30=>184 | 31=>185 | 32=>186 | 33=>187 | 34=>188 | 35=>189 | 40=>213 | n=>n,fun | 0=>0 | 3=>3 | 4=>4 | 5=>5 | 9=>9 | 22=>42 | 23=>42 | 25=>3 | 32=>204 | 35=>264 | 36=>265 | 41=>270 | 44=>273 | 46=>33 | 53=>308 | 57=>312 | 63=>339 | 64=>340 | n=>n,fun | n=>n⟩
theorem sortLayI:Go.Proofs.SlLaysM.n5 Tryz.prog sortRenI:={
 mixed:=by kernel_rfl
 f5:=⟨Tryz.f50.name,by decide,Tryz.func50.trans (congrArg some (by kernel_rfl))⟩
 f7:=⟨Tryz.f87.name,by decide,Tryz.func87.trans (congrArg some (by kernel_rfl))⟩
 f8:=Tryz.func88.trans (congrArg some (by kernel_rfl))
 f10:=⟨Tryz.f135.name,by decide,Tryz.func135.trans (congrArg some (by kernel_rfl))⟩
 f11:=⟨Tryz.f136.name,by decide,Tryz.func136.trans (congrArg some (by kernel_rfl))⟩
 f12:=⟨Tryz.f137.name,by decide,Tryz.func137.trans (congrArg some (by kernel_rfl))⟩
 f13:=⟨Tryz.f138.name,by decide,Tryz.func138.trans (congrArg some (by kernel_rfl))⟩
 f14:=⟨Tryz.f139.name,by decide,Tryz.func139.trans (congrArg some (by kernel_rfl))⟩
 f15:=⟨Tryz.f140.name,by decide,Tryz.func140.trans (congrArg some (by kernel_rfl))⟩
 f16:=⟨Tryz.f141.name,by decide,Tryz.func141.trans (congrArg some (by kernel_rfl))⟩
 f17:=⟨Tryz.f142.name,by decide,Tryz.func142.trans (congrArg some (by kernel_rfl))⟩
 f18:=⟨Tryz.f143.name,by decide,Tryz.func143.trans (congrArg some (by kernel_rfl))⟩
 f19:=Tryz.func144.trans (congrArg some (by kernel_rfl))
 f20:=Tryz.func145.trans (congrArg some (by kernel_rfl))
 f30:=⟨Tryz.f184.name,by decide,Tryz.func184.trans (congrArg some (by kernel_rfl))⟩
 f31:=Tryz.func185.trans (congrArg some (by kernel_rfl))
 f32:=Tryz.func186.trans (congrArg some (by kernel_rfl))
 f33:=⟨Tryz.f187.name,by decide,Tryz.func187.trans (congrArg some (by kernel_rfl))⟩
 f34:=⟨Tryz.f188.name,by decide,Tryz.func188.trans (congrArg some (by kernel_rfl))⟩
 f35:=⟨Tryz.f189.name,by decide,Tryz.func189.trans (congrArg some (by kernel_rfl))⟩
 f40:=⟨Tryz.f213.name,by decide,Tryz.func213.trans (congrArg some (by kernel_rfl))⟩
 t0:=Tryz.underlying0
 a0:=Tryz.isAgg0
 z0:=Tryz.sizeOf0
 v0:=Tryz.zeroValue0
 t3:=Tryz.underlying3
 a3:=Tryz.isAgg3
 z3:=Tryz.sizeOf3
 v3:=Tryz.zeroValue3
 t4:=Tryz.underlying4
 a4:=Tryz.isAgg4
 z4:=Tryz.sizeOf4
 v4:=Tryz.zeroValue4
 t5:=Tryz.underlying5
 a5:=Tryz.isAgg5
 z5:=Tryz.sizeOf5
 v5:=Tryz.zeroValue5
 t9:=Tryz.underlying9
 a9:=Tryz.isAgg9
 z9:=Tryz.sizeOf9
 v9:=Tryz.zeroValue9
 t22:=Tryz.underlying42
 a22:=Tryz.isAgg42
 z22:=Tryz.sizeOf42
 v22:=Tryz.zeroValue42
 t23:=Tryz.underlying42
 a23:=Tryz.isAgg42
 z23:=Tryz.sizeOf42
 v23:=Tryz.zeroValue42
 t25:=Tryz.underlying3
 a25:=Tryz.isAgg3
 z25:=Tryz.sizeOf3
 v25:=Tryz.zeroValue3
 t32:=Tryz.underlying204
 a32:=Tryz.isAgg204
 z32:=Tryz.sizeOf204
 v32:=Tryz.zeroValue204
 t35:=Tryz.underlying264
 a35:=Tryz.isAgg264
 z35:=Tryz.sizeOf264
 v35:=Tryz.zeroValue264
 t36:=Tryz.underlying265
 a36:=Tryz.isAgg265
 z36:=Tryz.sizeOf265
 v36:=Tryz.zeroValue265
 t41:=Tryz.underlying270
 a41:=Tryz.isAgg270
 z41:=Tryz.sizeOf270
 v41:=Tryz.zeroValue270
 t44:=Tryz.underlying273
 a44:=Tryz.isAgg273
 z44:=Tryz.sizeOf273
 v44:=Tryz.zeroValue273
 t46:=Tryz.underlying33
 a46:=Tryz.isAgg33
 z46:=Tryz.sizeOf33
 v46:=Tryz.zeroValue33
 t53:=Tryz.underlying308
 a53:=Tryz.isAgg308
 z53:=Tryz.sizeOf308
 v53:=Tryz.zeroValue308
 t57:=Tryz.underlying312
 a57:=Tryz.isAgg312
 z57:=Tryz.sizeOf312
 v57:=Tryz.zeroValue312
 t63:=Tryz.underlying339
 a63:=Tryz.isAgg339
 z63:=Tryz.sizeOf339
 v63:=Tryz.zeroValue339
 t64:=Tryz.underlying340
 a64:=Tryz.isAgg340
 z64:=Tryz.sizeOf340
 v64:=Tryz.zeroValue340
}
end Go.Proofs.YtdemfamgieonbaaGreat
namespace Go.Proofs.YtdemfamgieonbaaGreat
open Go Go.Sep
set_option maxRecDepth 100000
abbrev sortI (ss:List Int):List Int:=ss.mergeSort fun x y=>decide (x ≤ y)
section
variable {B w:World} {Γ:List HProp}
theorem zJQ {s:Sl} {ss:List Int} {k:K} (hl:ss.length ≤ 1000000) (h:Holds B (SlC ty_int 1 s (ss.map (Value.int .i64))::Γ) w) (hk:∀ w,Holds B (SlC ty_int 1 s ((sortI ss).map (Value.int .i64))::Γ) w→k w):zDO.call s k w:=by
 have hsc:=h.slCap
 have hn:ss.length = s.n:=by have:=hsc.1; simpa using this
 unfold zDO.call CallF
 cases ha:s.a with
 | none =>
  have hs0:s.n = 0:=by have:=hsc.2.2.2 ha; omega
  have hss:ss = []:=List.length_eq_zero_iff.1 (by omega)
  subst hss
  have h1:=AnyM.slices_Sort_int_none sortLayI none s.c w
  have e:[Sl.val s].toArray = #[.slice none 0 s.c]:=by
   show #[Value.slice s.a s.n s.c] = _
   rw [ha,hs0]
  rw [e]
  refine Calls.mono h1 fun e w' he=>?_
  obtain ⟨rfl,rfl⟩:=he
  exact ⟨rfl,hk _ (by simpa [sortI] using h)⟩
 | some a =>
  obtain ⟨cs,fz,h,hsp,hf,hsz,hr,hlen,hc⟩:=slOpen h ha
  obtain ⟨b,off,sp⟩:=a
  simp only at hsp
  subst hsp
  simp only at h hf hsz hr
  have hb:=h.block
  have hH:Sort.Holds (Value.int .i64) w b off ss.toArray:=fun j hj=>by
   simp only [List.size_toArray] at hj
   have h1:=hr j (by simpa using hj)
   constructor
   ·refine zBf hb ?_
    rw [h1,List.getElem?_map,List.getElem?_eq_getElem hj]
    simp [getElem!_pos,hj]
   ·exact zDK hb (hf _ (by omega) (by omega))
  have h1:=AnyM.slices_Sort_int sortLayI b off s.c ss w hH (Array.getElem?_eq_some_iff.1 hb).1 (by omega)
  have e:[Sl.val s].toArray = #[.slice (some ⟨b,off,none⟩) ss.length s.c]:=by
   show #[Value.slice s.a s.n s.c] = _
   rw [ha,hn]
  rw [e]
  refine Calls.mono h1 fun e w' he=>?_
  obtain ⟨rfl,n,os,rfl⟩:=he
  refine ⟨rfl,hk _ ?_⟩
  have h2:Holds B (blk b (.cells cs ty_int fz)::Γ) (Sort.ahead w n):=h.drew _
  have h3:=h2.setBlock (o':=.cells (Sort.putCells (Value.int .i64) off (sortI ss).toArray cs) ty_int fz) rfl
  have e2:({ (Sort.ahead w n) with heap:=(Sort.ahead w n).heap.setIfInBounds b (.cells (Sort.putCells (Value.int .i64) off (sortI ss).toArray cs) ty_int fz) }:World) = Sort.putRow (Value.int .i64) (Sort.ahead w n) b off (sortI ss).toArray:=by
   have harr:(Sort.ahead w n).heap.setIfInBounds b (.cells (Sort.putCells (Value.int .i64) off (sortI ss).toArray cs) ty_int fz) = (Sort.ahead w n).heap.modify b (Sort.onCells (Sort.putCells (Value.int .i64) off (sortI ss).toArray)):=by
    apply Array.ext_getElem?
    intro i
    rw [Array.getElem?_modify]
    by_cases hi:b = i
    ·subst hi
     rw [if_pos rfl,h2.block,Array.getElem?_setIfInBounds_self_of_lt (Array.getElem?_eq_some_iff.1 h2.block).1]
     rfl
    ·rw [if_neg hi,Array.getElem?_setIfInBounds_ne hi]
   unfold Sort.putRow Sort.mapBlock
   rw [← harr]
  rw [e2] at h3
  have h4:=holds_grow h3 os
  have hsl:(sortI ss).length = ss.length:=by simp [sortI]
  refine slShut (a:=⟨b,off,none⟩) ha h4 ⟨rfl,hf,?_,fun i hi=>?_,by rw [List.length_map,hsl]; simpa using hlen,hc⟩
  ·have:(Sort.putCells (Value.int .i64) off (sortI ss).toArray cs).size = cs.size:=by simp [Sort.putCells]
   rw [this]; exact hsz
  ·simp only [List.length_map] at hi
   unfold Sort.putCells
   rw [Array.getElem?_mapIdx]
   have hlt:off + i < cs.size:=by omega
   rw [Array.getElem?_eq_getElem hlt,Option.map_some,if_pos (by simp; omega),List.getElem?_map,List.getElem?_eq_getElem hi,Option.map_some,Nat.add_sub_cancel_left,getElem!_pos (sortI ss).toArray i (by simpa using hi)]
   simp
end
end Go.Proofs.YtdemfamgieonbaaGreat
namespace Go.Proofs.YtdemfamgieonbaaGreat
open Go Go.Sep
set_option maxRecDepth 100000
set_option maxHeartbeats 4000000
attribute [local irreducible] G Gp Cx Tx Ex Sx Dx Ox Ax Lx Rx Fx Bx Bj Al Do Ld LdN St StN New CallF Ar DoU Rd Rd2 Pu Cd Ite Fv CallV CallY Ans0 Ans1 Ans2 Ans3 Ans4 Ans5 Ext Dead Dr WithS Sv LdS LdNS RdS Rd2S Nn Idx IdxA IdxS Fld Bld Slc SlcS Cat All LoopK RangeF RangeJ TakeD
namespace F_IRRef09
instance at_25:AT Tryz.prog 25 5:=⟨by kernel_rfl⟩
instance at_35:AT Tryz.prog 35 3:=⟨by kernel_rfl⟩
instance at_37:AT Tryz.prog 37 4:=⟨by kernel_rfl⟩
instance at_40:AT Tryz.prog 40 10:=⟨by kernel_rfl⟩
instance at_84:AT Tryz.prog 84 3:=⟨by kernel_rfl⟩
instance cb_10:CB Tryz.prog 10:=⟨by kernel_rfl⟩
instance cb_211:CB Tryz.prog 211:=⟨by kernel_rfl⟩
instance cb_23:CB Tryz.prog 23:=⟨by kernel_rfl⟩
instance cb_67:CB Tryz.prog 67:=⟨by kernel_rfl⟩
instance cb_68:CB Tryz.prog 68:=⟨by kernel_rfl⟩
instance ct_3:CT Tryz.prog 3:=⟨by kernel_rfl⟩
instance ct_33:CT Tryz.prog 33:=⟨by kernel_rfl⟩
instance ct_38:CT Tryz.prog 38:=⟨by kernel_rfl⟩
instance ct_9:CT Tryz.prog 9:=⟨by kernel_rfl⟩
instance zFb:FT Tryz.prog 25 0 0 1:=⟨by kernel_rfl⟩
instance zTH:FT Tryz.prog 35 0 0 1:=⟨by kernel_rfl⟩
instance zTI:FT Tryz.prog 35 1 1 1:=⟨by kernel_rfl⟩
instance zTJ:FT Tryz.prog 35 2 2 1:=⟨by kernel_rfl⟩
instance zTK:FT Tryz.prog 37 0 0 3:=⟨by kernel_rfl⟩
instance zTL:FT Tryz.prog 37 1 3 1:=⟨by kernel_rfl⟩
instance zJI:FT Tryz.prog 40 0 0 4:=⟨by kernel_rfl⟩
instance zO9:FT Tryz.prog 40 1 4 5:=⟨by kernel_rfl⟩
instance zLX:FT Tryz.prog 40 2 9 1:=⟨by kernel_rfl⟩
instance zLY:FT Tryz.prog 48 0 0 1:=⟨by kernel_rfl⟩
instance zJJ:FT Tryz.prog 48 1 1 1:=⟨by kernel_rfl⟩
instance zLZ:FT Tryz.prog 48 2 2 10:=⟨by kernel_rfl⟩
instance zOt:FT Tryz.prog 84 0 0 1:=⟨by kernel_rfl⟩
instance zLG:FT Tryz.prog 84 1 1 1:=⟨by kernel_rfl⟩
instance mx:MX Tryz.prog:=⟨mixed⟩
instance sl_22:SLT Tryz.prog 22 9 1:=⟨by kernel_rfl⟩
instance sl_38:SLT Tryz.prog 38 84 3:=⟨by kernel_rfl⟩
instance sl_42:SLT Tryz.prog 42 3 1:=⟨by kernel_rfl⟩
instance sz_3:SZ Tryz.prog 3 1:=⟨by kernel_rfl⟩
instance sz_35:SZ Tryz.prog 35 3:=⟨by kernel_rfl⟩
instance zt_3:ZT Tryz.prog 3 (.int .i64 0):=⟨Tryz.t3,by kernel_rfl,by kernel_rfl⟩
instance zt_35:ZT Tryz.prog 35 (.agg #[(.int .i64 0),(.int .u64 0),(.int .u64 0)]):=⟨Tryz.t35,by kernel_rfl,by kernel_rfl⟩
end F_IRRef09
def zDy.b2 (Q:Bool→K)  (X2:Int→K) (a2_2:Addr) (b3_2:Addr) (i5_2:Int):K :=
 Ld (a2_2.add 9) Sl.val fun t30 =>
 Ite (decide (i5_2 < (t30.n:Int)))
  (Dr <|
  Ld (a2_2.add 9) Sl.val fun t36 =>
  Idx t36 i5_2 3 fun t38 =>
  LdN t38 3 fun t39 =>
  Ld (b3_2.add 9) Sl.val fun t41 =>
  Idx t41 i5_2 3 fun t43 =>
  LdN t43 3 fun t44 =>
  Pu Tryz.prog (do eqGuard .neq 84 (.tmp 39) (.tmp 44) (.agg t39) (.agg t44); binOp .neq 84 (.agg t39) (.agg t44):Sem Value) Value.bool fun t45 =>
  Ite t45
   (Q false)
   (Ar (IntKind.wrap .i64 (i5_2 + 1)) fun t34 =>
   X2 t34))
  (Q true)
def zDy.s1 (Q:Bool→K)  (a2_1:Addr) (b3_1:Addr) (t27_1:Bool):K :=
 Ite t27_1
  (Q false)
  (LoopK (α:=Int) (fun X x=>zDy.b2 Q X a2_1 b3_1 x) 0)
def zDy (a0:(Array Value)) (b1:(Array Value)) (Q:Bool→K):K :=
 New 40 a0 fun a2 =>
 New 40 b1 fun b3 =>
 LdN a2 4 fun t7 =>
 LdN b3 4 fun t9 =>
 Pu Tryz.prog (do eqGuard .neq 37 (.tmp 7) (.tmp 9) (.agg t7) (.agg t9); binOp .neq 37 (.agg t7) (.agg t9):Sem Value) Value.bool fun t10 =>
 Ite t10
  (zDy.s1 Q a2 b3 true)
  (LdN (a2.add 4) 5 fun t13 =>
  LdN (b3.add 4) 5 fun t15 =>
  zBl.call t13 t15 fun t16 =>
  Ite (!t16)
   (zDy.s1 Q a2 b3 true)
   (Ld (a2.add 9) Sl.val fun t21 =>
   Ld (b3.add 9) Sl.val fun t24 =>
   zDy.s1 Q a2 b3 (decide ((t21.n:Int) ≠ (t24.n:Int)))))
def zBm.s3 (Q:Bool→K) (X2:Int→K) (regions1_3:Int) (o2_3:Addr) (keys6_3:Sl) (i7_3:Int) (t92_3:Bool):K :=
 Ite t92_3
  (Q false)
  (Ar (IntKind.wrap .i64 (i7_3 + 1)) fun t62 =>
  X2 t62)
def zBm.b2 (Q:Bool→K)  (X2:Int→K) (regions1_2:Int) (o2_2:Addr) (keys6_2:Sl) (i7_2:Int):K :=
 Ite (decide (i7_2 < (keys6_2.n:Int)))
  (Dr <|
  Ld (o2_2.add 9) Sl.val fun t64 =>
  Idx t64 i7_2 3 fun t66 =>
  Ld t66 Value.string fun t68 =>
  Idx keys6_2 i7_2 1 fun t71 =>
  Ld t71 Value.string fun t72 =>
  Ite (!(t68.toList == t72.toList))
   (zBm.s3 Q X2 regions1_2 o2_2 keys6_2 i7_2 true)
   (Ld (o2_2.add 9) Sl.val fun t76 =>
   Idx t76 i7_2 3 fun t78 =>
   Ld (t78.add 1) (Value.int .i64) fun t80 =>
   Ite (decide (t80 < 0))
    (zBm.s3 Q X2 regions1_2 o2_2 keys6_2 i7_2 true)
    (Ld (o2_2.add 9) Sl.val fun t85 =>
    Idx t85 i7_2 3 fun t87 =>
    Ld (t87.add 1) (Value.int .i64) fun t89 =>
    zBm.s3 Q X2 regions1_2 o2_2 keys6_2 i7_2 (decide (regions1_2 ≤ t89)))))
  (Q true)
def zBm.s1 (Q:Bool→K)  (regions1_1:Int) (o2_1:Addr) (t47_1:Bool):K :=
 Ite t47_1
  (Q false)
  (LdN (o2_1.add 4) 5 fun t49 =>
  zCZ.call t49 fun t50 =>
  Ld (o2_1.add 9) Sl.val fun t52 =>
  Ite (decide ((t52.n:Int) ≠ (t50.n:Int)))
   (Q false)
   (LoopK (α:=Int) (fun X x=>zBm.b2 Q X regions1_1 o2_1 t50 x) 0))
def zBm (o0:(Array Value)) (regions1:Int) (Q:Bool→K):K :=
 New 40 o0 fun o2 =>
 LdN o2 3 fun t10 =>
 New 35 #[(.int .i64 0),(.int .u64 0),(.int .u64 0)] fun id5 =>
 StN id5 3 t10 <|
 LdN (o2.add 4) 5 fun t12 =>
 zAJ.call t12 regions1 fun t14 =>
 Ite (!t14)
  (zBm.s1 Q regions1 o2 true)
  (Ld id5 (Value.int .i64) fun t18 =>
  Ite (decide (t18 < 0))
   (zBm.s1 Q regions1 o2 true)
   (Ld id5 (Value.int .i64) fun t23 =>
   Ite (decide ((8:Int) < t23))
    (zBm.s1 Q regions1 o2 true)
    (Ld (id5.add 1) (Value.int .u64) fun t28 =>
    Ite (decide (t28 = 0))
     (zBm.s1 Q regions1 o2 true)
     (Ld (id5.add 2) (Value.int .u64) fun t33 =>
     Ite (decide (t33 = 0))
      (zBm.s1 Q regions1 o2 true)
      (Ld (o2.add 3) (Value.int .i64) fun t39 =>
      Ite (decide (t39 < 0))
       (zBm.s1 Q regions1 o2 true)
       (Ld (o2.add 3) (Value.int .i64) fun t45 =>
       zBm.s1 Q regions1 o2 (decide ((2:Int) < t45))))))))
def zCC.s1 (Q:Bool→K)  (t2_1:Bool):K :=
 Q t2_1
def zCC (i0:(Array Value)) (Q:Bool→K):K :=
 New 48 i0 fun i1 =>
 LdN (i1.add 2) 10 fun t4 =>
 zBm.call t4 3 fun t5 =>
 Ite (!t5)
  (Q false)
  (Ld i1 (Value.int .i64) fun t8 =>
  Ite (decide (t8 = 1))
   (Ld (i1.add 1) (Value.int .i64) fun t12 =>
   Ite (decide (t12 = 0))
    (zCC.s1 Q true)
    (Ld i1 (Value.int .i64) fun t17 =>
    Ite (decide (t17 = 2))
     (Ld (i1.add 1) (Value.int .i64) fun t21 =>
     Ite (decide ((0:Int) ≤ t21))
      (Ld (i1.add 1) (Value.int .i64) fun t26 =>
      zCC.s1 Q (decide (t26 < 64)))
      (zCC.s1 Q false))
     (zCC.s1 Q false)))
   (Ld i1 (Value.int .i64) fun t17 =>
   Ite (decide (t17 = 2))
    (Ld (i1.add 1) (Value.int .i64) fun t21 =>
    Ite (decide ((0:Int) ≤ t21))
     (Ld (i1.add 1) (Value.int .i64) fun t26 =>
     zCC.s1 Q (decide (t26 < 64)))
     (zCC.s1 Q false))
    (zCC.s1 Q false)))
def zGH.b1 (Q:Bool→K)  (X1:Int→K) (region1_1:Int) (h5_1:Sl) (i6_1:Int):K :=
 Ite (decide (i6_1 < (h5_1.n:Int)))
  (Idx h5_1 i6_1 1 fun t17 =>
  Ld t17 (Value.int .i64) fun t18 =>
  Ite (decide (t18 = region1_1))
   (Q true)
   (Ar (IntKind.wrap .i64 (i6_1 + 1)) fun t14 =>
   X1 t14))
  (Q false)
def zGH (o0:(Array Value)) (region1:Int) (Q:Bool→K):K :=
 New 40 o0 fun o2 =>
 LdN o2 10 fun t7 =>
 zBa.call t7 fun t8 =>
 LoopK (α:=Int) (fun X x=>zGH.b1 Q X region1 t8 x) 0
def zFL.s1 (Q:Bool→K)  (t2_1:Bool):K :=
 Q t2_1
def zFL (o0:(Array Value)) (Q:Bool→K):K :=
 New 40 o0 fun o1 =>
 Ld (o1.add 4) (Value.int .i64) fun t5 =>
 Ite (decide (t5 = 1))
  (LdN o1 10 fun t8 =>
  zBa.call t8 fun t9 =>
  zFL.s1 Q (decide ((t9.n:Int) = 1)))
  (zFL.s1 Q false)
def zBa.s2 (Q:Sl→K) (X1:Sl→Int→K) (o1_2:Addr) (out3_2:Sl) (i4_2:Int):K :=
 Ar (IntKind.wrap .i64 (i4_2 + 1)) fun t17 =>
 X1 out3_2 t17
def zBa.s4 (Q:Sl→K) (X1:Sl→Int→K) (X3:Bool→Int→K) (o1_4:Addr) (out3_4:Sl) (i4_4:Int) (h5_4:Int) (known6_4:Bool) (k7_4:Int):K :=
 Ar (IntKind.wrap .i64 (k7_4 + 1)) fun t29 =>
 X3 known6_4 t29
def zBa.s6 (Q:Sl→K) (X1:Sl→Int→K) (X3:Bool→Int→K) (X5:Int→K) (o1_6:Addr) (out3_6:Sl) (i4_6:Int) (k8_6:Int) (t60_6:Bool):K :=
 Ite t60_6
  (Idx out3_6 k8_6 1 fun t65 =>
  Ld t65 (Value.int .i64) fun t66 =>
  Ar (IntKind.wrap .i64 (k8_6 - 1)) fun t71 =>
  Idx out3_6 t71 1 fun t72 =>
  Ld t72 (Value.int .i64) fun t73 =>
  Idx out3_6 k8_6 1 fun t74 =>
  St t74 (.int .i64 t73) <|
  Ar (IntKind.wrap .i64 (k8_6 - 1)) fun t77 =>
  Idx out3_6 t77 1 fun t79 =>
  St t79 (.int .i64 t66) <|
  Ar (IntKind.wrap .i64 (k8_6 - 1)) fun t62 =>
  X5 t62)
  (zBa.s2 Q X1 o1_6 out3_6 i4_6)
def zBa.b5 (Q:Sl→K) (X1:Sl→Int→K) (X3:Bool→Int→K) (X5:Int→K) (o1_5:Addr) (out3_5:Sl) (i4_5:Int) (k8_5:Int):K :=
 Dr <|
 Ite (decide ((0:Int) < k8_5))
  (Idx out3_5 k8_5 1 fun t52 =>
  Ld t52 (Value.int .i64) fun t53 =>
  Ar (IntKind.wrap .i64 (k8_5 - 1)) fun t56 =>
  Idx out3_5 t56 1 fun t57 =>
  Ld t57 (Value.int .i64) fun t58 =>
  zBa.s6 Q X1 X3 X5 o1_5 out3_5 i4_5 k8_5 (decide (t53 < t58)))
  (zBa.s6 Q X1 X3 X5 o1_5 out3_5 i4_5 k8_5 false)
def zBa.b3 (Q:Sl→K) (X1:Sl→Int→K) (X3:Bool→Int→K) (o1_3:Addr) (out3_3:Sl) (i4_3:Int) (h5_3:Int) (known6_3:Bool) (k7_3:Int):K :=
 Ite (decide (k7_3 < (out3_3.n:Int)))
  (Ite known6_3
   (zBa.s4 Q X1 X3 o1_3 out3_3 i4_3 h5_3 true k7_3)
   (Idx out3_3 k7_3 1 fun t34 =>
   Ld t34 (Value.int .i64) fun t35 =>
   zBa.s4 Q X1 X3 o1_3 out3_3 i4_3 h5_3 (decide (t35 = h5_3)) k7_3))
  (Ite known6_3
   (zBa.s2 Q X1 o1_3 out3_3 i4_3)
   (New 3 #[(.int .i64 h5_3)] fun t42 =>
   Do Tryz.prog (Builtin.append_ #[42,42] 42 #[(Sl.val out3_3),(Sl.val (Sl.mk (some t42) 1 1))]) Sl.val fun t43 =>
   Ar (IntKind.wrap .i64 ((t43.n:Int) - 1)) fun t46 =>
   LoopK (α:=Int) (fun X x=>zBa.b5 Q X1 X3 X o1_3 t43 i4_3 x) t46))
def zBa.b1 (Q:Sl→K)  (X1:Sl→Int→K) (o1_1:Addr) (out3_1:Sl) (i4_1:Int):K :=
 Ld (o1_1.add 9) Sl.val fun t13 =>
 Ite (decide (i4_1 < (t13.n:Int)))
  (Ld (o1_1.add 9) Sl.val fun t19 =>
  Idx t19 i4_1 3 fun t21 =>
  Ld (t21.add 1) (Value.int .i64) fun t23 =>
  LoopK (α:=Bool×Int) (fun X x=>zBa.b3 Q X1 (fun known6_3 k7_3=>X (known6_3,k7_3)) o1_1 out3_1 i4_1 t23 x.1 x.2) (false,0))
  (Ite (decide ((out3_1.n:Int) = 0))
   (New 3 #[(.int .i64 0)] fun t83 =>
   Q (Sl.mk (some t83) 1 1))
   (Q out3_1))
def zBa (o0:(Array Value)) (Q:Sl→K):K :=
 New 40 o0 fun o1 =>
 New 3 #[] fun t10 =>
 LoopK (α:=Sl×Int) (fun X x=>zBa.b1 Q (fun out3_1 i4_1=>X (out3_1,i4_1)) o1 x.1 x.2) ((Sl.mk (some t10) 0 0),0)
end Go.Proofs.YtdemfamgieonbaaGreat
namespace Go.Proofs.YtdemfamgieonbaaGreat
open Go Go.Sep
set_option maxRecDepth 100000
abbrev SlI (s:Sl) (L:List Int):HProp:=SlC ty_int 1 s (L.map (Value.int .i64))
section
variable {B:World} {Γ Δ:List HProp} {k:K}
theorem zOJ {s:Sl} {L:List Int} {Q:Sl→K} (hL:L.length < 100000000) (h:∀ s',HG B (SlI s' (cmpct L)::Γ) (Q s')):HG B (SlI s L::Γ) (zAW.call s Q):=by
 refine fun w hw=>zFp _ _ _ ?_
 refine hg hw ?_
 clear hw w
 unfold zAW
 refine s_cap s fun a1 a2 a3 a4=>?_
 rw [List.length_map,Nat.mul_one] at a1
 refine s_ite (fun hb=>?_) fun hb=>?_
 ·have e:cmpct L = L:=by
   match L,a1 with
   | [],_=>rfl
   | [x],_=>rfl
   | x::y::L,a1=>simp only [List.length_cons] at a1; simp only [decide_eq_true_eq] at hb; omega
  rw [e] at h
  exact h s
 have hn2:2 ≤ L.length:=by simp only [decide_eq_false_iff_not] at hb; omega
 refine zDA (α:=Int) (fun x=>∃ i:Nat,x = (i:Int)∧1 ≤ i∧i ≤ L.length∧cmpct (L.take i) = L.take i) (fun x=>L.length - x.toNat) ⟨1,rfl,Nat.le_refl _,by omega,?_⟩ fun k' x hx hk'=>?_
 ·match L,hn2 with
  | x::L,_=>simp [cmpct]
 obtain ⟨i,rfl,hi1,hi,hc⟩:=hx
 unfold zAW.b1
 refine s_ite (fun hb2=>?_) fun hb2=>?_
 rotate_left
 ·have hil:i = L.length:=by simp only [decide_eq_false_iff_not] at hb2; omega
  rw [hil,List.take_length] at hc
  rw [hc] at h
  exact h s
 have hil:i < L.length:=by simp only [decide_eq_true_eq] at hb2; omega
 obtain ⟨j,rfl⟩:∃ j,i = j + 1:=⟨i - 1,by omega⟩
 have step:∀ m,m + 1 < L.length→cmpct (L.take (m + 2)) = if L[m + 1]? = L[m]? then cmpct (L.take (m + 1)) else cmpct (L.take (m + 1))++L[m + 1]?.toList:=fun m hm=>by
  have t1:L.take (m + 2) = L.take m++[L[m],L[m + 1]]:=by rw [List.take_succ_eq_append_getElem hm,List.take_succ_eq_append_getElem (by omega),List.append_assoc]; rfl
  have t2:L.take (m + 1) = L.take m++[L[m]]:=List.take_succ_eq_append_getElem (by omega)
  rw [t1,t2,zF3,List.getElem?_eq_getElem hm,List.getElem?_eq_getElem (show m < L.length by omega)]
  simp
 obtain ⟨a,ha⟩:∃ a,L[j + 1]? = some a:=⟨_,List.getElem?_eq_getElem hil⟩
 obtain ⟨b,hb'⟩:∃ b,L[j]? = some b:=⟨_,List.getElem?_eq_getElem (by omega)⟩
 refine s_dr ?_
 refine s_idx1 (c:=Value.int .i64) (L:=L) (j:=j + 1) (fun w hw=>(own_rd (s:=s) hw).1) ha ?_ rfl
 refine s_ai ?_
 refine s_idx1 (c:=Value.int .i64) (L:=L) (j:=j) (fun w hw=>(own_rd (s:=s) hw).1) hb' ?_ (by omega)
 have hst:=step j hil
 rw [ha,hb'] at hst
 refine s_ite (fun he=>?_) fun he=>?_
 rotate_left
 ·have hne:¬ some a = some b:=by simpa using he
  rw [if_neg hne] at hst
  refine s_ai ?_
  refine hk' _ ⟨j + 2,by simp; omega,by omega,hil,?_⟩ (by omega)
  rw [hst,hc,List.take_succ_eq_append_getElem hil]
  rw [List.getElem?_eq_getElem hil] at ha
  rw [Option.some.inj ha]; rfl
 have hab:some a = some b:=by simpa using he
 rw [if_pos hab,hc] at hst
 refine s_slc (lo:=j + 1) (hi:=s.n) (mx:=s.c) ?_
 refine s_loop (α:=Int×Int) (ι:=Nat×Nat×List Int) (fun y i=>y.1 = (i.1:Int)∧y.2 = (i.2.1:Int)∧1 ≤ i.2.1∧j + 1 + i.2.1 ≤ L.length∧i.1 < j + 1 + i.2.1∧i.2.2.length = L.length∧i.2.2.drop (j + i.2.1) = L.drop (j + i.2.1)∧i.2.2.take i.1 = cmpct (L.take (j + 1 + i.2.1)))
  (fun y i=>SlI s i.2.2::Γ) (fun y i=>L.length - i.2.1) (j + 1,1,L) ⟨rfl,rfl,Nat.le_refl _,by simp only; omega,by simp only; omega,rfl,rfl,hst.symm⟩ ?_
 rintro k2 ⟨_,_⟩ ⟨p,q,M⟩ ⟨rfl,rfl,hq1,hq,hpq,hM,hd,ht⟩ hk2
 simp only at hq1 hq hpq hM hd ht hk2 ⊢
 unfold zAW.b2
 simp only
 refine s_cap s fun d1 d2 d3 d4=>?_
 rw [List.length_map,Nat.mul_one] at d1
 refine s_ite (fun hb3=>?_) fun hb3=>?_
 ·have hql:j + 1 + q < L.length:=by simp only [decide_eq_true_eq] at hb3; omega
  obtain ⟨x,hx⟩:∃ x,L[j + 1 + q]? = some x:=⟨_,List.getElem?_eq_getElem hql⟩
  obtain ⟨y,hy⟩:∃ y,L[j + q]? = some y:=⟨_,List.getElem?_eq_getElem (by omega)⟩
  have hMx:M[j + 1 + q]? = some x:=by
   have:=congrArg (·[1]?) hd
   simp only [List.getElem?_drop] at this
   rw [show j + q + 1 = j + 1 + q by omega] at this
   rw [this,hx]
  have hMy:M[j + q]? = some y:=by
   have:=congrArg (·[0]?) hd
   simp only [List.getElem?_drop,Nat.add_zero] at this
   rw [this,hy]
  have hrd:∀ w,Holds B (SlI s M::Γ) w→RdC w ⟨cutA s.a (j + 1) s.c 1,s.n - (j + 1),s.c - (j + 1)⟩ 1 ((M.drop (j + 1)).map (Value.int .i64)):=fun w hw=>by
   have:=(own_rd (s:=s) hw).1.drop (l:=j + 1) (c:=s.c) (by omega) d2 d3
   rwa [Nat.mul_one,← List.map_drop] at this
  have hst2:=step (j + q) (by omega)
  rw [show j + q + 1 = j + 1 + q by omega,hx,hy,show j + q + 2 = j + 1 + (q + 1) by omega] at hst2
  refine s_dr ?_
  refine s_idx1 (c:=Value.int .i64) (L:=M.drop (j + 1)) (j:=q) hrd (by rw [List.getElem?_drop]; exact hMx) ?_ rfl
  refine s_ai ?_
  refine s_idx1 (c:=Value.int .i64) (L:=M.drop (j + 1)) (j:=q - 1) hrd (by rw [List.getElem?_drop,show j + 1 + (q - 1) = j + q by omega]; exact hMy) ?_ (by omega)
  unfold zAW.s3
  refine s_ite (fun he2=>?_) fun he2=>?_
  ·have hne:¬ some x = some y:=by simpa using he2
   rw [if_neg hne] at hst2
   refine s_idx1 (c:=Value.int .i64) (L:=M.drop (j + 1)) (j:=q) hrd (by rw [List.getElem?_drop]; exact hMx) ?_ rfl
   refine s_idx (s:=s) (i:=p) ?_
   rw [← add0 (elA s p 1)]
   refine s_stE (s:=s) ?_ (by simp; omega)
   rw [show p * 1 + 0 = p by omega,show Value.int .i64 x = (Value.int .i64) x from rfl,← List.map_set]
   refine s_ai ?_
   refine s_ai ?_
   refine hk2 _ (p + 1,q + 1,M.set p x) ⟨by simp,by simp,by simp only; omega,by simp only; omega,by simp only; omega,by simpa using hM,?_,?_⟩ (by simp only; omega)
   ·simp only
    rw [List.drop_set_of_lt (by omega),show j + (q + 1) = (j + q) + 1 by omega,← List.drop_drop,hd,List.drop_drop]
   ·simp only
    rw [zHe (by omega),ht,hst2]; rfl
  ·have heq:some x = some y:=by simpa using he2
   rw [if_pos heq] at hst2
   refine s_ai ?_
   refine hk2 _ (p,q + 1,M) ⟨rfl,by simp,by simp only; omega,by simp only; omega,by simp only; omega,hM,?_,?_⟩ (by simp only; omega)
   ·simp only
    rw [show j + (q + 1) = (j + q) + 1 by omega,← List.drop_drop,hd,List.drop_drop]
   ·simp only
    rw [ht,hst2]
 ·have hql:j + 1 + q = L.length:=by simp only [decide_eq_false_iff_not] at hb3; omega
  rw [hql,List.take_length] at ht
  refine s_slc (lo:=p) (hi:=s.n) (mx:=s.c) ?_
  refine zDm (s:=s) (m:=p) (c':=s.c) (by omega) (by omega) (Nat.le_refl _) ?_
  rw [show (M.map (Value.int .i64)).take (p * 1) = (cmpct L).map (Value.int .i64) by rw [Nat.mul_one,← List.map_take,ht]]
  refine zGt (s:=⟨s.a,p,s.c⟩) (l:=p) (q:=s.n - p) (m:=s.c) rfl (Nat.le_refl _) (by simp only; omega) (by omega) ?_
  refine s_slc (lo:=0) (hi:=p) (mx:=s.c) ?_
  rw [cut0 d3]
  exact h ⟨s.a,p,s.c⟩
def homesM (L:List MkX):List Int:=cmpct (sortI (if L.length = 0 then [0] else L.map MkX.home))
theorem zGe (L:List Int):(sortI L).length = L.length:=(List.mergeSort_perm L _).length_eq
theorem zHt {ms:Sl} {L:List MkX} {pre:List Value} {Q:Sl→K} (hpre:pre.length = 9) (hr:∀ w,Holds B Γ w→RdC w ms 3 (L.flatMap mkL)) (hL:L.length ≤ 1000) (h:∀ s,HG B (SlI s (homesM L)::Γ) (Q s)):HG B Γ (zA7.call (pre++[ms.val]).toArray Q):=fun w hw=>by
 refine zLa _ _ _ ?_
 have hn:ms.n = L.length:=rd_len zDv (by omega) (hr w hw)
 refine Sep.hg hw ?_
 clear hw w
 unfold zA7
 refine s_new fun o1=>?_
 refine s_ld (b:=o1) (x:=ms) ?_ (by rw [nth_eq,List.getElem?_append_right (by omega),hpre]; rfl)
 refine s_end (Δ:=Γ) ?_
 have fin:∀ (s:Sl) (H:List Int),H = (if L.length = 0 then [0] else L.map MkX.home)→H.length ≤ 1001→HG B (SlI s H::Γ) (zA7.s2 Q (fun _ _=>Q s) s):=fun s H hH hl=>by
  unfold zA7.s2
  refine fun w hw=>zJQ (by omega) hw fun w hw=>?_
  refine Sep.hg hw ?_
  clear hw w
  refine zOJ (by rw [zGe]; omega) fun s'=>?_
  have:=h s'
  unfold homesM at this
  rw [← hH] at this
  exact this
 refine s_nilS (E:=ty_int) (esz:=1) (vs:=([]:List Int).map (Value.int .i64)) ?_
 refine s_loop (α:=Sl×Int) (ι:=Nat) (fun x i=>x.2 = (i:Int)∧i ≤ L.length) (fun x i=>SlI x.1 ((L.take i).map MkX.home)::Γ) (fun x i=>L.length - i) 0 ⟨rfl,Nat.zero_le _⟩ ?_
 rintro k' ⟨o,_⟩ i ⟨rfl,hi⟩ hk'
 simp only at hi hk' ⊢
 refine s_cap o fun b1 b2 b3 b4=>?_
 rw [List.length_map,List.length_map,List.length_take] at b1
 unfold zA7.b1
 refine s_ite (fun hb=>?_) fun hb=>?_
 ·have hil:i < L.length:=by simp only [decide_eq_true_eq] at hb; omega
  have hge:L[i]? = some L[i]:=List.getElem?_eq_getElem hil
  have htk:L.take (i + 1) = L.take i++[L[i]]:=List.take_succ_eq_append_getElem hil
  generalize L[i] = m at hge htk
  refine s_idxN mkL zDv (fun w hw=>hr w hw.drops) hge ?_
  refine s_new fun m4=>?_
  repeat refine s_nx ?_
  refine s_app1 (s:=o) (m:=1) (us:=[.int .i64 m.home]) (fun o2 ho2=>?_)
  refine s_ai ?_
  rw [show ((L.take i).map MkX.home).map (Value.int .i64)++[.int .i64 m.home] = ((L.take (i + 1)).map MkX.home).map (Value.int .i64) by rw [htk]; simp]
  exact s_end (hk' (o2,(i:Int) + 1) (i + 1) ⟨by simp,hil⟩ (by omega))
 ·have hil:i = L.length:=by simp only [decide_eq_false_iff_not] at hb; omega
  rw [hil,List.take_length]
  have fin2:∀ (X1:Sl→Int→K) (s:Sl) (H:List Int),H = (if L.length = 0 then [0] else L.map MkX.home)→H.length ≤ 1001→HG B (SlI s H::Γ) (zA7.s2 Q X1 s):=fun X1 s H hH hl=>by
   have:=fin s H hH hl
   unfold zA7.s2 at this ⊢
   exact this
  refine s_ite (fun hc=>?_) fun hc=>?_
  ·have h0:L.length = 0:=by simp only [decide_eq_true_eq] at hc; omega
   refine s_new fun t21=>?_
   refine s_conv (A':=SlI ⟨some ⟨t21,0,none⟩,1,1⟩ [0]) (zEU (vs:=[.int .i64 0]) rfl (by simp)) ?_
   exact s_end (fin2 _ _ [0] (by rw [if_pos h0]) (by simp))
  ·have h0:L.length ≠ 0:=by simp only [decide_eq_false_iff_not] at hc; omega
   exact fin2 _ o _ (by rw [if_neg h0]) (by rw [List.length_map]; omega)
theorem zML {a b c d:Int} {t:TxX} {ms:Sl} {L:List MkX} {Q:Bool→K} (hr:∀ w,Holds B Γ w→RdC w ms 3 (L.flatMap mkL)) (hL:L.length ≤ 1000) (h:HG B Γ (Q (decide (t.kind = 1) && decide ((homesM L).length = 1)))):HG B Γ (zBq.call (orL a b c d t ms).toArray Q):=fun w hw=>by
 refine zKi _ _ _ ?_
 refine Sep.hg hw ?_
 clear hw w
 unfold zBq
 refine s_new fun o1=>?_
 repeat refine s_nx ?_
 unfold zBq.s1
 refine s_ite (fun hb=>?_) fun hb=>?_
 ·repeat refine s_nx ?_
  refine zHt (pre:=[.int .i64 a,.int .u64 b,.int .u64 c,.int .i64 d,.int .i64 t.kind,t.rs.val,t.ws.val,t.os.val,.int .i64 t.to]) (L:=L) rfl (fun w hw=>hr w hw.drops) hL fun s=>?_
  refine s_cap s fun b1 b2 b3 b4=>?_
  rw [List.length_map,Nat.mul_one] at b1
  rw [hb,Bool.true_and] at h
  rw [show decide ((s.n:Int) = 1) = decide ((homesM L).length = 1) from decide_eq_decide.2 (by omega)]
  exact s_end h
 ·rw [hb,Bool.false_and] at h
  exact s_end h
end
end Go.Proofs.YtdemfamgieonbaaGreat
namespace Go.Proofs.YtdemfamgieonbaaGreat
open Go Go.Sep
set_option maxRecDepth 100000
set_option maxHeartbeats 4000000
attribute [local irreducible] Do2
attribute [local irreducible] G Gp Cx Tx Ex Sx Dx Ox Ax Lx Rx Fx Bx Bj Al Do Ld LdN St StN New CallF Ar DoU Rd Rd2 Pu Cd Ite Fv CallV CallY Ans0 Ans1 Ans2 Ans3 Ans4 Ans5 Ext Dead Dr WithS Sv LdS LdNS RdS Rd2S Nn Idx IdxA IdxS Fld Bld Slc SlcS Cat All LoopK RangeF RangeJ TakeD
namespace F_IRFilter
instance at_37:AT Tryz.prog 37 4:=⟨by kernel_rfl⟩
instance at_40:AT Tryz.prog 40 10:=⟨by kernel_rfl⟩
instance cb_13:CB Tryz.prog 13:=⟨by kernel_rfl⟩
instance cb_14:CB Tryz.prog 14:=⟨by kernel_rfl⟩
instance cb_48:CB Tryz.prog 48:=⟨by kernel_rfl⟩
instance cb_93:CB Tryz.prog 93:=⟨by kernel_rfl⟩
instance cb_94:CB Tryz.prog 94:=⟨by kernel_rfl⟩
instance ct_196:CT Tryz.prog 196:=⟨by kernel_rfl⟩
instance ct_3:CT Tryz.prog 3:=⟨by kernel_rfl⟩
instance zUa:FT Tryz.prog 200 0 0 1:=⟨by kernel_rfl⟩
instance zUb:FT Tryz.prog 200 1 1 1:=⟨by kernel_rfl⟩
instance zUc:FT Tryz.prog 200 2 2 1:=⟨by kernel_rfl⟩
instance zJI:FT Tryz.prog 40 0 0 4:=⟨by kernel_rfl⟩
instance zLY:FT Tryz.prog 48 0 0 1:=⟨by kernel_rfl⟩
instance zJJ:FT Tryz.prog 48 1 1 1:=⟨by kernel_rfl⟩
instance zLZ:FT Tryz.prog 48 2 2 10:=⟨by kernel_rfl⟩
instance mx:MX Tryz.prog:=⟨mixed⟩
instance pl_200:PLT Tryz.prog 200 [(0,1),(1,1),(2,1)]:=⟨_,Tryz.underlying200,by kernel_rfl⟩
instance sz_3:SZ Tryz.prog 3 1:=⟨by kernel_rfl⟩
instance zt_200:ZT Tryz.prog 200 (.agg #[(.int .i64 0),(.int .i64 0),(.map none)]):=⟨Tryz.t200,by kernel_rfl,by kernel_rfl⟩
end F_IRFilter
def zDQ (region0:Int) (Q:(Option Addr)→K):K :=
 Do Tryz.prog (Instr.makeMap 196 none) Value.map fun t4 =>
 New 200 #[(.int .i64 region0),(.int .i64 (-1)),(.map t4)] fun t6 =>
 Q (some t6)
theorem zJ6 (region0:Int) (Q:(Option Addr)→K) (w:World) (h:zDQ region0 Q w):zDQ.call region0 Q w:=by
 exact g_walk 7 h Tryz.func48
def zAk.s2 (Q:Bool→K)  (f0_2:Addr) (i3_2:Addr) (t30_2:Bool):K :=
 Ite t30_2
  (Ld (i3_2.add 1) (Value.int .i64) fun t49 =>
  St (f0_2.add 1) (.int .i64 t49) <|
  Q true)
  (Q false)
def zAk.s1 (Q:Bool→K)  (f0_1:Addr) (i3_1:Addr) (single5_1:Bool) (t18_1:Bool):K :=
 Ite t18_1
  (LdN (i3_1.add 2) 4 fun t28 =>
  zB2.call (some f0_1) t28 fun t29 =>
  Q t29)
  (Dr <|
  Ld i3_1 (Value.int .i64) fun t32 =>
  Ite (decide (t32 = 2))
   (Ite (!single5_1)
    (Ld (i3_1.add 1) (Value.int .i64) fun t40 =>
    Ld (f0_1.add 1) (Value.int .i64) fun t44 =>
    zAk.s2 Q f0_1 i3_1 (decide (t44 < t40)))
    (zAk.s2 Q f0_1 i3_1 false))
   (zAk.s2 Q f0_1 i3_1 false))
def zAk (f0:(Option Addr)) (i1:(Array Value)) (Q:Bool→K):K :=
 New 48 i1 fun i3 =>
 Dr <| WithS fun S =>
 Nn f0 fun t10 =>
 LdNS S (i3.add 2) 10 fun t7 =>
 LdS S t10 (Value.int .i64) fun t12 =>
 zA7.call t7 fun t8 =>
 Sv S <|
 zBh.call t8 t12 fun t13 =>
 Ite (!t13)
  (Q false)
  (LdN (i3.add 2) 10 fun t16 =>
  zBq.call t16 fun t17 =>
  Ld i3 (Value.int .i64) fun t20 =>
  Ite (decide (t20 = 1))
   (zAk.s1 Q t10 i3 t17 t17)
   (zAk.s1 Q t10 i3 t17 false))
theorem zHF (f0:(Option Addr)) (i1:(Array Value)) (Q:Bool→K) (w:World) (h:zAk f0 i1 Q w):zAk.call f0 i1 Q w:=by
 have hJ7:JH 7 fun D=>∃ (f0_2:Addr) (i3_2:Addr),D [(0,(.pointer (some f0_2))),(3,(.pointer (some i3_2)))] (fun C=>∀ (t30_2:Bool),C [(0,(.pointer (some f0_2))),(3,(.pointer (some i3_2))),(30,(.bool t30_2))] (zAk.s2 Q f0_2 i3_2 t30_2)):=by intros; exact ⟨fun _ ⟨_,_,h⟩=>⟨_,_,h⟩⟩
 have hJ5:JH 5 fun D=>∃ (f0_1:Addr) (i3_1:Addr),D [(0,(.pointer (some f0_1))),(3,(.pointer (some i3_1)))] (fun C=>∀ (single5_1:Bool) (t18_1:Bool),C [(0,(.pointer (some f0_1))),(3,(.pointer (some i3_1))),(5,(.bool single5_1)),(18,(.bool t18_1))] (zAk.s1 Q f0_1 i3_1 single5_1 t18_1)):=by intros; exact ⟨fun _ ⟨_,_,h⟩=>⟨_,_,h⟩⟩
 have hD1:DH 1 2 [7] (.s [0,3,4,5,1,6] (.a [(2,1,.a [(7,0,.s [8] .e)])])):=by intros; exact ⟨⟩
 exact g_walk 52 h Tryz.func55
def zFj (f0:(Option Addr)) (Q:Int→K):K :=
 Nn f0 fun t4 =>
 Ld (t4.add 1) (Value.int .i64) fun t6 =>
 Q t6
def zB2 (f0:(Option Addr)) (tag1:(Array Value)) (Q:Bool→K):K :=
 New 37 tag1 fun tag3 =>
 Dr <| WithS fun S =>
 Nn f0 fun t6 =>
 LdS S (t6.add 2) Value.map fun t8 =>
 LdNS S tag3 4 fun t9 =>
 RdS Tryz.prog S (Instr.lookup 196 (.map t8) (.agg t9) false) (Value.int .i64) fun t10 =>
 Ar (IntKind.wrap .i64 (t10 + 1)) fun t11 =>
 Do2 Tryz.prog (Instr.mapEntry 196 (.map t8) (.agg t9)) (fun x y=>.tuple #[(Value.int .i64) x,.int .i64 y]) fun t12v t12st =>
 Sv S <|
 DoU Tryz.prog (Instr.entryStore 196 (.map t8) (.int .i64 t12st) (.int .i64 t11)) <|
 Dr <|
 Ld (t6.add 2) Value.map fun t17 =>
 LdN tag3 4 fun t18 =>
 Rd Tryz.prog (Instr.lookup 196 (.map t17) (.agg t18) false) (Value.int .i64) fun t19 =>
 Q (decide (t19 = 1))
theorem zGp (f0:(Option Addr)) (tag1:(Array Value)) (Q:Bool→K) (w:World) (h:zB2 f0 tag1 Q w):zB2.call f0 tag1 Q w:=by
 have hD1:DH 1 2 [9] (.s [0,1,2,3,4,5,6] (.a [(7,1,.s [8] (.a [(9,0,.e)]))])):=by intros; exact ⟨⟩
 exact zTF 21 h Tryz.func94
def zH2  (Q:(Option Addr)→K):K :=
 zDQ.call (-1) fun t1 =>
 Q t1
def zC9.s1 (Q:Bool→K)  (t4_1:Bool):K :=
 Q t4_1
def zC9 (f0:(Option Addr)) (o1:(Array Value)) (Q:Bool→K):K :=
 New 40 o1 fun o3 =>
 LdN o3 10 fun t5 =>
 zBq.call t5 fun t6 =>
 Ite (!t6)
  (LdN o3 4 fun t11 =>
  zB2.call f0 t11 fun t12 =>
  zC9.s1 Q t12)
  (zC9.s1 Q false)
end Go.Proofs.YtdemfamgieonbaaGreat
namespace Go.Proofs.YtdemfamgieonbaaGreat
open Go Go.Sep
set_option maxRecDepth 100000
structure FilM where
 last:Int
 seen:List TagM
structure FilD (S:List TagM) (N:Nat) (D:List (TagM×Int)):Prop where
 keys:D.map Prod.fst = S
 once:S.Nodup
 cnt:∀ p ∈ D,1 ≤ p.2∧p.2 ≤ N
abbrev filL (rg last:Int) (m:Nat):List Value:=[.int .i64 rg,.int .i64 last,.map (some m)]
def FilR (fb:Nat) (rg:Int) (N:Nat) (f:FilM):HProp:=ex fun m=>ex fun D:List (TagM×Int)=>Sep.stars [pur (FilD f.seen N D),blk fb (.cells (filL rg f.last m).toArray zCN (0,0)),MapR (kyS tagF) (Value.int .i64) m D]
def firstM (tag:TagM) (S:List TagM):List TagM:=if tag ∈ S then S else S++[tag]
def itemIn (rg:Int) (f:FilM) (kind ix:Int) (tag:TagM) (homes:List Int) (single:Bool):FilM×Bool :=
 if rg ∉ homes then (f,false) else
 if kind = 1∧single = true then ({ f with seen:=firstM tag f.seen },!decide (tag ∈ f.seen)) else
 if kind = 2∧single = false∧f.last < ix then ({ f with last:=ix },true) else (f,false)
section
variable {B:World} {Γ Δ:List HProp} {fb N:Nat} {rg:Int} {f:FilM} {k:K}
theorem s_fil (h:∀ m D,FilD f.seen N D→HG B (blk fb (.cells (filL rg f.last m).toArray zCN (0,0))::MapR (kyS tagF) (Value.int .i64) m D::Γ) k):HG B (FilR fb rg N f::Γ) k :=
 s_ex fun m=>s_ex fun D=>s_flat <| s_pur fun h1=>h m D h1
theorem zHG {m:Nat} {D:List (TagM×Int)} (h1:FilD f.seen N D) (h:HG B (FilR fb rg N f::Γ) k):HG B (blk fb (.cells (filL rg f.last m).toArray zCN (0,0))::MapR (kyS tagF) (Value.int .i64) m D::Γ) k:=fun w hw=>by
 refine h w ?_
 have h3:Holds B (Sep.stars [pur (FilD f.seen N D),blk fb (.cells (filL rg f.last m).toArray zCN (0,0)),MapR (kyS tagF) (Value.int .i64) m D]::Γ) w:=Holds.flat.2 (Holds.pur.2 ⟨h1,hw⟩)
 exact h3.imp fun g hg=>⟨m,D,hg⟩
instance (priority:=high) zUv:Sep.Own fb (FilR fb rg N f::Γ) (FilR fb rg N f) Γ:=⟨.refl _⟩
theorem s_filN {N':Nat} (hN:N ≤ N') (h:HG B (FilR fb rg N' f::Γ) k):HG B (FilR fb rg N f::Γ) k:=s_fil fun m D hD=>zHG ⟨hD.keys,hD.once,fun p hp=>by have:=hD.cnt p hp; omega⟩ h
theorem zQp {q:Option Addr→K} (h:∀ fb,HG B (FilR fb rg 0 ⟨-1,[]⟩::Γ) (q (some ⟨fb,0,none⟩))):HG B Γ (zDQ.call rg q):=by
 refine fun w hw=>zJ6 _ _ _ ?_
 refine hg hw ?_
 clear hw w
 unfold zDQ
 refine zI8 (enc:=kyS tagF) (cV:=Value.int .i64) fun m=>?_
 refine s_new fun fb=>?_
 exact zHG (f:=⟨-1,[]⟩) (D:=[]) ⟨rfl,by simp,by simp⟩ (h fb)
theorem zQq {D:List (TagM×Int)} {tag:TagM}:(mget tag D).isSome = true ↔ tag ∈ D.map Prod.fst:=by
 induction D with
 | nil=>simp [mget]
 | cons p D ih =>
  unfold mget
  split
  ·rename_i h; simp [h]
  ·rename_i h
   rw [ih]; simp [h]
theorem zMM {α ν:Type} [DecidableEq α] {k:α} {v:ν} {p:α×ν}:∀ {M:List (α×ν)},p ∈ mset k v M→p = (k,v)∨p ∈ M
 | [],h=>by
  unfold mset at h
  exact .inl (List.mem_singleton.1 h)
 | q::M,h=>by
  unfold mset at h
  split at h
  ·rcases List.mem_cons.1 h with h | h
   ·exact .inl h
   ·exact .inr (List.mem_cons_of_mem _ h)
  ·rcases List.mem_cons.1 h with h | h
   ·exact .inr (h ▸ List.mem_cons_self)
   ·exact (zMM h).imp id (List.mem_cons_of_mem _)
theorem zSF {tag:TagM} {q:Bool→K} (hN:N ≤ 1000000000) (h:HG B (FilR fb rg (N + 1) { f with seen:=firstM tag f.seen }::Γ) (q (!decide (tag ∈ f.seen)))):HG B (FilR fb rg N f::Γ) (zB2.call (some ⟨fb,0,none⟩) (tagF tag).toArray q):=by
 refine fun w hw=>zGp _ _ _ _ ?_
 refine hg hw ?_
 clear hw w
 refine s_fil fun m D hD=>?_
 unfold zB2
 refine s_new fun t3=>?_
 have hc:0 ≤ (mget tag D).getD 0∧(mget tag D).getD 0 ≤ N:=by
  cases hg:mget tag D with
  | none=>simp
  | some v=>have:=hD.cnt _ (zFo hg); simp only [Option.getD_some]; simp only at this; omega
 have hz:(mget tag D).getD 0 = 0 ↔ tag ∉ f.seen:=by
  rw [← hD.keys,← zQq]
  cases hg:mget tag D with
  | none=>simp
  | some v=>have:=hD.cnt _ (zFo hg); simp only [Option.getD_some,Option.isSome_some,not_true,iff_false]; simp only at this; omega
 refine s_dr ?_
 refine s_wsP (fun w=>w.cell? ((⟨fb,0,none⟩:Addr).add 2) = some (.map (some m))∧RdN w ⟨t3,0,none⟩ (tagF tag).toArray∧(Instr.lookup zEL (.map (some m)) (kyS tagF tag) false).run Tryz.prog w = .ok (.int .i64 ((mget tag D).getD 0)) w) (fun w hw=>⟨by rw [add_mk]; exact zBf (zDT hw (b:=fb)) rfl,rd_at (b:=t3) (l:=tagF tag) (n:=4) hw,zO8 (b:=m) hw zD2 zEo⟩) ?_
 refine s_nn ?_
 refine s_ldSP (x:=some m) (fun w hS=>hS.1) ?_
 refine zTG (l:=tagF tag) (fun w hS=>hS.2.1) ?_
 refine s_rdSP (x:=(mget tag D).getD 0) (fun w hS=>hS.2.2) ?_
 refine s_ai ?_
 refine zSD (b:=m) (m:=D) (cV:=Value.int .i64) (z:=(0:Int)) (a:=tag) (fndS zD2) zEo fun stp=>?_
 refine s_svP (fun w hw=>⟨by rw [add_mk]; exact zBf (zDT hw (b:=fb)) rfl,rd_at (b:=t3) (l:=tagF tag) (n:=4) hw,by
  have h1:=zO8 (b:=m) (m:=mset tag ((mget tag D).getD 0) D) (cV:=Value.int .i64) (a:=tag) (T:=zEL) (EntR.map hw) zD2 zEo
  rw [zMJ] at h1
  exact h1⟩) ?_
 refine zPl (b:=m) (enc:=kyS tagF) (cV:=Value.int .i64) (m:=D) (z:=(0:Int)) (a:=tag) (v:=(mget tag D).getD 0 + 1) rfl ?_
 refine s_dr ?_
 refine s_ld (b:=fb) (off:=2) (l:=filL rg f.last m) (x:=some m) ?_
 refine s_ldN (b:=t3) (l':=tagF tag) ?_
 refine zJo (b:=m) (m:=mset tag ((mget tag D).getD 0 + 1) D) (cV:=Value.int .i64) (z:=(0:Int)) (a:=tag) zD2 zEo ?_
 rw [zMJ,Option.getD_some]
 have e:decide ((mget tag D).getD 0 + 1 = 1) = !decide (tag ∈ f.seen):=by
  by_cases hm:tag ∈ f.seen
  ·have:¬ (mget tag D).getD 0 = 0:=fun h0=>hz.1 h0 hm
   simp [hm]; omega
  ·rw [hz.2 hm]; simp [hm]
 rw [e]
 refine s_own m ?_
 refine s_own fb ?_
 refine zHG (f:={ f with seen:=firstM tag f.seen }) (N:=N + 1) ⟨?_,?_,fun p hp=>?_⟩ (s_end h)
 ·rw [zFn,hD.keys]; rfl
 ·unfold firstM
  split
  ·exact hD.once
  ·rename_i hm
   exact List.nodup_append.2 ⟨hD.once,by simp,fun a ha b hb=>by rw [List.mem_singleton.1 hb]; exact fun e=>hm (e ▸ ha)⟩
 ·rcases zMM hp with rfl | hp
  ·simp only; omega
  ·have:=hD.cnt p hp; omega
theorem containsI {s:Sl} {L:List Int} {x:Int} {q:Bool→K} (hL:L.length < 1000000000) (hr:∀ w,Holds B Γ w→RdC w s 1 (L.map (Value.int .i64))) (h:HG B Γ (q (decide (x ∈ L)))):HG B Γ (zBh.call s x q):=fun w hw=>by
 refine zFZ _ _ _ _ ?_
 have hsn:s.n = L.length:=by have:=(hr w hw).len; simpa using this.symm
 refine hg hw ?_
 clear hw w
 unfold zBh
 refine fun w hw=>zF1 _ _ _ _ ?_
 refine hg hw ?_
 clear hw w
 unfold zBR
 refine zDA (α:=Int) (fun y=>∃ i:Nat,y = (i:Int)∧i ≤ L.length∧x ∉ L.take i) (fun y=>L.length - y.toNat) ⟨0,rfl,Nat.zero_le _,by simp⟩ fun k' y hy hk'=>?_
 obtain ⟨i,rfl,hi,hno⟩:=hy
 unfold zBR.b1
 refine s_ite (fun hb=>?_) fun hb=>?_
 ·have hil:i < L.length:=by simp only [decide_eq_true_eq] at hb; omega
  have hge:L[i]? = some L[i]:=List.getElem?_eq_getElem hil
  have hmem:L[i] ∈ L:=List.getElem_mem hil
  have htk:L.take (i + 1) = L.take i++[L[i]]:=List.take_succ_eq_append_getElem hil
  generalize L[i] = z at hge hmem htk
  refine s_idx1 (L:=L) hr hge ?_
  refine s_ite (fun hc=>?_) fun hc=>?_
  ·have hxz:x = z:=by simpa using hc
   show HG B Γ (q (decide ((0:Int) ≤ (i:Int))))
   rw [show decide ((0:Int) ≤ (i:Int)) = decide (x ∈ L) by simp [hxz,hmem]]
   exact h
  ·have hxz:x ≠ z:=by simpa using hc
   refine s_ai ?_
   refine hk' _ ⟨i + 1,by simp,hil,?_⟩ (by omega)
   rw [htk,List.mem_append,List.mem_singleton]
   exact fun hh=>hh.elim hno hxz
 ·have hil:i = L.length:=by simp only [decide_eq_false_iff_not] at hb; omega
  rw [hil,List.take_length] at hno
  show HG B Γ (q (decide ((0:Int) ≤ -1)))
  rw [show decide ((0:Int) ≤ -1) = decide (x ∈ L) by simp [hno]]
  exact h
theorem zPn {kind ix:Int} {tag:TagM} {t:TxX} {ms:Sl} {mks:List MkX} {q:Bool→K} (hm:∀ w,Holds B Γ w→RdC w ms 3 (mks.flatMap mkL)) (hml:mks.length ≤ 1000) (hN:N ≤ 1000000000)
  (h:HG B (FilR fb rg (N + 1) (itemIn rg f kind ix tag (homesM mks) (decide (t.kind = 1) && decide ((homesM mks).length = 1))).1::Γ) (q (itemIn rg f kind ix tag (homesM mks) (decide (t.kind = 1) && decide ((homesM mks).length = 1))).2)) :
  HG B (FilR fb rg N f::Γ) (zAk.call (some ⟨fb,0,none⟩) (.int .i64 kind::.int .i64 ix::orV tag t ms).toArray q):=by
 refine fun w hw=>zHF _ _ _ _ ?_
 refine hg hw ?_
 clear hw w
 have hhl:(homesM mks).length ≤ 100000:=by
  have h1:=zFs (sortI (if mks.length = 0 then [0] else mks.map MkX.home))
  rw [zGe] at h1
  have h2:(if mks.length = 0 then [0] else mks.map MkX.home).length ≤ 1000:=by split <;> simp <;> omega
  unfold homesM
  omega
 generalize hH:homesM mks = H at *
 generalize hS:(decide (t.kind = 1) && decide (H.length = 1)) = sg at *
 refine s_fil fun m D hD=>?_
 unfold zAk
 refine s_new fun i3=>?_
 refine s_dr ?_
 refine s_wsD [blk i3 (.cells (.int .i64 kind::.int .i64 ix::orV tag t ms).toArray zDo (0,0)),blk fb (.cells (filL rg f.last m).toArray zCN (0,0))] ?_
 refine s_nn ?_
 refine s_ldNS (b:=i3) (off:=2) (l:=.int .i64 kind::.int .i64 ix::orV tag t ms) (l':=orV tag t ms) ?_
 refine s_ldS (b:=fb) (l:=filL rg f.last m) (x:=rg) ?_
 refine zHt (pre:=tagF tag++txL t) (L:=mks) rfl (fun w hw=>hm w hw.drops) (by omega) fun hs=>?_
 rw [hH]
 refine s_sv ?_
 refine containsI (L:=H) (by omega) (fun w hw=>(own_rd (s:=hs) hw).1) ?_
 have back:∀ {X:List HProp} {kk:K} [Drops X (blk fb (.cells (filL rg f.last m).toArray zCN (0,0))::MapR (kyS tagF) (Value.int .i64) m D::Γ)],HG B (FilR fb rg N f::Γ) kk→HG B X kk:=by
  intro X kk d hk
  exact s_end (d:=d) (zHG hD hk)
 by_cases hr:rg ∈ H
 rotate_left
 ·rw [decide_eq_false hr]
  refine s_t ?_
  rw [show itemIn rg f kind ix tag H sg = (f,false) by unfold itemIn; rw [if_pos hr]] at h
  exact back (s_filN (by omega) h)
 rw [decide_eq_true hr]
 refine s_f ?_
 refine s_ldN (b:=i3) (off:=2) (l:=.int .i64 kind::.int .i64 ix::orV tag t ms) (l':=orV tag t ms) ?_
 refine zML (L:=mks) (fun w hw=>hm w hw.drops) (by omega) ?_
 rw [hH,hS]
 have S2:∀ b:Bool,(b = true ↔ kind = 2∧sg = false∧f.last < ix)→¬ (kind = 1∧sg = true)→HG B (blk i3 (.cells (.int .i64 kind::.int .i64 ix::orV tag t ms).toArray zDo (0,0))::blk fb (.cells (filL rg f.last m).toArray zCN (0,0))::MapR (kyS tagF) (Value.int .i64) m D::Γ) (zAk.s2 q ⟨fb,0,none⟩ ⟨i3,0,none⟩ b):=fun b hb hn=>by
  unfold zAk.s2
  cases b
  ·refine s_f ?_
   rw [show itemIn rg f kind ix tag H sg = (f,false) by unfold itemIn; rw [if_neg (by simp [hr]),if_neg hn,if_neg fun hh=>by have:=hb.2 hh; cases this]] at h
   exact back (s_filN (by omega) h)
  ·refine s_t ?_
   rw [show itemIn rg f kind ix tag H sg = ({ f with last:=ix },true) by unfold itemIn; rw [if_neg (by simp [hr]),if_neg hn,if_pos (hb.1 rfl)]] at h
   refine s_ld (b:=i3) (off:=1) (l:=.int .i64 kind::.int .i64 ix::orV tag t ms) (x:=ix) ?_
   refine s_st (b:=fb) (l:=filL rg f.last m) (l':=filL rg ix m) ?_ rfl rfl
   refine s_own m ?_
   refine s_own fb ?_
   exact zHG (f:={ f with last:=ix }) (N:=N + 1) ⟨hD.keys,hD.once,fun p hp=>by have:=hD.cnt p hp; omega⟩ (s_end h)
 have S1:∀ b:Bool,(b = true ↔ kind = 1∧sg = true)→HG B (blk i3 (.cells (.int .i64 kind::.int .i64 ix::orV tag t ms).toArray zDo (0,0))::blk fb (.cells (filL rg f.last m).toArray zCN (0,0))::MapR (kyS tagF) (Value.int .i64) m D::Γ) (zAk.s1 q ⟨fb,0,none⟩ ⟨i3,0,none⟩ sg b):=fun b hb=>by
  unfold zAk.s1
  cases b
  ·have hn:¬ (kind = 1∧sg = true):=fun hh=>by have:=hb.2 hh; cases this
   refine s_f ?_
   refine s_dr ?_
   refine s_ld (b:=i3) (l:=.int .i64 kind::.int .i64 ix::orV tag t ms) (x:=kind) ?_
   refine s_ite (fun h2=>?_) fun h2=>?_
   ·have hk2:kind = 2:=by simpa using h2
    refine s_ite (fun h3=>?_) fun h3=>?_
    ·have hs3:sg = false:=by simpa using h3
     refine s_ld (b:=i3) (off:=1) (l:=.int .i64 kind::.int .i64 ix::orV tag t ms) (x:=ix) ?_
     refine s_ld (b:=fb) (off:=1) (l:=filL rg f.last m) (x:=f.last) ?_
     exact S2 _ (by simp [hk2,hs3]) hn
    ·have hs3:sg = true:=by simpa using h3
     exact S2 false (by simp [hs3]) hn
   ·have hk2:kind ≠ 2:=by simpa using h2
    exact S2 false (by simp [hk2]) hn
  ·have hy:=hb.1 rfl
   refine s_t ?_
   refine s_ldN (b:=i3) (off:=2) (l:=.int .i64 kind::.int .i64 ix::orV tag t ms) (l':=tagF tag) ?_
   refine back ?_
   refine zSF hN ?_
   rw [show itemIn rg f kind ix tag H sg = ({ f with seen:=firstM tag f.seen },!decide (tag ∈ f.seen)) by unfold itemIn; rw [if_neg (by simp [hr]),if_pos hy]] at h
   exact h
 refine s_ld (b:=i3) (l:=.int .i64 kind::.int .i64 ix::orV tag t ms) (x:=kind) ?_
 refine s_ite (fun h1=>?_) fun h1=>?_
 ·have hk1:kind = 1:=by simpa using h1
  exact s_end (S1 sg (by simp [hk1]))
 ·have hk1:kind ≠ 1:=by simpa using h1
  exact s_end (S1 false (by simp [hk1]))
end
end Go.Proofs.YtdemfamgieonbaaGreat
namespace Go.Proofs.YtdemfamgieonbaaGreat
open Go Go.Sep Go.Sep.Bt
set_option maxRecDepth 100000
def canX (t:TxX):TxX:=⟨t.kind,t.reads,t.writes,t.ops.map fun x=>(x.1,⟨none,0,0⟩),t.to,⟨none,0,0⟩,⟨none,0,0⟩,⟨none,0,0⟩⟩
theorem zTM (t:TxX):SameP (canX t) t:=⟨rfl,rfl,rfl,rfl,by simp [canX,Function.comp_def]⟩
theorem zQr {a b:TxX} (h:SameP a b):canX a = canX b:=by
 obtain ⟨h1,h2,h3,h4,h5⟩:=h
 have e:∀ L:List OpX,(L.map fun x=>(x.1,(⟨none,0,0⟩:Sl))) = (L.map Prod.fst).map fun o=>(o,⟨none,0,0⟩):=fun L=>by simp [Function.comp_def]
 unfold canX
 rw [h1,h2,h3,h4,e,e,h5]
structure JobM where
 tag:TagM
 tx:TxX
 mks:List MkX
 need:List Int
structure JobX where
 b:Nat
 tag:TagM
 t:TxX
 ms:Sl
 mks:List MkX
 ns:Sl
 need:List Int
def eraJ (j:JobX):JobM:=⟨j.tag,canX j.t,j.mks,j.need⟩
abbrev jobL (j:JobX):List Value:=[.int .i64 j.tag.node,.int .u64 j.tag.epoch,.int .u64 j.tag.seq,.int .i64 j.tag.tr,.int .i64 j.t.kind,j.t.rs.val,j.t.ws.val,j.t.os.val,.int .i64 j.t.to,j.ms.val,j.ns.val]
abbrev ptrJ (j:JobX):Option Addr:=some ⟨j.b,0,none⟩
abbrev jobC (j:JobX) (Γ:List HProp):List HProp:=blk j.b (.cells (jobL j).toArray zIQ (0,0))::SlI j.ns j.need::SlC zBG 3 j.ms (j.mks.flatMap mkL)::txC j.t Γ
def jobO (j:JobX):HProp:=Sep.stars (jobC j [])
structure JobOk (n:Nat) (j:JobX):Prop where
 ord:OrdOk (n:Int) j.tag j.t j.mks
 nn:∀ x ∈ j.t.ops,-9223372036854775808 ≤ x.1.n∧x.1.n ≤ 9223372036854775807
 nl:j.need.length ≤ 1000
structure DcM where
 tag:TagM
 code:Int
 out:OM
structure DcX where
 tag:TagM
 code:Int
 os:Sl
 O:OX
def eraD (d:DcX):DcM:=⟨d.tag,d.code,d.O.map Prod.fst⟩
abbrev dcF (d:DcX):List Value:=[.int .i64 d.tag.node,.int .u64 d.tag.epoch,.int .u64 d.tag.seq,.int .i64 d.tag.tr,.int .i64 d.code,d.os.val]
theorem zJK (d:DcX):(dcF d).length = 6:=rfl
def dcO (d:DcX):HProp:=Sep.stars [SlC zA1 2 d.os (d.O.flatMap oF),Sep.stars (d.O.map oB)]
def takeJ {α:Type} (p:α→Bool):List α→Option (α×List α)
 | []=>none
 | j::J=>if p j then some (j,J) else (takeJ p J).map fun r=>(r.1,j::r.2)
theorem zKk {α:Type} {p:α→Bool}:∀ {J:List α},(∀ y ∈ J,p y = false)→takeJ p J = none
 | [],_=>rfl
 | j::J,h=>by
  unfold takeJ
  rw [if_neg (by simp [h j List.mem_cons_self]),zKk fun y hy=>h y (List.mem_cons_of_mem _ hy)]
  rfl
theorem zMN {α:Type} {p:α→Bool} {x:α} {C:List α}:∀ {A:List α},(∀ y ∈ A,p y = false)→p x = true→takeJ p (A++x::C) = some (x,A++C)
 | [],_,h=>by simp [takeJ,h]
 | j::J,h,h2=>by
  rw [List.cons_append]
  unfold takeJ
  rw [if_neg (by simp [h j List.mem_cons_self]),zMN (fun y hy=>h y (List.mem_cons_of_mem _ hy)) h2]
  rfl
def pick (G:GM×DM) (j:JobM):Bool:=decide (j.need = []) && (G.2 j.tag || readyM j.tag G.1)
def workM (n:Nat):Nat→List JobM→Recs→GM×DM→(List JobM×Recs×(GM×DM))×List DcM
 | 0,J,M,G=>((J,M,G),[])
 | f + 1,J,M,G=>match takeJ (pick G) J with
  | none=>((J,M,G),[])
  | some (j,J')=>((workM n f J' (decR n j.tag j.tx M G) (decG n j.tag j.tx M G)).1,⟨j.tag,decC n j.tag j.tx M G,decO n j.tag j.tx M G⟩::(workM n f J' (decR n j.tag j.tx M G) (decG n j.tag j.tx M G)).2)
theorem findS {α:Type} (p:α→Bool):∀ L:List α,(∀ y ∈ L,p y = false)∨∃ A x C,L = A++x::C∧(∀ y ∈ A,p y = false)∧p x = true
 | []=>.inl (by simp)
 | x::L=>by
  cases hx:p x with
  | true=>exact .inr ⟨[],x,L,rfl,by simp,hx⟩
  | false =>
   rcases findS p L with h | ⟨A,y,C,h1,h2,h3⟩
   ·refine .inl fun z hz=>?_
    rcases List.mem_cons.1 hz with rfl | hz
    ·exact hx
    ·exact h z hz
   ·refine .inr ⟨x::A,y,C,by rw [h1]; rfl,fun z hz=>?_,h3⟩
    rcases List.mem_cons.1 hz with rfl | hz
    ·exact hx
    ·exact h2 z hz
theorem idxS {α:Type} {p:α→Bool} {A C:List α} {x:α} (hA:∀ y ∈ A,p y = false) (hx:p x = true):idxI ((A++x::C).findIdx? p) = (A.length:Int):=by
 have:(A++x::C).findIdx? p = some A.length:=by
  rw [List.findIdx?_append,List.findIdx?_eq_none_iff.2 hA]
  simp [List.findIdx?_cons,hx]
 rw [this]; rfl
theorem zSG {n:Nat} {g:TagM} {a b:TxX} {M:Recs} {G:GM×DM} (h:SameP a b):decR n g a M G = decR n g b M G∧decG n g a M G = decG n g b M G∧decC n g a M G = decC n g b M G∧decO n g a M G = decO n g b M G:=by
 have e:=zQg (n:=n) (M:=M) h
 obtain ⟨h1,h2,h3,h4,h5⟩:=h
 unfold decR decG decC decO wrU
 rw [e,h1,h4]
 exact ⟨rfl,rfl,rfl,rfl⟩
theorem zKl {n:Nat}:∀ (W:WM) (M:Recs),(applyM n M W).length ≤ M.length + 2 * W.length
 | [],M=>by simp [applyM]
 | x::W,M=>by
  have h1:=zKb n M x
  have h2:=zKl (n:=n) W (apply1 n M x)
  show (applyM n (apply1 n M x) W).length ≤ _
  simp only [List.length_cons]; omega
theorem zSH {n:Nat} {rg:Int} {g:TagM} {t:TxX} {M:Recs} {G:GM×DM} (hrt:rightT rg t = true):(decR n g t M G).length ≤ M.length + 32:=by
 unfold decR
 split
 ·omega
 ·have:=zKl (n:=n) (wrU n M t) M
  have:=(zPC (n:=n) (M:=M) hrt).1
  omega
section
variable {B:World} {Γ Δ:List HProp} {k:K} {sd st l n:Nat} {M:Recs} {G:GM×DM} {a b c:Sl} {J:List JobX}
theorem s_job {j:JobX} (h:HG B (jobC j Γ) k):HG B (jobO j::Γ) k:=s_flat h
theorem zHH {j:JobX} (h:HG B (jobO j::Γ) k):HG B (jobC j Γ) k:=fun w hw=>h w ((Holds.flat (Δ:=jobC j [])).2 hw)
theorem s_mkDc {d:DcX} (h:HG B (dcO d::Γ) k):HG B (SlC zA1 2 d.os (d.O.flatMap oF)::Sep.stars (d.O.map oB)::Γ) k:=fun w hw=>h w ((Holds.flat (Δ:=[SlC zA1 2 d.os (d.O.flatMap oF),Sep.stars (d.O.map oB)])).2 hw)
theorem zLe {α:Type} {F:α→HProp} {A:List α} {x:α} (h:HG B (Sep.stars ((A++[x]).map F)::Γ) k):HG B (F x::Sep.stars (A.map F)::Γ) k:=by
 refine zCx (A:=A) (C:=[]) ?_ |> fun h=>by rw [List.append_nil] at h; exact h
 exact h
abbrev schP (sd st l n:Nat) (M:Recs) (G:GM×DM) (a b c:Sl) (J:List JobX) (Γ:List HProp):List HProp :=
 blk sd (.cells (sdL st l a b c).toArray zAw (0,0))::LocksR l G.1 G.2::StoreR st n M::SlC zCo 1 c ((J.map ptrJ).map Value.pointer)::Sep.stars (J.map jobO)::Γ
abbrev fiJ (b:Nat):Value:=.func (.func 96) #[] #[.pointer (some ⟨b,0,none⟩)]
abbrev woJ (b:Nat):Value:=.func (.func 97) #[] #[.pointer (some ⟨b,0,none⟩)]
theorem zTN {tag:TagM} {q:Option Addr→K} (hJ:J.length ≤ 1000000) (hno:(∀ j ∈ J,j.tag ≠ tag)→HG B (schP sd st l n M G a b c J Γ) (q none)) (hyes:∀ A j C,J = A++j::C→(∀ y ∈ A,y.tag ≠ tag)→j.tag = tag→HG B (schP sd st l n M G a b c J Γ) (q (ptrJ j))) :
  HG B (schP sd st l n M G a b c J Γ) (zDD.call (some ⟨sd,0,none⟩) (tagF tag).toArray q):=by
 refine fun w hw=>zID _ _ _ _ ?_
 refine hg hw ?_
 clear hw w
 refine s_cap c fun a1 a2 a3 a4=>?_
 rw [List.length_map,List.length_map,Nat.mul_one] at a1
 unfold zDD
 refine s_new fun tb=>?_
 refine s_nn ?_
 refine s_ld (b:=sd) (off:=4) (l:=sdL st l a b c) (x:=c) ?_
 refine fun w hw=>zCs _ _ _ _ ?_
 refine hg hw ?_
 clear hw w
 show HG B _ (idxFK Tryz.prog (acc1 Value.pointer) c (fiJ tb) _)
 refine zG4 (vV:=fun e:JobX=>.pointer (ptrJ e)) (L:=J) (fun j=>decide (j.tag = tag)) (by omega) (by omega) (fun i x k hx hk=>?_) (fun e q he hq=>?_) ?_
 ·exact s_idx1 (c:=Value.pointer) (fun w hw=>(own_rd (s:=c) hw).1) (by rw [List.getElem?_map,hx]; rfl) hk
 ·obtain ⟨A,C,rfl⟩:=List.append_of_mem he
  refine zEt (cs:=[.pointer (some ⟨tb,0,none⟩)]) ?_
  refine fun w hw=>zHC _ _ _ _ ?_
  refine hg hw ?_
  clear hw w
  unfold zDj
  refine s_pick (Sep.stars ((A++e::C).map jobO)) ?_
  refine s_mid ?_
  refine s_job ?_
  refine s_dr ?_
  refine s_nn ?_
  refine s_ldN (b:=e.b) (l:=jobL e) (l':=tagF e.tag) ?_
  refine s_ldN (b:=tb) (l':=tagF tag) ?_
  refine s_eqS (xs:=tagF e.tag) (ys:=tagF tag) (ks:=tagK) (p:=e.tag = tag) zHc ?_
  refine zHH ?_
  refine zCx ?_
  exact s_end hq
 ·rcases findS (fun j:JobX=>decide (j.tag = tag)) J with hn | ⟨A,e,C,rfl,hA,he⟩
  ·rw [List.findIdx?_eq_none_iff.2 hn]
   refine s_t ?_ (by simp [idxI])
   exact s_end (hno fun j hj=>by simpa using hn j hj)
  ·rw [idxS hA he]
   refine s_f ?_ (by simp)
   refine s_ld (b:=sd) (off:=4) (l:=sdL st l a b c) (x:=c) ?_
   refine s_idx1 (c:=Value.pointer) (L:=(A++e::C).map ptrJ) (j:=A.length) (x:=ptrJ e) (fun w hw=>(own_rd (s:=c) hw).1) (by simp) ?_
   exact s_end (hyes A e C rfl (fun y hy=>by simpa using hA y hy) (by simpa using he))
theorem zPo {f:Nat} {L:List JobM} (h:∀ y ∈ L,pick G y = false):workM n f L M G = ((L,M,G),[]):=by
 cases f with
 | zero=>rfl
 | succ f=>unfold workM; rw [zKk h]
theorem zPp {f:Nat} {A C:List JobM} {j:JobM} (hA:∀ y ∈ A,pick G y = false) (hj:pick G j = true) :
  workM n (f + 1) (A++j::C) M G = ((workM n f (A++C) (decR n j.tag j.tx M G) (decG n j.tag j.tx M G)).1,⟨j.tag,decC n j.tag j.tx M G,decO n j.tag j.tx M G⟩::(workM n f (A++C) (decR n j.tag j.tx M G) (decG n j.tag j.tx M G)).2):=by
 rw [workM,zMN hA hj]
abbrev s1B (s1 sd:Nat):HProp:=blk s1 (.cells [.pointer (some ⟨sd,0,none⟩)].toArray zEw (0,0))
theorem zTO {s1 T:Nat} {A C:List JobX} {e:JobX} {q:Bool→K} (hsz:SzG T G) (hT:T ≤ 1000000) (hJ:J = A++e::C) (hq:HG B (s1B s1 sd::schP sd st l n M G a b c J Γ) (q (pick G (eraJ e)))) :
  HG B (s1B s1 sd::schP sd st l n M G a b c J Γ) (zBU.call (ptrJ e) ⟨s1,0,none⟩ q):=by
 refine fun w hw=>zHD _ _ _ _ ?_
 refine hg hw ?_
 clear hw w
 unfold zBU zBU.s1
 subst hJ
 refine s_nn ?_
 refine s_pick (Sep.stars ((A++e::C).map jobO)) ?_
 refine s_mid ?_
 refine s_job ?_
 refine s_cap e.ns fun a1 a2 a3 a4=>?_
 rw [List.length_map,Nat.mul_one] at a1
 have hz:decide ((e.ns.n:Int) = 0) = decide (e.need = []):=by
  rw [← a1]
  cases e.need <;> simp
  omega
 have back:HG B (jobC e (Sep.stars ((A++C).map jobO)::s1B s1 sd::blk sd (.cells (sdL st l a b c).toArray zAw (0,0))::LocksR l G.1 G.2::StoreR st n M::SlC zCo 1 c (((A++e::C).map ptrJ).map Value.pointer)::Γ)) (q (pick G (eraJ e))):=by
  refine zHH ?_
  refine zCx ?_
  exact s_end hq
 have hpk:pick G (eraJ e) = (decide (e.need = []) && (G.2 e.tag || readyM e.tag G.1)):=rfl
 rw [hpk] at back
 refine s_ldN (b:=e.b) (l:=jobL e) (l':=tagF e.tag) ?_
 refine s_new fun tb=>?_
 refine s_stN (b:=tb) (l':=tagF e.tag) ?_
 refine s_dr ?_
 refine s_wsD [blk e.b (.cells (jobL e).toArray zIQ (0,0)),blk tb (.cells (tagF e.tag).toArray zBP (0,0)),s1B s1 sd,blk sd (.cells (sdL st l a b c).toArray zAw (0,0))] ?_
 refine s_ldS (b:=e.b) (off:=10) (l:=jobL e) (x:=e.ns) ?_
 rw [hz]
 refine s_ite (fun h1=>?_) fun h1=>?_
 ·refine s_ldS (b:=s1) (l:=[.pointer (some ⟨sd,0,none⟩)]) (x:=some ⟨sd,0,none⟩) ?_
  refine s_nn ?_
  refine s_ldS (b:=sd) (off:=1) (l:=sdL st l a b c) (x:=some ⟨l,0,none⟩) ?_
  refine s_ldNS (b:=tb) (l:=tagF e.tag) (l':=tagF e.tag) ?_
  refine s_own l ?_
  refine zL1 ?_
  refine s_sv ?_
  rw [h1,Bool.true_and] at back
  by_cases hd:G.2 e.tag = true
  ·rw [hd] at back ⊢
   refine s_t ?_
   exact s_end back
  ·rw [Bool.eq_false_iff.2 hd] at back ⊢
   refine s_f ?_
   refine s_ldS (b:=s1) (l:=[.pointer (some ⟨sd,0,none⟩)]) (x:=some ⟨sd,0,none⟩) ?_
   refine s_nn ?_
   refine s_ldS (b:=sd) (off:=1) (l:=sdL st l a b c) (x:=some ⟨l,0,none⟩) ?_
   refine s_ldNS (b:=tb) (l:=tagF e.tag) (l':=tagF e.tag) ?_
   refine zRp hsz.gsz hT ?_
   rw [Bool.false_or] at back
   exact s_end back
 ·rw [h1,Bool.false_and] at back
  exact s_end back
theorem zJ7 {A C:List JobX} {e:JobX}:(A++e::C).map eraJ = A.map eraJ++eraJ e::C.map eraJ:=by simp
theorem zTP {T:Nat} {q:Sl→K} (hok:∀ j ∈ J,JobOk n j) (hsz:SzG T G) (hT:T + J.length ≤ 900000) (hM:M.length + 32 * J.length ≤ 10000000)
  (h:∀ (s:Sl) (D:List DcX) (c':Sl) (J':List JobX),D.map eraD = (workM n J.length (J.map eraJ) M G).2→J'.map eraJ = (workM n J.length (J.map eraJ) M G).1.1→(∀ j ∈ J',j ∈ J)→J'.length + D.length = J.length→(workM n J.length (J.map eraJ) M G).1.2.1.length ≤ M.length + 32 * D.length→SzG (T + D.length) (workM n J.length (J.map eraJ) M G).1.2.2 →
   HG B (SlC zBV 6 s (D.flatMap dcF)::Sep.stars (D.map dcO)::schP sd st l n (workM n J.length (J.map eraJ) M G).1.2.1 (workM n J.length (J.map eraJ) M G).1.2.2 a b c' J' Γ) (q s)) :
  HG B (schP sd st l n M G a b c J Γ) (zBb.call (some ⟨sd,0,none⟩) q):=by
 refine fun w hw=>zIE _ _ _ ?_
 refine hg hw ?_
 clear hw w
 unfold zBb
 refine s_new fun s1=>?_
 refine fun w hw=>?_
 refine hg (show Holds B (SlC zBV 6 ⟨none,0,0⟩ (([]:List DcX).flatMap dcF)::Sep.stars (([]:List DcX).map dcO)::s1B s1 sd::schP sd st l n M G a b c J Γ) w from (hw.starsNil).nilSl _ _) ?_
 clear hw w
 generalize hW:workM n J.length (J.map eraJ) M G = W at h
 refine s_loop (α:=Sl) (ι:=List JobX×Recs×(GM×DM)×List DcX×Sl)
  (fun x i=>(∀ j ∈ i.1,j ∈ J)∧i.1.length + i.2.2.2.1.length = J.length∧SzG (T + i.2.2.2.1.length) i.2.2.1∧i.2.1.length ≤ M.length + 32 * i.2.2.2.1.length∧(workM n i.1.length (i.1.map eraJ) i.2.1 i.2.2.1).1 = W.1∧i.2.2.2.1.map eraD++(workM n i.1.length (i.1.map eraJ) i.2.1 i.2.2.1).2 = W.2)
  (fun x i=>SlC zBV 6 x (i.2.2.2.1.flatMap dcF)::Sep.stars (i.2.2.2.1.map dcO)::s1B s1 sd::schP sd st l n i.2.1 i.2.2.1 a b i.2.2.2.2 i.1 Γ)
  (fun x i=>i.1.length) (J,M,G,[],c) ⟨fun _ h=>h,by simp,by simpa using hsz,by simp,by rw [hW],by rw [hW]; simp⟩ ?_
 rintro k' o ⟨J1,M1,G1,D1,c1⟩ ⟨i1,i2,i3,i4,i5,i6⟩ hk'
 simp only at i1 i2 i3 i4 i5 i6 hk' ⊢
 refine s_cap c1 fun a1 a2 a3 a4=>?_
 rw [List.length_map,List.length_map,Nat.mul_one] at a1
 refine s_cap o fun b1 b2 b3 b4=>?_
 rw [zAT _ 6 zJK] at b1
 unfold zBb.b1
 refine s_ld (b:=s1) (l:=[.pointer (some ⟨sd,0,none⟩)]) (x:=some ⟨sd,0,none⟩) ?_
 refine s_nn ?_
 refine s_ld (b:=sd) (off:=4) (l:=sdL st l a b c1) (x:=c1) ?_
 refine fun w hw=>zCs _ _ _ _ ?_
 refine hg hw ?_
 clear hw w
 show HG B _ (idxFK Tryz.prog (acc1 Value.pointer) c1 (woJ s1) _)
 refine zG4 (vV:=fun e:JobX=>.pointer (ptrJ e)) (L:=J1) (fun j=>pick G1 (eraJ j)) (by omega) (by omega) (fun i x k hx hk=>?_) (fun e q he hq=>?_) ?_
 ·exact s_idx1 (c:=Value.pointer) (fun w hw=>(own_rd (s:=c1) hw).1) (by rw [List.getElem?_map,hx]; rfl) hk
 ·obtain ⟨A,C,hAC⟩:=List.append_of_mem he
  refine zEt (cs:=[.pointer (some ⟨s1,0,none⟩)]) ?_
  refine s_pick (Sep.stars (J1.map jobO)) ?_
  refine s_ownS c1 ?_
  refine s_own st ?_
  refine s_own l ?_
  refine s_own sd ?_
  refine s_own s1 ?_
  refine zTO (T:=T + D1.length) i3 (by omega) hAC ?_
  exact s_end hq
 ·rcases findS (fun j:JobX=>pick G1 (eraJ j)) J1 with hn | ⟨A,e,C,rfl,hA,he⟩
  ·rw [List.findIdx?_eq_none_iff.2 hn]
   refine s_t ?_ (by simp [idxI])
   rw [zPo (fun y hy=>by obtain ⟨z,hz,rfl⟩:=List.mem_map.1 hy; exact hn z hz)] at i5 i6
   simp only [List.append_nil] at i5 i6
   have h1:=h o D1 c1 J1 (by rw [i6]) (by rw [← i5]) i1 i2
   rw [← i5] at h1
   exact s_end (h1 i4 i3)
  ·rw [idxS hA he]
   have hlen:(A++e::C).length = A.length + (C.length + 1):=by simp
   have hwf:=zPp (n:=n) (f:=(A++C).length) (A:=A.map eraJ) (C:=C.map eraJ) (j:=eraJ e) (M:=M1) (G:=G1) (fun y hy=>by obtain ⟨z,hz,rfl⟩:=List.mem_map.1 hy; exact hA z hz) he
   rw [← zJ7,show (A++C).length + 1 = (A++e::C).length by simp; omega] at hwf
   rw [hwf] at i5 i6
   have hok1:=hok e (i1 e (by simp))
   obtain ⟨e1,e2,e3,e4⟩:=zSG (n:=n) (g:=e.tag) (a:=canX e.t) (b:=e.t) (M:=M1) (G:=G1) (zTM e.t)
   simp only [eraJ,e1,e2,e3,e4] at i5 i6
   rw [← List.map_append] at i5 i6
   refine s_f ?_ (by simp)
   refine s_ld (b:=s1) (l:=[.pointer (some ⟨sd,0,none⟩)]) (x:=some ⟨sd,0,none⟩) ?_
   refine s_nn ?_
   refine s_ld (b:=sd) (off:=4) (l:=sdL st l a b c1) (x:=c1) ?_
   refine s_idx1 (c:=Value.pointer) (L:=(A++e::C).map ptrJ) (j:=A.length) (x:=ptrJ e) (fun w hw=>(own_rd (s:=c1) hw).1) (by simp) ?_
   refine s_nn ?_
   refine s_pick (Sep.stars ((A++e::C).map jobO)) ?_
   refine s_mid ?_
   refine s_job ?_
   refine s_ldN (b:=e.b) (l:=jobL e) (l':=orV e.tag e.t e.ms) ?_
   refine s_new fun o4=>?_
   refine s_stN (b:=o4) (l':=orV e.tag e.t e.ms) ?_
   refine s_dr ?_
   refine s_wsD [blk s1 (.cells [.pointer (some ⟨sd,0,none⟩)].toArray zEw (0,0)),blk sd (.cells (sdL st l a b c1).toArray zAw (0,0))] ?_
   refine s_ai ?_
   refine s_ldS (b:=s1) (l:=[.pointer (some ⟨sd,0,none⟩)]) (x:=some ⟨sd,0,none⟩) ?_
   refine s_ldS (b:=s1) (l:=[.pointer (some ⟨sd,0,none⟩)]) (x:=some ⟨sd,0,none⟩) ?_
   refine s_nn ?_
   refine s_ldS (b:=sd) (off:=4) (l:=sdL st l a b c1) (x:=c1) ?_
   refine fun w hw=>zD9 _ _ _ _ _ ?_
   refine hg hw ?_
   clear hw w
   refine (show ∀ (Γ':List HProp) (Q':Sl→K),HG B Γ' (delK Tryz.prog zJg 0 1 c1 (A.length:Int) ((A.length:Int) + 1) Q')→HG B Γ' (zBW c1 (A.length:Int) ((A.length:Int) + 1) Q') from fun _ _ h=>h) _ _ ?_
   refine s_del (s:=c1) (E:=zCo) (i:=A.length) (j:=A.length + 1) (by omega) (by omega) (by omega) (by intro v hv; obtain ⟨y,_,rfl⟩:=List.mem_map.1 hv; rfl) (fun c2 hc2=>?_) (by kernel_rfl)
   rw [show (((A++e::C).map ptrJ).map Value.pointer).take (A.length * 1)++(((A++e::C).map ptrJ).map Value.pointer).drop ((A.length + 1) * 1) = ((A++C).map ptrJ).map Value.pointer by
    rw [Nat.mul_one,Nat.mul_one,← List.map_take,← List.map_take,← List.map_drop,← List.map_drop,List.take_left,show A++e::C = (A++[e])++C by simp,List.drop_left' (by simp)]; simp]
   refine s_sv ?_
   refine s_nn ?_
   refine s_st (b:=sd) (off:=4) (l:=sdL st l a b c1) (l':=sdL st l a b c2) ?_ rfl rfl
   refine s_dr ?_
   refine s_wsD [blk s1 (.cells [.pointer (some ⟨sd,0,none⟩)].toArray zEw (0,0)),blk o4 (.cells (orV e.tag e.t e.ms).toArray zBe (0,0))] ?_
   refine s_ldNS (b:=o4) (l:=orV e.tag e.t e.ms) (l':=tagF e.tag) ?_
   refine s_ldS (b:=s1) (l:=[.pointer (some ⟨sd,0,none⟩)]) (x:=some ⟨sd,0,none⟩) ?_
   refine s_ldNS (b:=o4) (l:=orV e.tag e.t e.ms) (l':=orV e.tag e.t e.ms) ?_
   refine s_own st ?_
   refine s_own l ?_
   refine s_own sd ?_
   refine zQo (T:=T + D1.length) hok1.ord.1 hok1.nn (fun w hw=>txC_rd (Γ:=[]) hw.drops) i3 (by omega) (by omega) fun os O hO=>?_
   refine s_sv ?_
   refine s_bldF (cs:=dcF ⟨e.tag,decC n e.tag e.t M1 G1,os,O⟩) ?_
   refine s_bld1 (cs:=dcF ⟨e.tag,decC n e.tag e.t M1 G1,os,O⟩) ?_
   refine s_new fun t42=>?_
   refine zBT (s:=o) (esz:=6) (us:=dcF ⟨e.tag,decC n e.tag e.t M1 G1,os,O⟩) (blk_rd rfl) (by simp [flatV]) (by simp only; omega) fun o' _=>?_
   rw [show D1.flatMap dcF++dcF ⟨e.tag,decC n e.tag e.t M1 G1,os,O⟩ = (D1++[(⟨e.tag,decC n e.tag e.t M1 G1,os,O⟩:DcX)]).flatMap dcF by simp]
   refine s_end (Δ:=SlC zA1 2 os (O.flatMap oF)::Sep.stars (O.map oB)::Sep.stars (D1.map dcO)::SlC zBV 6 o' ((D1++[(⟨e.tag,decC n e.tag e.t M1 G1,os,O⟩:DcX)]).flatMap dcF)::s1B s1 sd::schP sd st l n (decR n e.tag e.t M1 G1) (decG n e.tag e.t M1 G1) a b c2 (A++C) Γ) ?_
   refine s_mkDc (d:=⟨e.tag,decC n e.tag e.t M1 G1,os,O⟩) ?_
   refine zLe ?_
   refine s_end (hk' o' (A++C,decR n e.tag e.t M1 G1,decG n e.tag e.t M1 G1,D1++[⟨e.tag,decC n e.tag e.t M1 G1,os,O⟩],c2) ⟨fun j hj=>i1 j ?_,?_,?_,?_,i5,?_⟩ ?_)
   ·rcases List.mem_append.1 hj with hj | hj
    ·exact List.mem_append_left _ hj
    ·exact List.mem_append_right _ (List.mem_cons_of_mem _ hj)
   ·simp only [List.length_append,List.length_cons,List.length_nil] at i2 ⊢; omega
   ·simp only [List.length_append,List.length_cons,List.length_nil]
    exact dec_sz i3
   ·have:=zSH (n:=n) (g:=e.tag) (M:=M1) (G:=G1) hok1.ord.1
    simp only [List.length_append,List.length_cons,List.length_nil]; omega
   ·rw [← i6]; simp [eraD,hO]
   ·simp only [List.length_append,List.length_cons]; omega
end
end Go.Proofs.YtdemfamgieonbaaGreat
namespace Go.Sep
open Go Go.RowKit
section
variable {P:Program} {B:World} {Γ Δ:List HProp} {E esz:Nat} {s:Sl} {vs:List Value}
end
end Go.Sep
namespace Go.Sep
open Go Go.RowKit
section
variable {B:World} {Γ Δ:List HProp} {k:K}
theorem zSI (us l:List Value) (off:Nat) (h:off + us.length ≤ l.length):(us.zipIdx off).foldl (fun (c:Array Value) q=>c.setIfInBounds q.2 q.1) l.toArray = (l.take off++us++l.drop (off + us.length)).toArray:=by
 apply Array.ext
 ·rw [fold_size]
  simp; omega
 intro i h1 h2
 rw [fold_size] at h1
 simp only [List.size_toArray] at h1
 have e:∀ (a b:Array Value) (ha:i < a.size) (hb:i < b.size),a[i]? = b[i]?→a[i] = b[i]:=fun a b ha hb hab=>by
  rw [Array.getElem?_eq_getElem ha,Array.getElem?_eq_getElem hb] at hab
  exact Option.some.inj hab
 have e2:∀ L:List Value,L.toArray[i]? = L[i]?:=fun L=>by simp
 apply e
 rw [e2 (l.take off++us++l.drop (off + us.length)),List.append_assoc,List.getElem?_append]
 split
 ·rename_i h3
  simp only [List.length_take] at h3
  rw [zEG _ _ _ _ (by omega),List.getElem?_take,if_pos (by omega),e2 l]
 ·rename_i h3
  simp only [List.length_take] at h3 ⊢
  rw [show min off l.length = off by omega] at h3 ⊢
  rw [List.getElem?_append]
  split
  ·rename_i h4
   have h5:=zIk us off l.toArray (i - off) h4 (by simp only [List.size_toArray]; omega)
   rw [show off + (i - off) = i by omega] at h5
   exact h5
  ·rename_i h4
   rw [zEG _ _ _ _ (by omega),List.getElem?_drop,e2 l,show off + us.length + (i - off - us.length) = i by omega]
theorem s_stNP {a:Addr} {b off n:Nat} {l us:List Value} {T:TypeId} (l':List Value) (h:HG B (blk b (.cells l'.toArray T (0,0))::Δ) k) [ad:AdrIs a b off] [p:Own b Γ (blk b (.cells l.toArray T (0,0))) Δ] (hn:us.length = n:=by rfl) (ho:off + n ≤ l.length:=by exact Nat.le_of_ble_eq_true rfl) (hl:l.take off++us++l.drop (off + n) = l':=by rfl)
  (hf:us.all flatV = true:=by rfl):HG B Γ (StN a n us.toArray k):=fun w hw=>by
 subst hn
 subst hl
 have h1:=hw.perm p.perm
 have hb:=h1.block
 rw [ad.h]
 refine ⟨_,rfl,by simp,fun i hi=>?_,by simpa using zHL hf,h _ ?_⟩
 ·simp only [List.size_toArray] at hi
  rw [add_mk]
  have hlt:off + i < l.toArray.size:=by simp only [List.size_toArray]; omega
  exact ⟨⟨_,zBf hb (Array.getElem?_eq_getElem hlt)⟩,zDK hb (by omega)⟩
 ·rw [zDY _ _ _ _ _ hb,Nat.add_zero]
  have:=zSI us l off ho
  simp only at this ⊢
  rw [this]
  exact h1.setBlock rfl
end
end Go.Sep
namespace Go.Proofs.YtdemfamgieonbaaGreat
open Go Go.Sep
set_option maxRecDepth 100000
set_option maxHeartbeats 4000000
attribute [local irreducible] G Gp Cx Tx Ex Sx Dx Ox Ax Lx Rx Fx Bx Bj Al Do Ld LdN St StN New CallF Ar DoU Rd Rd2 Pu Cd Ite Fv CallV CallY Ans0 Ans1 Ans2 Ans3 Ans4 Ans5 Ext Dead Dr WithS Sv LdS LdNS RdS Rd2S Nn Idx IdxA IdxS Fld Bld Slc SlcS Cat All LoopK RangeF RangeJ TakeD
namespace F_IRSplit
instance at_40:AT Tryz.prog 40 10:=⟨by kernel_rfl⟩
instance at_48:AT Tryz.prog 48 12:=⟨by kernel_rfl⟩
instance at_84:AT Tryz.prog 84 3:=⟨by kernel_rfl⟩
instance cb_13:CB Tryz.prog 13:=⟨by kernel_rfl⟩
instance cb_173:CB Tryz.prog 173:=⟨by kernel_rfl⟩
instance cb_205:CB Tryz.prog 205:=⟨by kernel_rfl⟩
instance cb_206:CB Tryz.prog 206:=⟨by kernel_rfl⟩
instance cb_58:CB Tryz.prog 58:=⟨by kernel_rfl⟩
instance cb_93:CB Tryz.prog 93:=⟨by kernel_rfl⟩
instance ct_3:CT Tryz.prog 3:=⟨by kernel_rfl⟩
instance ct_38:CT Tryz.prog 38:=⟨by kernel_rfl⟩
instance ct_4:CT Tryz.prog 4:=⟨by kernel_rfl⟩
instance ct_63:CT Tryz.prog 63:=⟨by kernel_rfl⟩
instance zLX:FT Tryz.prog 40 2 9 1:=⟨by kernel_rfl⟩
instance zJJ:FT Tryz.prog 48 1 1 1:=⟨by kernel_rfl⟩
instance zLG:FT Tryz.prog 84 1 1 1:=⟨by kernel_rfl⟩
instance mx:MX Tryz.prog:=⟨mixed⟩
instance pl_48:PLT Tryz.prog 48 [(0,1),(1,1),(2,10)]:=⟨_,Tryz.underlying48,by kernel_rfl⟩
instance sl_38:SLT Tryz.prog 38 84 3:=⟨by kernel_rfl⟩
instance sl_63:SLT Tryz.prog 63 40 10:=⟨by kernel_rfl⟩
instance sz_4:SZ Tryz.prog 4 1:=⟨by kernel_rfl⟩
instance sz_40:SZ Tryz.prog 40 10:=⟨by kernel_rfl⟩
instance sz_48:SZ Tryz.prog 48 12:=⟨by kernel_rfl⟩
instance sz_84:SZ Tryz.prog 84 3:=⟨by kernel_rfl⟩
instance zt_4:ZT Tryz.prog 4 (.bool false):=⟨Tryz.t4,by kernel_rfl,by kernel_rfl⟩
instance zt_40:ZT Tryz.prog 40 (.agg #[(.int .i64 0),(.int .u64 0),(.int .u64 0),(.int .i64 0),(.int .i64 0),(Sl.val ⟨none,0,0⟩),(Sl.val ⟨none,0,0⟩),(Sl.val ⟨none,0,0⟩),(.int .i64 0),(Sl.val ⟨none,0,0⟩)]):=⟨Tryz.t40,by kernel_rfl,by kernel_rfl⟩
instance zt_48:ZT Tryz.prog 48 (.agg #[(.int .i64 0),(.int .i64 0),(.int .i64 0),(.int .u64 0),(.int .u64 0),(.int .i64 0),(.int .i64 0),(Sl.val ⟨none,0,0⟩),(Sl.val ⟨none,0,0⟩),(Sl.val ⟨none,0,0⟩),(.int .i64 0),(Sl.val ⟨none,0,0⟩)]):=⟨Tryz.t48,by kernel_rfl,by kernel_rfl⟩
instance zt_84:ZT Tryz.prog 84 (.agg #[(.string ⟨#[]⟩),(.int .i64 0),(.int .u64 0)]):=⟨Tryz.t84,by kernel_rfl,by kernel_rfl⟩
end F_IRSplit
def zBz.s2 (Q:Sl→K) (X1:Sl→Int→K) (region1_2:Int) (out4_2:Sl) (t8_2:Sl) (t9_2:Int) (t10_2:Int):K :=
 Ar (IntKind.wrap .i64 (t10_2 + 1)) fun t22 =>
 X1 out4_2 t22
def zBz.b1 (Q:Sl→K)  (X1:Sl→Int→K) (region1_1:Int) (t8_1:Sl) (t9_1:Int) (out4_1:Sl) (t10_1:Int):K :=
 Ite (decide (t10_1 < t9_1))
  (Idx t8_1 t10_1 3 fun t12 =>
  LdN t12 3 fun t13 =>
  New 84 #[(.string ⟨#[]⟩),(.int .i64 0),(.int .u64 0)] fun m6 =>
  StN m6 3 t13 <|
  Ld (m6.add 1) (Value.int .i64) fun t15 =>
  Ite (decide (t15 = region1_1))
   (LdN m6 3 fun t19 =>
   Bld #[(.string ⟨#[]⟩),(.int .i64 0),(.int .u64 0)] (fun i=>some (i * 3,3)) [(0,(.agg t19))] fun ct20 =>
   New 84 ct20 fun t20 =>
   Do Tryz.prog (Builtin.append_ #[38,38] 38 #[(Sl.val out4_1),(Sl.val (Sl.mk (some t20) 1 1))]) Sl.val fun t21 =>
   zBz.s2 Q X1 region1_1 t21 t8_1 t9_1 t10_1)
   (zBz.s2 Q X1 region1_1 out4_1 t8_1 t9_1 t10_1))
  (Q out4_1)
def zBz (o0:(Array Value)) (region1:Int) (Q:Sl→K):K :=
 New 40 o0 fun o2 =>
 Ld (o2.add 9) Sl.val fun t8 =>
 LoopK (α:=Sl×Int) (fun X x=>zBz.b1 Q (fun out4_1 t10_1=>X (out4_1,t10_1)) region1 t8 (t8.n:Int) x.1 x.2) ((Sl.mk none 0 0),0)
theorem zMi (o0:(Array Value)) (region1:Int) (Q:Sl→K) (w:World) (h:zBz o0 region1 Q w):zBz.call o0 region1 Q w:=by
 have hJ6:∀ (X1:(Sl×Int)→K),XH 2 X1→JH 6 fun D=>∃ (region1_2:Int) (t8_2:Sl) (t9_2:Int) (t10_2:Int),D [(1,(.int .i64 region1_2)),(8,(Sl.val t8_2)),(9,(.int .i64 t9_2)),(10,(.int .i64 t10_2))] (fun C=>∀ (out4_2:Sl),C [(1,(.int .i64 region1_2)),(4,(Sl.val out4_2)),(8,(Sl.val t8_2)),(9,(.int .i64 t9_2)),(10,(.int .i64 t10_2))] (zBz.s2 Q (fun out4_1 t10_1=>X1 (out4_1,t10_1)) region1_2 out4_2 t8_2 t9_2 t10_2)):=by intros; exact ⟨fun _ ⟨_,_,_,_,h⟩=>⟨_,_,h⟩⟩
 have hL2:∀ (region1_1:Int) (t8_1:Sl) (t9_1:Int),LH 2 (fun x:Sl×Int=>[(1,(.int .i64 region1_1)),(4,(Sl.val x.1)),(8,(Sl.val t8_1)),(9,(.int .i64 t9_1)),(10,(.int .i64 x.2))]) (fun X x=>zBz.b1 Q (fun out4_1 t10_1=>X (out4_1,t10_1)) region1_1 t8_1 t9_1 x.1 x.2):=by intros; exact ⟨⟩
 exact g_walk 24 h Tryz.func59
def zHa (global0:Sl) (region1:Int) (last2:Int) (Q:(Array Value)→Bool→K):K :=
 New 3 #[(.int .i64 last2)] fun last5 =>
 New 48 #[(.int .i64 0),(.int .i64 0),(.int .i64 0),(.int .u64 0),(.int .u64 0),(.int .i64 0),(.int .i64 0),(Sl.val ⟨none,0,0⟩),(Sl.val ⟨none,0,0⟩),(Sl.val ⟨none,0,0⟩),(.int .i64 0),(Sl.val ⟨none,0,0⟩)] fun t6 =>
 New 4 #[(.bool false)] fun t7 =>
 zIS.call global0 region1 fun t11 =>
 RangeJ Tryz.prog t11 .ret (fun (x12:(Array Value))=>[(.agg x12)]) (fun BG1 KN1 KJ1 (x12:(Array Value)) =>
  New 48 #[(.int .i64 0),(.int .i64 0),(.int .i64 0),(.int .u64 0),(.int .u64 0),(.int .i64 0),(.int .i64 0),(Sl.val ⟨none,0,0⟩),(Sl.val ⟨none,0,0⟩),(Sl.val ⟨none,0,0⟩),(.int .i64 0),(Sl.val ⟨none,0,0⟩)] fun p8 =>
  StN p8 12 x12 <|
  BG1 <|
  Ld (p8.add 1) (Value.int .i64) fun t14 =>
  Ld last5 (Value.int .i64) fun t15 =>
  Ite (decide (t15 < t14))
   (LdN p8 12 fun t17 =>
   StN t6 12 t17 <|
   St t7 (.bool true) <|
   KJ1)
   (KN1))
  (fun D1 =>
   StN t6 12 #[(.int .i64 0),(.int .i64 0),(.int .i64 0),(.int .u64 0),(.int .u64 0),(.int .i64 0),(.int .i64 0),(Sl.val ⟨none,0,0⟩),(Sl.val ⟨none,0,0⟩),(Sl.val ⟨none,0,0⟩),(.int .i64 0),(Sl.val ⟨none,0,0⟩)] <|
   St t7 (.bool false) <|
   TakeD D1 <|
   LdN t6 12 fun r0 =>
   Ld t7 Value.bool fun r1 =>
   Q r0 r1)
  (fun D1 =>
   TakeD D1 <|
   LdN t6 12 fun r0 =>
   Ld t7 Value.bool fun r1 =>
   Q r0 r1)
def zIS (global0:Sl) (region1:Int) (Q:Value→K):K :=
 New 63 #[(Sl.val global0)] fun global2 =>
 New 3 #[(.int .i64 region1)] fun region3 =>
 Q (.func (.func 204) #[] #[(.pointer (some global2)),(.pointer (some region3))])
def zCb.s2 (Q:K) (X1:Int→K) (yield0_2:Value) (t2_2:Addr) (f4_2:(Option Addr)) (t8_2:Sl) (t9_2:Int) (t10_2:Int):K :=
 Ar (IntKind.wrap .i64 (t10_2 + 1)) fun t33 =>
 X1 t33
def zCb.s3 (Q:K) (X1:Int→K) (yield0_3:Value) (t2_3:Addr) (f4_3:(Option Addr)) (i5_3:Int) (o6_3:Addr) (t8_3:Sl) (t9_3:Int) (t10_3:Int) (t25_3:Bool):K :=
 Ite t25_3
  (zCb.s2 Q X1 yield0_3 t2_3 f4_3 t8_3 t9_3 t10_3)
  (LdN o6_3 10 fun t28 =>
  zDz.call t28 fun t29 =>
  Bld #[(.int .i64 0),(.int .i64 0),(.int .i64 0),(.int .u64 0),(.int .u64 0),(.int .i64 0),(.int .i64 0),(Sl.val ⟨none,0,0⟩),(Sl.val ⟨none,0,0⟩),(Sl.val ⟨none,0,0⟩),(.int .i64 0),(Sl.val ⟨none,0,0⟩)] ([(0,1),(1,1),(2,10)][·]?) [(0,(.int .i64 2)),(1,(.int .i64 i5_3)),(2,(.agg t29))] fun t30 =>
  CallY Tryz.prog yield0_3 [(.agg t30)] <| Ans1 (fun (t31:Bool)=>Value.bool t31) fun t31 =>
  Ite (!t31)
   (Q)
   (zCb.s2 Q X1 yield0_3 t2_3 f4_3 t8_3 t9_3 t10_3))
def zCb.b1 (Q:K)  (X1:Int→K) (yield0_1:Value) (t2_1:Addr) (f4_1:(Option Addr)) (t8_1:Sl) (t9_1:Int) (t10_1:Int):K :=
 Ite (decide (t10_1 < t9_1))
  (Idx t8_1 t10_1 10 fun t13 =>
  LdN t13 10 fun t14 =>
  New 40 #[(.int .i64 0),(.int .u64 0),(.int .u64 0),(.int .i64 0),(.int .i64 0),(Sl.val ⟨none,0,0⟩),(Sl.val ⟨none,0,0⟩),(Sl.val ⟨none,0,0⟩),(.int .i64 0),(Sl.val ⟨none,0,0⟩)] fun o6 =>
  StN o6 10 t14 <|
  Dr <| WithS fun S =>
  LdNS S o6 10 fun t16 =>
  zC9.call f4_1 t16 fun t17 =>
  Sv S <|
  Ite (!t17)
   (zCb.s3 Q X1 yield0_1 t2_1 f4_1 t10_1 o6 t8_1 t9_1 t10_1 true)
   (LdNS S o6 10 fun t20 =>
   LdS S t2_1 (Value.int .i64) fun t22 =>
   zA7.call t20 fun t21 =>
   Sv S <|
   zBh.call t21 t22 fun t23 =>
   zCb.s3 Q X1 yield0_1 t2_1 f4_1 t10_1 o6 t8_1 t9_1 t10_1 (!t23)))
  (Q)
def zCb (yield0:Value) (t1:Addr) (t2:Addr) (Q:K):K :=
 zH2.call  fun t7 =>
 Ld t1 Sl.val fun t8 =>
 LoopK (α:=Int) (fun X x=>zCb.b1 Q X yield0 t2 t7 t8 (t8.n:Int) x) 0
end Go.Proofs.YtdemfamgieonbaaGreat
namespace Go.Proofs.YtdemfamgieonbaaGreat
open Go Go.Sep Go.Sep.Bt
set_option maxRecDepth 100000
structure SchM where
 M:Recs
 G:GM×DM
 fils:List FilM
 fed:List Int
 jobs:List JobM
def mM (m:MkX):MarkM:=⟨m.key,m.home,m.cnt⟩
theorem zTQ (L:List MkX):(L.map mM).flatMap markF = L.flatMap mkL:=by
 rw [List.flatMap_map]; rfl
def updN (tag:TagM) (r:Int):List JobM→List JobM
 | []=>[]
 | j::J=>if j.tag = tag then { j with need:=j.need.filter fun h=>!decide (h = r) }::J else j::updN tag r J
def runJ (n:Nat) (S:SchM):SchM×List DcM :=
 (⟨(workM n S.jobs.length S.jobs S.M S.G).1.2.1,(workM n S.jobs.length S.jobs S.M S.G).1.2.2,S.fils,S.fed,(workM n S.jobs.length S.jobs S.M S.G).1.1⟩,(workM n S.jobs.length S.jobs S.M S.G).2)
def marksIn (kind r:Int) (mks:List MkX):List MkX:=if kind = 2 then mks.filter fun m=>decide (m.home = r) else mks
abbrev sngl (t:TxX) (mks:List MkX):Bool:=decide (t.kind = 1) && decide ((homesM mks).length = 1)
abbrev filIn (r kind ix:Int) (tag:TagM) (t:TxX) (mks:List MkX) (S:SchM):FilM×Bool:=itemIn r (S.fils.getD r.toNat ⟨-1,[]⟩) kind ix tag (homesM mks) (sngl t mks)
abbrev fedS (r kind ix:Int) (tag:TagM) (t:TxX) (mks:List MkX) (S:SchM):SchM :=
 ⟨S.M,S.G,S.fils.set r.toNat (filIn r kind ix tag t mks S).1,S.fed.set r.toNat (S.fed.getD r.toNat 0 + 1),S.jobs⟩
abbrev entS (n:Nat) (r kind:Int) (tag:TagM) (mks:List MkX) (J:List JobM) (S:SchM):SchM :=
 ⟨S.M,enterM n S.M tag ((marksIn kind r mks).map mM) S.G,S.fils,S.fed,updN tag r J⟩
def feedG (n:Nat) (r kind ix:Int) (tag:TagM) (t:TxX) (mks:List MkX) (S:SchM):SchM×List DcM :=
 if (filIn r kind ix tag t mks S).2 = false then (fedS r kind ix tag t mks S,[]) else
 if (∃ j ∈ S.jobs,j.tag = tag) then
  if kind = 1 then runJ n (fedS r kind ix tag t mks S) else runJ n (entS n r kind tag mks S.jobs (fedS r kind ix tag t mks S))
 else runJ n (entS n r kind tag mks (S.jobs++[⟨tag,canX t,mks,homesM mks⟩]) (fedS r kind ix tag t mks S))
abbrev feedOk (n:Nat) (r kind ix:Int) (tag:TagM) (t:TxX) (mks:List MkX):Prop:=ItemOk kind ix∧OrdOk 3 tag t mks∧(0 ≤ r∧r < n)∧OrdOk (n:Int) tag t mks
def feedM (n:Nat) (r kind ix:Int) (tag:TagM) (t:TxX) (mks:List MkX) (S:SchM):SchM×List DcM :=
 if feedOk n r kind ix tag t mks then feedG n r kind ix tag t mks S else (S,[])
structure FX where
 b:Nat
 rg:Int
 f:FilM
abbrev ptrF (x:FX):Option Addr:=some ⟨x.b,0,none⟩
def filO (N:Nat) (x:FX):HProp:=FilR x.b x.rg N x.f
structure SchOk (n T:Nat) (S:SchM) (F:List FX) (J:List JobX):Prop where
 n1:1 ≤ n
 n3:n ≤ 3
 fils:F.map FX.f = S.fils
 rgs:F.map FX.rg = (List.range n).map fun i:Nat=>(i:Int)
 fedl:S.fed.length = n
 fedr:∀ x ∈ S.fed,0 ≤ x∧x ≤ T
 jobs:J.map eraJ = S.jobs
 ok:∀ j ∈ J,JobOk n j
 jl:J.length ≤ T
 gz:∃ K,SzG K S.G∧K + J.length ≤ 40 * T
 ml:S.M.length + 32 * J.length ≤ 40 * T
abbrev schF (sd st l n T:Nat) (S:SchM) (a b c:Sl) (F:List FX) (J:List JobX) (Γ:List HProp):List HProp :=
 schP sd st l n S.M S.G a b c J (SlC zCM 1 a ((F.map ptrF).map Value.pointer)::Sep.stars (F.map (filO T))::SlI b S.fed::Γ)
def SchS (sd n T:Nat) (S:SchM):HProp:=ex fun st=>ex fun l=>ex fun a:Sl=>ex fun b:Sl=>ex fun c:Sl=>ex fun F:List FX=>ex fun J:List JobX=>Sep.stars (pur (SchOk n T S F J)::schF sd st l n T S a b c F J [])
section
variable {B:World} {Γ Δ:List HProp} {k:K} {sd st l n T:Nat} {S:SchM} {a b c:Sl} {F:List FX} {J:List JobX} {t:TxX} {mks:List MkX} {ms:Sl} {tag:TagM}
instance (priority:=high) zUw:Sep.Own sd (SchS sd n T S::Γ) (SchS sd n T S) Γ:=⟨.refl _⟩
theorem s_sch (h:∀ st l a b c F J,SchOk n T S F J→HG B (schF sd st l n T S a b c F J Γ) k):HG B (SchS sd n T S::Γ) k :=
 s_ex fun st=>s_ex fun l=>s_ex fun a=>s_ex fun b=>s_ex fun c=>s_ex fun F=>s_ex fun J=>s_flat <| s_pur fun h1=>h st l a b c F J h1
theorem zE7 (h1:SchOk n T S F J) (h:HG B (SchS sd n T S::Γ) k):HG B (schF sd st l n T S a b c F J Γ) k:=fun w hw=>by
 refine h w ?_
 have h3:Holds B (Sep.stars (pur (SchOk n T S F J)::schF sd st l n T S a b c F J [])::Γ) w:=Holds.flat.2 (Holds.pur.2 ⟨h1,hw⟩)
 exact h3.imp fun g hg=>⟨st,l,a,b,c,F,J,hg⟩
theorem zPq {s:Sl} {L:List MkX} {Q:Sl→K} (hr:∀ w,Holds B Γ w→RdC w s 3 (L.flatMap mkL)) (hl:L.length ≤ 20000000) (h:∀ s',HG B (SlC zBG 3 s' (L.flatMap mkL)::Γ) (Q s')):HG B Γ (zBK.call s Q):=by
 refine fun w hw=>zEf _ _ _ ?_
 refine hg hw ?_
 clear hw w
 unfold zBK
 exact zFT (us:=L.flatMap mkL) hr (zSA _) (by rw [zAT _ 3 zDv]; omega) (by omega) fun s' _=>h s'
theorem zOK {Q:Array Value→K} (hr:∀ w,Holds B Γ w→txRd w t) (hm:∀ w,Holds B Γ w→RdC w ms 3 (mks.flatMap mkL)) (hl:t.reads.length ≤ 1000∧t.writes.length ≤ 1000∧t.ops.length ≤ 1000∧∀ x ∈ t.ops,x.1.val.length ≤ 1000000) (hml:mks.length ≤ 1000)
  (h:∀ t' ms',TxIs t' t→HG B (SlC zBG 3 ms' (mks.flatMap mkL)::txC t' Γ) (Q (orV tag t' ms').toArray)):HG B Γ (zDz.call (orV tag t ms).toArray Q):=by
 refine fun w hw=>zMg _ _ _ ?_
 refine hg hw ?_
 clear hw w
 unfold zDz
 refine s_new fun o1=>?_
 refine s_new fun t2=>?_
 repeat refine s_nx ?_
 refine zO7 (t:=t) (fun w hw=>hr w hw.drops) hl fun t' ht'=>?_
 repeat refine s_nx ?_
 refine zPq (L:=mks) (fun w hw=>hm w hw.drops) (by omega) fun ms'=>?_
 refine s_stNP (b:=o1) (off:=4) (us:=txL t') (orV tag t' ms) ?_
 repeat refine s_nx ?_
 exact s_end (h t' ms' ht')
theorem zPr {s:Sl} {L:List Int} {rb:Nat} {r:Int} {Q:Sl→K} (hL:L.length < 1000000000) (h:∀ s',HG B (SlI s' (L.filter fun x=>!decide (x = r))::Γ) (Q s')) [p:Sep.Own rb Γ (blk rb (.cells [.int .i64 r].toArray ty_int (0,0))) Δ] :
  HG B (SlI s L::Γ) (zAl.call s (.func (.func 61) #[] #[.pointer (some ⟨rb,0,none⟩)]) Q):=by
 refine fun w hw=>zFN _ _ _ _ ?_
 refine hg hw ?_
 clear hw w
 show HG B _ (delF1 Tryz.prog zBF.call zNE 0 (Value.int .i64) s (.func (.func 61) #[] #[.pointer (some ⟨rb,0,none⟩)]) Q)
 refine zS1 (R:=fun _=>Γ) (L:=L) (c:=Value.int .i64) (fun (_:Unit) x=>decide (x = r)) (fun _ _=>()) () (fun _ _=>True) trivial (fun _ _ _ _=>trivial) (fun s fv Q w h=>zFR _ _ _ _ h) (fun _=>rfl) hL (fun Ξ g x C q _ _ hq=>?_) fun s' _=>?_
 ·refine zEt (cs:=[.pointer (some ⟨rb,0,none⟩)]) ?_
  refine fun w hw=>zHB _ _ _ _ ?_
  refine hg hw ?_
  clear hw w
  unfold zDi
  refine s_ld (b:=rb) (l:=[.int .i64 r]) (x:=r) ?_
  exact hq
 ·rw [zIY]
  exact h s'
theorem zTR {r:Int} {Q:Sl→K} (hm:∀ w,Holds B Γ w→RdC w ms 3 (mks.flatMap mkL)) (hml:mks.length ≤ 1000) (h:∀ s,HG B (SlC zBG 3 s ((mks.filter fun m=>decide (m.home = r)).flatMap mkL)::Γ) (Q s)):HG B Γ (zBz.call (orV tag t ms).toArray r Q):=by
 refine fun w hw=>zMi _ _ _ _ ?_
 have hmn:ms.n = mks.length:=rd_len zDv (by omega) (hm w hw)
 refine hg (show Holds B (SlC zBG 3 ⟨none,0,0⟩ []::Γ) w from hw.nilSl _ _) ?_
 clear hw w
 unfold zBz
 refine s_new fun o2=>?_
 refine s_ld (b:=o2) (off:=9) (l:=orV tag t ms) (x:=ms) ?_
 refine s_loop (α:=Sl×Int) (ι:=Nat) (fun x i=>x.2 = (i:Int)∧i ≤ mks.length) (fun x i=>blk o2 (.cells (orV tag t ms).toArray zBe (0,0))::SlC zBG 3 x.1 (((mks.take i).filter fun m=>decide (m.home = r)).flatMap mkL)::Γ) (fun x i=>mks.length - i) 0 ⟨rfl,Nat.zero_le _⟩ ?_
 rintro k' ⟨o,_⟩ i ⟨rfl,hi⟩ hk'
 simp only at hi hk' ⊢
 unfold zBz.b1
 refine s_ite (fun hb=>?_) fun hb=>?_
 ·have hil:i < mks.length:=by simp only [decide_eq_true_eq] at hb; omega
  have hge:mks[i]? = some mks[i]:=List.getElem?_eq_getElem hil
  have htk:mks.take (i + 1) = mks.take i++[mks[i]]:=List.take_succ_eq_append_getElem hil
  generalize mks[i] = m at hge htk
  refine s_cap o fun a1 a2 a3 a4=>?_
  rw [zAT _ 3 zDv] at a1
  have hfl:((mks.take i).filter fun m=>decide (m.home = r)).length ≤ 1000:=by
   have:=List.length_filter_le (fun m:MkX=>decide (m.home = r)) (mks.take i)
   rw [List.length_take] at this
   omega
  refine s_idxN mkL zDv (fun w hw=>hm w hw.tail.tail) hge ?_
  refine s_new fun m6=>?_
  refine s_stN (b:=m6) (l':=mkL m) ?_
  refine s_ld (b:=m6) (off:=1) (l:=mkL m) (x:=m.home) ?_
  unfold zBz.s2
  refine s_ite (fun hc=>?_) fun hc=>?_
  ·refine s_ldN (b:=m6) (l:=mkL m) (l':=mkL m) ?_
   refine s_bld1 (cs:=mkL m) ?_
   refine s_new fun t20=>?_
   refine zBT (s:=o) (esz:=3) (us:=mkL m) (blk_rd rfl) (by simp [flatV]) (by simp only; omega) fun o' _=>?_
   refine s_ai ?_
   rw [show ((mks.take i).filter fun m=>decide (m.home = r)).flatMap mkL++mkL m = ((mks.take (i + 1)).filter fun m=>decide (m.home = r)).flatMap mkL by rw [htk,List.filter_append]; simp [show m.home = r by simpa using hc]]
   exact s_end (hk' (o',(i:Int) + 1) (i + 1) ⟨by simp,hil⟩ (by omega))
  ·refine s_ai ?_
   rw [show (mks.take i).filter (fun m=>decide (m.home = r)) = (mks.take (i + 1)).filter fun m=>decide (m.home = r) by rw [htk,List.filter_append]; simp [show ¬ m.home = r by simpa using hc]]
   exact s_end (hk' (o,(i:Int) + 1) (i + 1) ⟨by simp,hil⟩ (by omega))
 ·have hil:i = mks.length:=by simp only [decide_eq_false_iff_not] at hb; omega
  rw [hil,List.take_length]
  exact s_end (h o)
theorem zSJ {r:Int} {L:List Int} {q:Bool→K} (hL:L.length = n) (h:HG B (blk sd (.cells (sdL st l a b c).toArray zAw (0,0))::SlI b L::Γ) (q (decide (0 ≤ r∧r < n)))):HG B (blk sd (.cells (sdL st l a b c).toArray zAw (0,0))::SlI b L::Γ) (zBE.call (some ⟨sd,0,none⟩) r q):=by
 refine fun w hw=>zHs _ _ _ _ ?_
 refine hg hw ?_
 clear hw w
 refine s_cap b fun a1 a2 a3 a4=>?_
 rw [List.length_map,Nat.mul_one] at a1
 unfold zBE zBE.s1
 refine s_ite (fun h1=>?_) fun h1=>?_
 ·have h1':0 ≤ r:=by simpa using h1
  refine s_nn ?_
  refine s_ld (b:=sd) (off:=3) (l:=sdL st l a b c) (x:=b) ?_
  rw [← a1,hL,show decide (r < (n:Int)) = decide (0 ≤ r∧r < n) by simp [h1']]
  exact h
 ·have h1':¬ 0 ≤ r:=by simpa using h1
  rw [show decide (0 ≤ r∧r < n) = false by simp [h1']] at h
  exact h
theorem zMO {α:Type} {F G:α→HProp}:∀ {L:List α} {Γ:List HProp} {k:K},(∀ x ∈ L,∀ (Γ':List HProp) (k':K),HG B (G x::Γ') k'→HG B (F x::Γ') k')→HG B (Sep.stars (L.map G)::Γ) k→HG B (Sep.stars (L.map F)::Γ) k
 | [],Γ,k,_,h=>h
 | x::L,Γ,k,h1,h=>by
  refine s_flat (Δ:=F x::L.map F) ?_
  refine h1 x List.mem_cons_self _ _ ?_
  refine fun w hw=>?_
  refine (zMO (F:=F) (G:=G) (L:=L) (Γ:=G x::Γ) (fun y hy=>h1 y (List.mem_cons_of_mem _ hy)) ?_) w (Holds.flat.2 (hw.perm List.perm_middle.symm))
  exact fun w hw=>h w (Holds.flat.2 ((Holds.flat.1 hw).perm List.perm_middle))
theorem zPD {L:List FX} {N N':Nat} (hN:N ≤ N') (h:HG B (Sep.stars (L.map (filO N'))::Γ) k):HG B (Sep.stars (L.map (filO N))::Γ) k :=
 zMO (fun x _ Γ' k' h=>s_filN hN h) h
end
end Go.Proofs.YtdemfamgieonbaaGreat
namespace Go.Proofs.YtdemfamgieonbaaGreat
open Go Go.Sep Go.Sep.Bt
set_option maxRecDepth 100000
abbrev itV (kind ix:Int) (tag:TagM) (t:TxX) (ms:Sl):List Value:=.int .i64 kind::.int .i64 ix::orV tag t ms
abbrev tgB (tb:Nat) (tag:TagM):HProp:=blk tb (.cells (tagF tag).toArray zBP (0,0))
abbrev rgB (rb:Nat) (r:Int):HProp:=blk rb (.cells [.int .i64 r].toArray ty_int (0,0))
abbrev itB (ib:Nat) (kind ix:Int) (tag:TagM) (t:TxX) (ms:Sl):HProp:=blk ib (.cells (itV kind ix tag t ms).toArray zDo (0,0))
theorem zNw {tag:TagM} {r:Int} {j:JobM} {C:List JobM} (hj:j.tag = tag):∀ {A:List JobM},(∀ y ∈ A,y.tag ≠ tag)→updN tag r (A++j::C) = A++{ j with need:=j.need.filter fun h=>!decide (h = r) }::C
 | [],_=>by simp [updN,hj]
 | x::A,h=>by
  rw [List.cons_append]
  unfold updN
  rw [if_neg (h x List.mem_cons_self),zNw hj fun y hy=>h y (List.mem_cons_of_mem _ hy)]
  rfl
section
variable {B:World} {Γ Δ:List HProp} {k:K} {sd st l n T:Nat} {S:SchM} {a b c:Sl} {F:List FX} {J:List JobX} {t:TxX} {mks:List MkX} {ms:Sl} {tag:TagM} {r kind ix:Int}
theorem run_hg {q:Sl→K} (ho:SchOk n T S F J) (hT:T ≤ 20000) (h:∀ (s:Sl) (D:List DcX),D.map eraD = (runJ n S).2→D.length ≤ T→HG B (SlC zBV 6 s (D.flatMap dcF)::Sep.stars (D.map dcO)::SchS sd n T (runJ n S).1::Γ) (q s)) :
  HG B (schF sd st l n T S a b c F J Γ) (zBb.call (some ⟨sd,0,none⟩) q):=by
 obtain ⟨K,hK,hKl⟩:=ho.gz
 have hjl:=ho.jl
 have hml:=ho.ml
 have hsj:=ho.jobs
 refine zTP (T:=K) ho.ok hK (by omega) (by omega) fun s D c' J' hD hJ' hmem hlen hM hG=>?_
 unfold runJ at h
 rw [← hsj] at h
 have hjl2:(J.map eraJ).length = J.length:=List.length_map _
 rw [hjl2] at h
 refine s_end (Δ:=schF sd st l n T (⟨(workM n J.length (J.map eraJ) S.M S.G).1.2.1,(workM n J.length (J.map eraJ) S.M S.G).1.2.2,S.fils,S.fed,(workM n J.length (J.map eraJ) S.M S.G).1.1⟩:SchM) a b c' F J' (SlC zBV 6 s (D.flatMap dcF)::Sep.stars (D.map dcO)::Γ)) ?_
 refine zE7 ⟨ho.n1,ho.n3,ho.fils,ho.rgs,ho.fedl,ho.fedr,hJ',fun j hj=>ho.ok j (hmem j hj),by omega,⟨K + D.length,hG,by omega⟩,by simp only; omega⟩ ?_
 exact s_end (h s D hD (by omega))
theorem s3_hg {A C:List JobX} {j:JobX} {K rb tb:Nat} {ms2:Sl} {mk2:List MkX} {q:Sl→Sep.K} (hT:T ≤ 20000) (hJ:J = A++j::C) (hA:∀ y ∈ A,y.tag ≠ tag) (hj:j.tag = tag) (ho:SchOk n T S F J) (hK:SzG K S.G) (hKl:K + J.length + mk2.length ≤ 40 * T)
  (hm:∀ w,Holds B Γ w→RdC w ms2 3 (mk2.flatMap mkL)) (hk:∀ m ∈ mk2,m.key.length < 1000000000)
  (h:∀ (s:Sl) (D:List DcX),D.map eraD = (runJ n ⟨S.M,enterM n S.M tag (mk2.map mM) S.G,S.fils,S.fed,updN tag r S.jobs⟩).2→D.length ≤ T→HG B (SlC zBV 6 s (D.flatMap dcF)::Sep.stars (D.map dcO)::SchS sd n T (runJ n ⟨S.M,enterM n S.M tag (mk2.map mM) S.G,S.fils,S.fed,updN tag r S.jobs⟩).1::Γ) (q s)) :
  HG B (schF sd st l n T S a b c F J (rgB rb r::tgB tb tag::Γ)) (zAF.s3 q ⟨sd,0,none⟩ ⟨rb,0,none⟩ ⟨tb,0,none⟩ ms2 (ptrJ j)):=by
 subst hJ
 have hoj:=ho.ok j (by simp)
 have hlen:(A++j::C).length = A.length + (C.length + 1):=by simp
 unfold zAF.s3
 refine s_nn ?_
 refine s_pick (Sep.stars ((A++j::C).map jobO)) ?_
 refine s_mid ?_
 refine s_job ?_
 refine s_ld (b:=j.b) (off:=10) (l:=jobL j) (x:=j.ns) ?_
 refine s_ownS j.ns ?_
 refine zPr (L:=j.need) (by have:=hoj.nl; omega) fun ns'=>?_
 refine s_st (b:=j.b) (off:=10) (l:=jobL j) (l':=jobL { j with ns:=ns',need:=j.need.filter fun x=>!decide (x = r) }) ?_ rfl rfl
 refine s_end (Δ:=jobC { j with ns:=ns',need:=j.need.filter fun x=>!decide (x = r) } (Sep.stars ((A++C).map jobO)::blk sd (.cells (sdL st l a b c).toArray zAw (0,0))::LocksR l S.G.1 S.G.2::StoreR st n S.M::SlC zCo 1 c (((A++j::C).map ptrJ).map Value.pointer)::SlC zCM 1 a ((F.map ptrF).map Value.pointer)::Sep.stars (F.map (filO T))::SlI b S.fed::tgB tb tag::Γ)) ?_
 refine zHH ?_
 refine zCx ?_
 rw [show ((A++j::C).map ptrJ).map Value.pointer = ((A++{ j with ns:=ns',need:=j.need.filter fun x=>!decide (x = r) }::C).map ptrJ).map Value.pointer by simp]
 refine s_dr ?_
 refine s_ld (b:=sd) (off:=1) (l:=sdL st l a b c) (x:=some ⟨l,0,none⟩) ?_
 refine s_ld (b:=sd) (l:=sdL st l a b c) (x:=some ⟨st,0,none⟩) ?_
 refine s_ldN (b:=tb) (l:=tagF tag) (l':=tagF tag) ?_
 refine s_own st ?_
 refine s_own l ?_
 refine zRm (L:=mk2.map mM) (N:=K) (fun w hw=>by rw [zTQ]; exact hm w (hw.drops (Δ:=Γ))) (fun m hm=>by obtain ⟨x,hx,rfl⟩:=List.mem_map.1 hm; exact hk x hx) hK.gsz (by rw [List.length_map]; omega) ?_
 show HG B (LocksR l (enterM n S.M tag (mk2.map mM) S.G).1 (enterM n S.M tag (mk2.map mM) S.G).2::_) _
 generalize hj':({ j with ns:=ns',need:=j.need.filter fun x=>!decide (x = r) }:JobX) = j'
 have hje:eraJ j' = { eraJ j with need:=(eraJ j).need.filter fun h=>!decide (h = r) }:=by rw [← hj']; rfl
 have hup:(A++j'::C).map eraJ = updN tag r S.jobs:=by
  rw [← ho.jobs,zJ7,zJ7,hje,zNw (by exact hj) (fun y hy=>by obtain ⟨z,hz,rfl⟩:=List.mem_map.1 hy; exact hA z hz)]
 refine s_end (Δ:=schF sd st l n T (⟨S.M,enterM n S.M tag (mk2.map mM) S.G,S.fils,S.fed,updN tag r S.jobs⟩:SchM) a b c F (A++j'::C) Γ) ?_
 refine run_hg ⟨ho.n1,ho.n3,ho.fils,ho.rgs,ho.fedl,ho.fedr,hup,fun y hy=>?_,?_,⟨K + mk2.length,?_,?_⟩,?_⟩ hT h
 ·rcases List.mem_append.1 hy with hy | hy
  ·exact ho.ok y (List.mem_append_left _ hy)
  rcases List.mem_cons.1 hy with rfl | hy
  ·rw [← hj']
   exact ⟨hoj.ord,hoj.nn,by have:=hoj.nl; have:=List.length_filter_le (fun x=>!decide (x = r)) j.need; simp only; omega⟩
  ·exact ho.ok y (List.mem_append_right _ (List.mem_cons_of_mem _ hy))
 ·have:=ho.jl; simpa using this
 ·have:=hK.enters (n:=n) (S:=S.M) (tag:=tag) (L:=mk2.map mM)
  rwa [List.length_map] at this
 ·simp only [List.length_append,List.length_cons] at hKl ⊢; omega
 ·have:=ho.ml; simpa using this
theorem s2_hg {A C:List JobX} {j:JobX} {K rb tb ib:Nat} {q:Sl→Sep.K} (hT:T ≤ 20000) (hJ:J = A++j::C) (hA:∀ y ∈ A,y.tag ≠ tag) (hj:j.tag = tag) (ho:SchOk n T S F J) (hK:SzG K S.G) (hKl:K + J.length + mks.length ≤ 40 * T) (hml:mks.length ≤ 1000)
  (hm:∀ w,Holds B Γ w→RdC w ms 3 (mks.flatMap mkL)) (hk:∀ m ∈ mks,m.key.length < 1000000000)
  (h:∀ (s:Sl) (D:List DcX),D.map eraD = (runJ n (entS n r kind tag mks S.jobs S)).2→D.length ≤ T→HG B (SlC zBV 6 s (D.flatMap dcF)::Sep.stars (D.map dcO)::SchS sd n T (runJ n (entS n r kind tag mks S.jobs S)).1::Γ) (q s)) :
  HG B (schF sd st l n T S a b c F J (rgB rb r::tgB tb tag::itB ib kind ix tag t ms::Γ)) (zAF.s2 q ⟨sd,0,none⟩ ⟨rb,0,none⟩ ⟨ib,0,none⟩ ⟨tb,0,none⟩ ms (ptrJ j)):=by
 unfold zAF.s2
 unfold entS marksIn at h
 refine s_ld (b:=ib) (l:=itV kind ix tag t ms) (x:=kind) ?_
 refine s_ite (fun h1=>?_) fun h1=>?_
 ·have h1':kind = 2:=by simpa using h1
  simp only [h1',if_true] at h
  refine s_ldN (b:=ib) (off:=2) (l:=itV kind ix tag t ms) (l':=orV tag t ms) ?_
  refine s_ld (b:=rb) (l:=[.int .i64 r]) (x:=r) ?_
  refine zTR (mks:=mks) (fun w hw=>hm w (hw.drops (Δ:=Γ))) hml fun s=>?_
  have hfl:=List.length_filter_le (fun m:MkX=>decide (m.home = r)) mks
  refine s_end (Δ:=schF sd st l n T S a b c F J (rgB rb r::tgB tb tag::SlC zBG 3 s ((mks.filter fun m=>decide (m.home = r)).flatMap mkL)::Γ)) ?_
  refine s3_hg (mk2:=mks.filter fun m=>decide (m.home = r)) hT hJ hA hj ho hK (by omega) (fun w hw=>(own_rd (s:=s) hw).1) (fun m hm=>hk m (List.mem_filter.1 hm).1) fun s2 D hD hDl=>?_
  exact s_end (h s2 D hD hDl)
 ·have h1':¬ kind = 2:=by simpa using h1
  simp only [h1',if_false] at h
  refine s_end (Δ:=schF sd st l n T S a b c F J (rgB rb r::tgB tb tag::Γ)) ?_
  exact s3_hg (mk2:=mks) hT hJ hA hj ho hK hKl hm hk h
theorem SchOk.up (ho:SchOk n T S F J):SchOk n (T + 1) S F J:=by
 obtain ⟨K,hK,hKl⟩:=ho.gz
 have:=ho.jl
 have:=ho.ml
 exact ⟨ho.n1,ho.n3,ho.fils,ho.rgs,ho.fedl,fun x hx=>by have:=ho.fedr x hx; omega,ho.jobs,ho.ok,by omega,⟨K,hK,by omega⟩,by omega⟩
theorem sch_up (h:HG B (SchS sd n (T + 1) S::Γ) k):HG B (SchS sd n T S::Γ) k:=s_sch fun st l a b c F J ho=>by
 refine s_pick (Sep.stars (F.map (filO T))) ?_
 refine zPD (N':=T + 1) (by omega) ?_
 refine s_end (Δ:=schF sd st l n (T + 1) S a b c F J Γ) ?_
 exact zE7 ho.up h
theorem s_nilD (h:HG B (SlC zBV 6 ⟨none,0,0⟩ (([]:List DcX).flatMap dcF)::Sep.stars (([]:List DcX).map dcO)::Γ) k):HG B Γ k:=fun w hw=>h w ((hw.starsNil).nilSl _ _)
theorem fil_at (ho:SchOk n T S F J) (h:0 ≤ r∧r < n):∃ FA xb xf FC,F = FA++⟨xb,r,xf⟩::FC∧FA.length = r.toNat∧S.fils.getD r.toNat ⟨-1,[]⟩ = xf∧∀ f',(FA++⟨xb,r,f'⟩::FC).map FX.f = S.fils.set r.toNat f'∧(FA++(⟨xb,r,f'⟩:FX)::FC).map FX.rg = F.map FX.rg:=by
 have hl:F.length = n:=by have:=congrArg List.length ho.rgs; simpa using this
 have hi:r.toNat < F.length:=by omega
 have e:=List.take_append_drop r.toNat F
 rw [List.drop_eq_getElem_cons hi] at e
 have hrg:F[r.toNat].rg = r:=by
  have h1:(F.map FX.rg)[r.toNat]? = some F[r.toNat].rg:=by rw [List.getElem?_map,List.getElem?_eq_getElem hi]; rfl
  rw [ho.rgs,List.getElem?_map,List.getElem?_range (by omega)] at h1
  simp only [Option.map_some,Option.some.injEq] at h1
  omega
 generalize F[r.toNat] = x at e hrg
 obtain ⟨xb,xr,xf⟩:=x
 simp only at hrg
 subst hrg
 have hl2:(F.take xr.toNat).length = xr.toNat:=by rw [List.length_take]; omega
 generalize F.take xr.toNat = FA at e hl2
 generalize F.drop (xr.toNat + 1) = FC at e
 refine ⟨FA,xb,xf,FC,e.symm,hl2,?_,fun f'=>⟨?_,by rw [← e]; simp⟩⟩
 ·rw [← ho.fils,← e,List.map_append,List.getD_eq_getElem?_getD,List.getElem?_append_right (by simp [hl2])]
  simp [hl2]
 ·rw [← ho.fils,← e,List.map_append,List.map_append,List.map_cons,List.map_cons,show xr.toNat = (FA.map FX.f).length by simp [hl2]]
  simp
theorem zJL {q:Sl→Sep.K} (hT:T + 1 ≤ 20000) (hr:∀ w,Holds B Γ w→txRd w t) (hm:∀ w,Holds B Γ w→RdC w ms 3 (mks.flatMap mkL)) (hnn:∀ x ∈ t.ops,-9223372036854775808 ≤ x.1.n∧x.1.n ≤ 9223372036854775807)
  (hg0:0 ≤ tag.epoch∧tag.epoch < 18446744073709551616) (hg1:0 ≤ tag.seq∧tag.seq < 18446744073709551616) (hmk:∀ m ∈ mks,0 ≤ m.cnt∧m.cnt < 18446744073709551616)
  (hl:t.reads.length ≤ 1000∧t.writes.length ≤ 1000∧t.ops.length ≤ 1000) (hml:mks.length ≤ 1000)
  (h:∀ (s:Sl) (D:List DcX),D.map eraD = (feedM n r kind ix tag t mks S).2→D.length ≤ T + 1→HG B (SlC zBV 6 s (D.flatMap dcF)::Sep.stars (D.map dcO)::SchS sd n (T + 1) (feedM n r kind ix tag t mks S).1::Γ) (q s)) :
  HG B (SchS sd n T S::Γ) (zAF.call (some ⟨sd,0,none⟩) r (itV kind ix tag t ms).toArray q):=by
 refine fun w hw=>zIB _ _ _ _ _ ?_
 refine hg hw ?_
 clear hw w
 refine s_sch fun st l a b c F J ho=>?_
 unfold zAF
 refine s_new fun rb=>?_
 refine s_new fun ib=>?_
 refine s_ldN (b:=ib) (l:=itV kind ix tag t ms) (l':=itV kind ix tag t ms) ?_
 have bad:¬ feedOk n r kind ix tag t mks→HG B (itB ib kind ix tag t ms::rgB rb r::schF sd st l n T S a b c F J Γ) (zAF.s1 q (some ⟨sd,0,none⟩) ⟨rb,0,none⟩ ⟨ib,0,none⟩ true):=fun hb=>by
  unfold zAF.s1
  refine s_t ?_
  unfold feedM at h
  rw [if_neg hb] at h
  refine s_end (Δ:=schF sd st l n T S a b c F J Γ) ?_
  refine zE7 ho ?_
  refine sch_up ?_
  refine s_nilD ?_
  exact h ⟨none,0,0⟩ [] rfl (by simp)
 refine zNt (mks:=mks) hg0 hg1 hmk (fun w hw=>hr w (hw.drops (Δ:=Γ))) (fun w hw=>hm w (hw.drops (Δ:=Γ))) hl hml (fun hb=>?_) fun hi h3 s0=>?_
 ·refine s_dr ?_
  refine s_wsD [itB ib kind ix tag t ms,rgB rb r] ?_
  refine s_t ?_
  exact bad fun hh=>hb ⟨hh.1,hh.2.1⟩
 refine s_dr ?_
 refine s_wsD [itB ib kind ix tag t ms,rgB rb r,blk sd (.cells (sdL st l a b c).toArray zAw (0,0))] ?_
 refine s_f ?_
 refine s_ldS (b:=rb) (l:=[.int .i64 r]) (x:=r) ?_
 refine s_ownS b ?_
 refine s_own sd ?_
 refine zSJ (n:=n) ho.fedl ?_
 refine s_sv ?_
 by_cases hrn:0 ≤ r∧r < n
 rotate_left
 ·rw [decide_eq_false hrn]
  refine s_t ?_
  exact s_end (bad fun hh=>hrn hh.2.2.1)
 rw [decide_eq_true hrn]
 refine s_f ?_
 refine s_nn ?_
 refine s_ldNS (b:=ib) (off:=2) (l:=itV kind ix tag t ms) (l':=orV tag t ms) ?_
 refine s_ldS (b:=sd) (off:=3) (l:=sdL st l a b c) (x:=b) ?_
 refine s_cap b fun a1 a2 a3 a4=>?_
 rw [List.length_map,Nat.mul_one,ho.fedl] at a1
 rw [← a1]
 refine zJd (mks:=mks) (fun w hw=>hr w (hw.drops (Δ:=Γ))) (fun w hw=>hm w (hw.drops (Δ:=Γ))) hl (by omega) ?_
 by_cases hon:OrdOk (n:Int) tag t mks
 rotate_left
 ·rw [if_neg hon]
  exact s_end (bad fun hh=>hon hh.2.2.2)
 rw [if_pos hon]
 have hok:feedOk n r kind ix tag t mks:=⟨hi,h3,hrn,hon⟩
 unfold feedM at h
 rw [if_pos hok] at h
 obtain ⟨k1,k2,k3,k4⟩:=zFP hon.1
 have hmks:=hon.2.2.1
 have hkl:=zGd (t.reads++t.writes)
 have hml8:mks.length ≤ 8:=by
  have:=congrArg List.length hmks
  rw [List.length_map] at this
  rw [List.length_append] at hkl
  omega
 have hkk:∀ m ∈ mks,m.key.length < 1000000000:=fun m hm=>by
  have h1:m.key ∈ keysT (t.reads++t.writes):=by rw [← hmks]; exact List.mem_map.2 ⟨m,hm,rfl⟩
  have:=k1 _ (zIf.1 h1)
  omega
 obtain ⟨FA,xb,xf,FC,rfl,hFl,hgf,hset⟩:=fil_at ho hrn
 obtain ⟨K,hK,hKl⟩:=ho.gz
 have hjl:=ho.jl
 have hmlM:=ho.ml
 show HG B _ (zAF.s1 q (some ⟨sd,0,none⟩) ⟨rb,0,none⟩ ⟨ib,0,none⟩ false)
 unfold zAF.s1
 refine s_f ?_
 refine s_dr ?_
 refine s_nn ?_
 refine s_ld (b:=sd) (off:=3) (l:=sdL st l a b c) (x:=b) ?_
 refine s_ld (b:=rb) (l:=[.int .i64 r]) (x:=r) ?_
 have hri:r.toNat < S.fed.length:=by rw [ho.fedl]; omega
 have hge:S.fed[r.toNat]? = some (S.fed.getD r.toNat 0):=by rw [List.getD_eq_getElem?_getD,List.getElem?_eq_getElem hri]; rfl
 have hfx:=ho.fedr (S.fed.getD r.toNat 0) (List.mem_of_getElem? hge)
 refine s_idx1 (L:=S.fed) (c:=Value.int .i64) (j:=r.toNat) (x:=S.fed.getD r.toNat 0) (fun w hw=>(own_rd (s:=b) hw).1) hge ?_ (by omega)
 refine s_ai ?_
 refine s_idx (s:=b) (i:=r.toNat) ?_ (by omega) (by omega)
 rw [← add0 (elA b r.toNat 1)]
 refine s_stE (s:=b) ?_ (by simp only [List.length_map]; omega)
 rw [show r.toNat * 1 + 0 = r.toNat by omega,← List.map_set]
 refine s_dr ?_
 refine s_ld (b:=sd) (off:=2) (l:=sdL st l a b c) (x:=a) ?_
 refine s_ld (b:=rb) (l:=[.int .i64 r]) (x:=r) ?_
 refine s_idx1 (c:=Value.pointer) (L:=(FA++⟨xb,r,xf⟩::FC).map ptrF) (j:=r.toNat) (x:=ptrF ⟨xb,r,xf⟩) (fun w hw=>(own_rd (s:=a) hw).1) (by rw [← hFl]; simp) ?_ (by omega)
 refine s_ldN (b:=ib) (l:=itV kind ix tag t ms) (l':=itV kind ix tag t ms) ?_
 refine s_pick (Sep.stars ((FA++(⟨xb,r,xf⟩:FX)::FC).map (filO T))) ?_
 refine s_mid ?_
 refine zPn (fb:=xb) (rg:=r) (f:=xf) (N:=T) (t:=t) (mks:=mks) (fun w hw=>hm w (hw.drops (Δ:=Γ))) hml (by omega) ?_
 have hin:filIn r kind ix tag t mks S = itemIn r xf kind ix tag (homesM mks) (sngl t mks):=by unfold filIn; rw [hgf]
 rw [← hin]
 have ho1:SchOk n (T + 1) (fedS r kind ix tag t mks S) (FA++⟨xb,r,(filIn r kind ix tag t mks S).1⟩::FC) J:=by
  refine ⟨ho.n1,ho.n3,(hset _).1,by rw [(hset _).2]; exact ho.rgs,by simp [fedS,ho.fedl],fun x hx=>?_,ho.jobs,ho.ok,by omega,⟨K,hK,by omega⟩,by show S.M.length + _ ≤ _; omega⟩
  rcases List.mem_or_eq_of_mem_set hx with hx | rfl
  ·have:=ho.fedr x hx; omega
  ·omega
 refine s_pick (Sep.stars ((FA++FC).map (filO T))) ?_
 refine zPD (N':=T + 1) (by omega) ?_
 refine s_end (Δ:=FilR xb r (T + 1) (filIn r kind ix tag t mks S).1::Sep.stars ((FA++FC).map (filO (T + 1)))::itB ib kind ix tag t ms::rgB rb r::blk sd (.cells (sdL st l a b c).toArray zAw (0,0))::LocksR l S.G.1 S.G.2::StoreR st n S.M::SlC zCo 1 c ((J.map ptrJ).map Value.pointer)::Sep.stars (J.map jobO)::SlC zCM 1 a (((FA++⟨xb,r,xf⟩::FC).map ptrF).map Value.pointer)::SlI b (S.fed.set r.toNat (S.fed.getD r.toNat 0 + 1))::Γ) ?_
 show HG B (filO (T + 1) ⟨xb,r,(filIn r kind ix tag t mks S).1⟩::_) _
 refine zCx ?_
 rw [show ((FA++(⟨xb,r,xf⟩:FX)::FC).map ptrF).map Value.pointer = ((FA++(⟨xb,r,(filIn r kind ix tag t mks S).1⟩:FX)::FC).map ptrF).map Value.pointer by simp]
 generalize hF':FA++(⟨xb,r,(filIn r kind ix tag t mks S).1⟩:FX)::FC = F' at ho1
 unfold feedG at h
 by_cases hin2:(filIn r kind ix tag t mks S).2 = false
 ·rw [if_pos hin2] at h
  rw [hin2]
  refine s_t ?_
  refine s_end (Δ:=schF sd st l n (T + 1) (fedS r kind ix tag t mks S) a b c F' J Γ) ?_
  refine zE7 ho1 ?_
  refine s_nilD ?_
  exact h ⟨none,0,0⟩ [] rfl (by simp)
 rw [if_neg hin2] at h
 rw [Bool.not_eq_false] at hin2
 rw [hin2]
 refine s_f ?_
 refine s_dr ?_
 refine s_wsD [itB ib kind ix tag t ms] ?_
 refine s_ldNS (b:=ib) (off:=2) (l:=itV kind ix tag t ms) (l':=tagF tag) ?_
 refine s_ldS (b:=ib) (off:=11) (l:=itV kind ix tag t ms) (x:=ms) ?_
 refine s_new fun tb=>?_
 refine s_sv ?_
 refine s_stN (b:=tb) (l':=tagF tag) ?_
 refine s_sv ?_
 refine s_ldN (b:=tb) (l:=tagF tag) (l':=tagF tag) ?_
 have S2:∀ {J2 A:List JobX} {j:JobX} {C:List JobX} {c2:Sl} {S2:SchM},J2 = A++j::C→(∀ y ∈ A,y.tag ≠ tag)→j.tag = tag→S2.G = S.G→SchOk n (T + 1) S2 F' J2→K + J2.length + mks.length ≤ 40 * (T + 1) →
   (∀ (s:Sl) (D:List DcX),D.map eraD = (runJ n (entS n r kind tag mks S2.jobs S2)).2→D.length ≤ T + 1→HG B (SlC zBV 6 s (D.flatMap dcF)::Sep.stars (D.map dcO)::SchS sd n (T + 1) (runJ n (entS n r kind tag mks S2.jobs S2)).1::Γ) (q s)) →
   HG B (schF sd st l n (T + 1) S2 a b c2 F' J2 (rgB rb r::tgB tb tag::itB ib kind ix tag t ms::Γ)) (zAF.s2 q ⟨sd,0,none⟩ ⟨rb,0,none⟩ ⟨ib,0,none⟩ ⟨tb,0,none⟩ ms (ptrJ j)):=fun {J2 A j C c2 S2} hJ2 hA hj hG ho2 hKl2 hq =>
  s2_hg hT hJ2 hA hj ho2 (by rw [hG]; exact hK) hKl2 hml hm hkk hq
 have hjm:(∃ j ∈ S.jobs,j.tag = tag) ↔ ∃ j ∈ J,j.tag = tag:=by
  rw [← ho.jobs]
  constructor
  ·rintro ⟨x,hx,e⟩
   obtain ⟨y,hy,rfl⟩:=List.mem_map.1 hx
   exact ⟨y,hy,e⟩
  ·rintro ⟨y,hy,e⟩
   exact ⟨eraJ y,List.mem_map.2 ⟨y,hy,rfl⟩,e⟩
 refine s_end (Δ:=schP sd st l n S.M S.G a b c J (SlC zCM 1 a ((F'.map ptrF).map Value.pointer)::Sep.stars (F'.map (filO (T + 1)))::SlI b (S.fed.set r.toNat (S.fed.getD r.toNat 0 + 1))::rgB rb r::tgB tb tag::itB ib kind ix tag t ms::Γ)) ?_
 refine zTN (by omega) (fun hno=>?_) fun A j C hJ hA hj=>?_
 ·have hno':¬ ∃ j ∈ S.jobs,j.tag = tag:=fun hh=>by obtain ⟨j,hj,e⟩:=hjm.1 hh; exact hno j hj e
  rw [if_neg hno'] at h
  refine s_f ?_ (by rfl)
  unfold zAF.s4
  refine s_f ?_
  refine s_t ?_ (by rfl)
  refine s_dr ?_
  refine s_wsD [itB ib kind ix tag t ms] ?_
  refine s_ldNS (b:=ib) (off:=2) (l:=itV kind ix tag t ms) (l':=orV tag t ms) ?_
  refine s_ldNS (b:=ib) (off:=2) (l:=itV kind ix tag t ms) (l':=orV tag t ms) ?_
  refine zOK (t:=t) (mks:=mks) (fun w hw=>hr w (hw.drops (Δ:=Γ))) (fun w hw=>hm w (hw.drops (Δ:=Γ))) ⟨hl.1,hl.2.1,hl.2.2,fun x hx=>by have:=(k4 x hx).2; omega⟩ hml fun t' ms' ht'=>?_
  refine s_sv ?_
  refine zHt (pre:=tagF tag++txL t) (L:=mks) rfl (fun w hw=>hm w (hw.drops (Δ:=Γ))) (by omega) fun ns=>?_
  refine s_nx ?_
  refine s_new fun jb=>?_
  refine s_ld (b:=sd) (off:=4) (l:=sdL st l a b c) (x:=c) ?_
  refine s_cap c fun a1 a2 a3 a4=>?_
  rw [List.length_map,List.length_map,Nat.mul_one] at a1
  refine s_app1 (s:=c) (esz:=1) (m:=1) (us:=[.pointer (some ⟨jb,0,none⟩)]) (fun c2 _=>?_)
  rw [show (J.map ptrJ).map Value.pointer++[.pointer (some ⟨jb,0,none⟩)] = ((J++[(⟨jb,tag,t',ms',mks,ns,homesM mks⟩:JobX)]).map ptrJ).map Value.pointer by simp]
  refine s_st (b:=sd) (off:=4) (l:=sdL st l a b c) (l':=sdL st l a b c2) ?_ rfl rfl
  refine s_end (Δ:=jobC ⟨jb,tag,t',ms',mks,ns,homesM mks⟩ (Sep.stars (J.map jobO)::blk sd (.cells (sdL st l a b c2).toArray zAw (0,0))::LocksR l S.G.1 S.G.2::StoreR st n S.M::SlC zCo 1 c2 (((J++[(⟨jb,tag,t',ms',mks,ns,homesM mks⟩:JobX)]).map ptrJ).map Value.pointer)::SlC zCM 1 a ((F'.map ptrF).map Value.pointer)::Sep.stars (F'.map (filO (T + 1)))::SlI b (S.fed.set r.toNat (S.fed.getD r.toNat 0 + 1))::rgB rb r::tgB tb tag::itB ib kind ix tag t ms::Γ)) ?_
  refine zHH ?_
  refine zLe ?_
  refine s_end (Δ:=schF sd st l n (T + 1) (⟨S.M,S.G,S.fils.set r.toNat (filIn r kind ix tag t mks S).1,S.fed.set r.toNat (S.fed.getD r.toNat 0 + 1),S.jobs++[⟨tag,canX t,mks,homesM mks⟩]⟩:SchM) a b c2 F' (J++[(⟨jb,tag,t',ms',mks,ns,homesM mks⟩:JobX)]) (rgB rb r::tgB tb tag::itB ib kind ix tag t ms::Γ)) ?_
  have hhl:(homesM mks).length ≤ 1000:=by
   have h1:=zFs (sortI (if mks.length = 0 then [0] else mks.map MkX.home))
   rw [zGe] at h1
   have h2:(if mks.length = 0 then [0] else mks.map MkX.home).length ≤ 1000:=by split <;> simp <;> omega
   unfold homesM
   omega
  refine S2 (A:=J) (j:=⟨jb,tag,t',ms',mks,ns,homesM mks⟩) (C:=[]) rfl hno rfl rfl ⟨ho1.n1,ho1.n3,ho1.fils,ho1.rgs,ho1.fedl,ho1.fedr,?_,fun y hy=>?_,by simp; omega,⟨K,hK,by simp; omega⟩,by simp; omega⟩ (by simp; omega) h
  ·rw [List.map_append,ho.jobs]
   simp only [List.map_cons,List.map_nil,eraJ]
   rw [zQr ht']
  ·rcases List.mem_append.1 hy with hy | hy
   ·exact ho.ok y hy
   ·rw [List.mem_singleton.1 hy]
    obtain ⟨g1,g2,g3,g4,g5⟩:=ht'
    refine ⟨⟨by rw [zKf ⟨g1,g2,g3,g4,g5⟩]; exact hon.1,hon.2.1,by simp only; rw [g3,g4]; exact hon.2.2⟩,fun x hx=>?_,hhl⟩
    have h1:x.1 ∈ t.ops.map Prod.fst:=by rw [← g5]; exact List.mem_map.2 ⟨x,hx,rfl⟩
    obtain ⟨y,hy2,e⟩:=List.mem_map.1 h1
    rw [← e]; exact hnn y hy2
 ·have hye:∃ j ∈ S.jobs,j.tag = tag:=hjm.2 ⟨j,by rw [hJ]; simp,hj⟩
  rw [if_pos hye] at h
  refine s_t ?_ (by rfl)
  refine s_ld (b:=ib) (l:=itV kind ix tag t ms) (x:=kind) ?_
  unfold zAF.s4
  refine s_ite (fun h1=>?_) fun h1=>?_
  ·have h1':kind = 1:=by simpa using h1
   simp only [h1',if_true] at h
   refine s_end (Δ:=schF sd st l n (T + 1) (fedS r kind ix tag t mks S) a b c F' J Γ) ?_
   rw [h1'] at ho1 ⊢
   exact run_hg ho1 hT h
  ·have h1':¬ kind = 1:=by simpa using h1
   simp only [h1',if_false] at h
   refine s_f ?_ (by rfl)
   refine s_end (Δ:=schF sd st l n (T + 1) (fedS r kind ix tag t mks S) a b c F' J (rgB rb r::tgB tb tag::itB ib kind ix tag t ms::Γ)) ?_
   exact S2 hJ hA hj rfl ho1 (by omega) h
end
end Go.Proofs.YtdemfamgieonbaaGreat
namespace Go.Sep
open Go Go.RowKit
abbrev busyR (r:Loop):Loop:={ r with state:=.busy }
abbrev doneR (r:Loop) (J:Exit):Loop:={ r with state:=.done,pending:=some (jumpC J) }
abbrev rdyR (r:Loop):Prop:=r.state = .ready∧r.pending = none
def Aft (B:World) (l:Nat) (r:Loop) (J:Exit) (a j:K):K:=fun w=>(∃ Δ,Holds B (blk l (.loop r)::Δ) w∧HG B Δ a)∨(∃ Δ,Holds B (blk l (.loop (doneR r J))::Δ) w∧HG B Δ j)
section
variable {P:Program} {B:World} {Γ Δ:List HProp} {l:Nat} {r:Loop} {J:Exit} {k a j:K}
theorem s_aftN (h:HG B Δ a) [p:Own l Γ (blk l (.loop r)) Δ]:HG B Γ (Aft B l r J a j):=fun w hw=>.inl ⟨Δ,hw.perm p.perm,h⟩
theorem s_aftJ (h:HG B Δ j) [p:Own l Γ (blk l (.loop (doneR r J))) Δ]:HG B Γ (Aft B l r J a j):=fun w hw=>.inr ⟨Δ,hw.perm p.perm,h⟩
theorem zSK (h:HG B (blk l (.loop (busyR r))::Δ) k) [p:Own l Γ (blk l (.loop r)) Δ]:HG B Γ (BeginR l r k):=fun w hw =>
 ⟨(hw.perm p.perm).block,h _ (zC6 (hw.perm p.perm))⟩
theorem s_endR (hr:rdyR r) (h:HG B (blk l (.loop r)::Δ) k) [p:Own l Γ (blk l (.loop (busyR r))) Δ]:HG B Γ (EndR l (busyR r) k):=fun w hw=>by
 refine ⟨(hw.perm p.perm).block,h _ ?_⟩
 have h1:=zC6 (o':=.loop { busyR r with state:=.ready,pending:=none }) (hw.perm p.perm)
 have e:({ busyR r with state:=.ready,pending:=none }:Loop) = r:=by
  obtain ⟨h1,h2⟩:=hr
  cases r; simp only at h1 h2; subst h1; subst h2; rfl
 rw [e] at h1 ⊢
 exact h1
theorem zTS {D:Nat} (h:HG B Δ k) [p:Own D Γ (blk D (.deferred (some []))) Δ]:HG B Γ (TakeD D k):=fun w hw =>
 zOS (hw.perm p.perm) fun w hw=>h w hw
theorem zTT {f:Value} {args:List Value} {kk:Value→K} (h:HG B Γ (CallY P f args (YN (kk (.bool true)) (kk (.bool false))))):HG B Γ (CallY P f args kk):=fun w hw =>
 zKL (h w hw) fun v w hv=>by
  rcases hv with ⟨rfl,h⟩ | ⟨rfl,h⟩ <;> exact h
theorem s_ans1 {α:Type} {c:α→Value} {x:α} {k:α→K} (h:HG B Γ (k x)):HG B Γ (Ans1 c k (c x)):=fun w hw=>⟨x,rfl,h w hw⟩
theorem zSL {α:Type} {g:FuncId} {cs:List Value} {cX:α→List Value} {body:(K→K)→K→K→α→K} {after afterJ:Nat→K} (hc:callable P g = true)
  (h:∀ D l r,rdyR r→(∀ (x:α) (kN kJ:K) (Δ:List HProp),HG B (blk l (.loop r)::Δ) (body (BeginR l r) (EndR l (busyR r) kN) (StopR l (busyR r) J kJ) x)→HG B (blk l (.loop r)::Δ) (CallY P (yv l) (cX x) (YN kN kJ))) →
   HG B (blk l (.loop r)::blk D (.deferred (some []))::Γ) (CallF P g (yv l::cs).toArray fun _=>Aft B l r J (after D) (afterJ D))) :
  HG B Γ (RangeJ P (.func (.func g) #[] cs.toArray) J cX body after afterJ):=fun w hw=>by
 refine ⟨g,cs.toArray,rfl,hc,fun r w1 h1 h2 h3 hw1 hy=>?_⟩
 have h4:=hw.alloc (.deferred (some []))
 have h5:=h4.alloc (.loop r)
 have e:({ w with heap:=w.heap.push (.deferred (some [])) }:World).heap.size = w.heap.size + 1:=by simp
 rw [e] at h5
 subst hw1
 have h6:=h w.heap.size (w.heap.size + 1) r ⟨h1,h2⟩ (fun x kN kJ Δ hb w hw=>⟨_,rfl,hy x kN kJ w hw.block (hb w hw)⟩) _ h5
 refine (show Calls P g (yv (w.heap.size + 1)::cs).toArray _ (Ret _) from h6).mono fun e w3 he=>?_
 cases e with
 | returned v =>
  rcases he with ⟨Δ,h7,h8⟩ | ⟨Δ,h7,h8⟩
  ·exact .inl ⟨h7.block,h8 _ (zC6 (o':=.loop { r with state:=.exhausted }) h7).tail⟩
  ·exact .inr ⟨h7.block,h8 _ (zC6 (o':=.loop { r with state:=.exhausted,pending:=some (jumpC J) }) h7).tail⟩
 | panicked c=>exact he.elim
 | outgrown=>exact he.elim
end
end Go.Sep
namespace Go.Sep
open Go Go.RowKit
namespace Bt
structure BtW (κ:Type) extends BtT κ where
 fAll:Nat
 tPT:Nat
 nwalkC:Option Addr→Option Addr→Value→(Bool→K)→K
section
variable {κ:Type}
def zES (G:BtW κ) (Q:Bool→K) (X2:(Option Addr)→Int→K) (i7_4:Int) (t74_4:Bool):K :=
 Ite t74_4
  (Q false)
  (Ar (IntKind.wrap .i64 (i7_4 + 1)) fun t26 =>
  X2 none t26)
def zGL (G:BtW κ) (Q:Bool→K) (X2:(Option Addr)→Int→K) (n0_3:Addr) (yield2_3:Value) (i7_3:Int) (t46_3:Bool):K :=
 Ite t46_3
  (Q false)
  (Dr <|
  Ld n0_3 Sl.val fun t51 =>
  Ite (decide (i7_3 < (t51.n:Int)))
   (Ld n0_3 Sl.val fun t59 =>
   Idx t59 i7_3 (G.nv + 1) fun t61 =>
   Ld t61 G.kV fun t63 =>
   Ld n0_3 Sl.val fun t67 =>
   Idx t67 i7_3 (G.nv + 1) fun t69 =>
   LdN (t69.add 1) G.nv fun t71 =>
   CallY G.P yield2_3 [(G.kV t63),(.agg t71)] <| Ans1 (fun (t72:Bool)=>Value.bool t72) fun t72 =>
   zES G Q X2 i7_3 (!t72))
   (zES G Q X2 i7_3 false))
def zJ8 (G:BtW κ) (Q:Bool→K)  (X2:(Option Addr)→Int→K) (n0_2:(Option Addr)) (yield2_2:Value) (from1_2:(Option Addr)) (i7_2:Int):K :=
 Nn n0_2 fun t20 =>
 Ld t20 Sl.val fun t22 =>
 Ite (decide (i7_2 ≤ (t22.n:Int)))
  (Ld (t20.add 1) Sl.val fun t31 =>
  Ite (decide (i7_2 < (t31.n:Int)))
   (Ld (t20.add 1) Sl.val fun t38 =>
   Idx t38 i7_2 1 fun t40 =>
   Ld t40 Value.pointer fun t41 =>
   G.nwalkC t41 from1_2 yield2_2 fun t44 =>
   zGL G Q X2 t20 yield2_2 i7_2 (!t44))
   (zGL G Q X2 t20 yield2_2 i7_2 false))
  (Q true)
def zHu (G:BtW κ) (Q:Bool→K)  (n0_1:(Option Addr)) (from1_1:(Option Addr)) (yield2_1:Value) (i7_1:Int):K :=
 LoopK (α:=(Option Addr)×Int) (fun X x=>zJ8 G Q (fun from1_2 i7_2=>X (from1_2,i7_2)) n0_1 yield2_1 x.1 x.2) (from1_1,i7_1)
def nwalk (G:BtW κ) (n0:(Option Addr)) (from1:(Option Addr)) (yield2:Value) (Q:Bool→K):K :=
 Ite (!(from1).isNone)
  (Nn from1 fun t13 =>
  Ld t13 G.kV fun t14 =>
  G.nsearchC n0 t14 fun t15x0 t15x1 =>
  zHu G Q n0 (some t13) yield2 t15x0)
  (zHu G Q n0 from1 yield2 0)
def tall1 (G:BtW κ) (yield0:Value) (t1:Addr) (Q:K):K :=
 Ld t1 Value.pointer fun t3 =>
 Nn t3 fun t4 =>
 Ld t4 Value.pointer fun t6 =>
 G.nwalkC t6 none yield0 fun t8 =>
 Q
end
structure BtWOk {κ:Type} (G:BtW κ) (c:κ→κ→Int):Prop extends BtOk G.toBtT c where
 walk:∀ n f y Q w,nwalk G n f y Q w→G.nwalkC n f y Q w
 cAll:callable G.P G.fAll = true
 all1:∀ y t Q w,tall1 G y t Q w→CallF G.P G.fAll #[y,.pointer (some t)] (fun _=>Q) w
section
variable {κ:Type} {G:BtW κ} {c:κ→κ→Int} {B:World} {Γ Δ:List HProp}
theorem zKm (ok:BtWOk G c) {F:Nat→HProp} {E:HProp} {L0:List G.It} {y:Value}
  (step:∀ i x,L0[i]? = some x→∀ (Δ:List HProp) (kk:Value→K),HG B (F (i + 1)::Δ) (kk (.bool true))→HG B (E::Δ) (kk (.bool false))→HG B (F i::Δ) (CallY G.P y [G.kV x.1,.agg x.2.1.toArray] kk)) :
  ∀ (d:Nat) {m b:Nat} {A L C:List G.It} {Γ:List HProp} {Q:Bool→K},L0 = A++L++C→HG B (F (A.length + L.length)::NodeR G.toBtT d m b L::Γ) (Q true)→HG B (E::NodeR G.toBtT d m b L::Γ) (Q false) →
   HG B (F A.length::NodeR G.toBtT d m b L::Γ) (nwalk G (some ⟨b,0,none⟩) none y Q)
 | 0,m,b,A,L,C,Γ,Q,hL0,ht,hf=>by
  unfold nwalk zHu
  refine s_f ?_
  refine s_own b ?_
  refine zF9 fun s kd hm hl=>?_
  refine s_cap s fun l1 l2 l3 l4=>?_
  refine s_cap kd fun m1 m2 m3 m4=>?_
  rw [zAT G.f _ G.f_len] at l1
  have hn:s.n = L.length:=(Nat.eq_of_mul_eq_mul_right (by omega) l1).symm
  have hkn:kd.n = 0:=by simpa using m1.symm
  have ht':HG B (F (A.length + L.length)::nodeB G.toBtT b s kd::itsR G.toBtT s L::kpsR G.toBtT kd []::Γ) (Q true):=by
   refine s_own b ?_
   refine s_end (Δ:=nodeB G.toBtT b s kd::itsR G.toBtT s L::kpsR G.toBtT kd []::F (A.length + L.length)::Γ) ?_
   exact s_mk0 hm hl (s_swap ht)
  have hf':HG B (E::nodeB G.toBtT b s kd::itsR G.toBtT s L::kpsR G.toBtT kd []::Γ) (Q false):=by
   refine s_own b ?_
   refine s_end (Δ:=nodeB G.toBtT b s kd::itsR G.toBtT s L::kpsR G.toBtT kd []::E::Γ) ?_
   exact s_mk0 hm hl (s_swap hf)
  refine s_end (Δ:=F (A.length + min 0 L.length)::nodeB G.toBtT b s kd::itsR G.toBtT s L::kpsR G.toBtT kd []::Γ) ?_ (d:=by simpa using (inferInstance:Drops (nodeB G.toBtT b s kd::itsR G.toBtT s L::kpsR G.toBtT kd []::F A.length::Γ) (F A.length::nodeB G.toBtT b s kd::itsR G.toBtT s L::kpsR G.toBtT kd []::Γ)))
  refine s_loop (α:=Option Addr×Int) (ι:=Nat) (fun x i=>x = (none,(i:Int))∧i ≤ L.length + 1) (fun x i=>F (A.length + min i L.length)::nodeB G.toBtT b s kd::itsR G.toBtT s L::kpsR G.toBtT kd []::Γ) (fun x i=>L.length + 1 - i) 0 ⟨rfl,Nat.zero_le _⟩ ?_
  rintro k' _ i ⟨rfl,hi⟩ hk'
  simp only at hk' ⊢
  unfold zJ8
  refine s_nn ?_
  refine s_ld (b:=b) (x:=s) ?_
  refine s_ite (fun hb=>?_) fun hb=>?_
  ·have hiL:i ≤ L.length:=by simp only [decide_eq_true_eq] at hb; omega
   rw [Nat.min_eq_left hiL]
   refine s_ld (b:=b) (x:=kd) ?_
   refine s_f ?_
   unfold zGL
   refine s_f ?_
   refine s_dr ?_
   refine s_ld (b:=b) (x:=s) ?_
   refine s_ite (fun hb2=>?_) fun hb2=>?_
   ·have hil:i < L.length:=by simp only [decide_eq_true_eq] at hb2; omega
    have hge:L[i]? = some L[i]:=List.getElem?_eq_getElem hil
    generalize L[i] = x at hge
    have hge0:L0[A.length + i]? = some x:=by
     rw [hL0,List.append_assoc,List.getElem?_append_right (by omega),Nat.add_sub_cancel_left,List.getElem?_append_left hil,hge]
    refine s_ld (b:=b) (x:=s) ?_
    refine s_idx (s:=s) (i:=i) ?_
    refine s_ldE0 (s:=s) (x:=x.1) (by exact (zJX (off:=0) G.f_len hge (by omega)).trans rfl) ?_
    refine s_ld (b:=b) (x:=s) ?_
    refine s_idx (s:=s) (i:=i) ?_
    refine s_ldEN (s:=s) (off:=1) (l':=x.2.1) ?_ x.2.2.1 ?_
    ·have h1:=zEW G.f_len hge
     have e:((L.flatMap G.f).drop (i * (G.nv + 1) + 1)).take G.nv = (((L.flatMap G.f).drop (i * (G.nv + 1))).take (G.nv + 1)).drop 1:=by rw [← List.drop_drop,List.drop_take]; rfl
     rw [e,h1]; rfl
    refine step _ x hge0 _ _ ?_ ?_
    ·refine s_ans1 ?_
     unfold zES
     refine s_f ?_
     refine s_ai ?_
     have:=hk' (none,(i:Int) + 1) (i + 1) ⟨by simp,by omega⟩ (by omega)
     rw [Nat.min_eq_left (show i + 1 ≤ L.length from hil)] at this
     exact this
    ·refine s_ans1 ?_
     unfold zES
     exact s_t hf'
   ·have hil:i = L.length:=by simp only [decide_eq_false_iff_not] at hb2; omega
    unfold zES
    refine s_f ?_
    refine s_ai ?_
    have:=hk' (none,(i:Int) + 1) (i + 1) ⟨by simp,by omega⟩ (by omega)
    rw [Nat.min_eq_right (by omega)] at this
    rw [hil]
    rw [hil] at this
    exact this
  ·have hil:¬ i ≤ L.length:=by simp only [decide_eq_false_iff_not] at hb; omega
   rw [Nat.min_eq_right (by omega)]
   exact ht'
 | d + 1,m,b,A,L,C,Γ,Q,hL0,ht,hf=>by
  unfold nwalk zHu
  refine s_f ?_
  refine s_own b ?_
  refine zGx fun s kd q0 ps hne hl hM=>?_
  subst hM
  refine s_cap s fun l1 l2 l3 l4=>?_
  refine s_cap kd fun m1 m2 m3 m4=>?_
  rw [zAT G.f _ G.f_len] at l1
  have hn:s.n = ps.length:=by
   have:=Nat.eq_of_mul_eq_mul_right (by omega) l1
   simpa using this.symm
  have hkn:kd.n = ps.length + 1:=by simpa using m1.symm
  have ht':HG B (F (A.length + (psL q0 ps).length)::nodeB G.toBtT b s kd::itsR G.toBtT s (ps.map Prod.fst)::kpsR G.toBtT kd ((q0::ps.map Prod.snd).map ptr)::kidsR G.toBtT d (q0::ps.map Prod.snd)::Γ) (Q true):=by
   refine s_own b ?_
   refine s_end (Δ:=nodeB G.toBtT b s kd::itsR G.toBtT s (ps.map Prod.fst)::kpsR G.toBtT kd ((q0::ps.map Prod.snd).map ptr)::kidsR G.toBtT d (q0::ps.map Prod.snd)::F (A.length + (psL q0 ps).length)::Γ) ?_
   exact s_mkS hne hl (s_swap ht)
  have hf':HG B (E::nodeB G.toBtT b s kd::itsR G.toBtT s (ps.map Prod.fst)::kpsR G.toBtT kd ((q0::ps.map Prod.snd).map ptr)::kidsR G.toBtT d (q0::ps.map Prod.snd)::Γ) (Q false):=by
   refine s_own b ?_
   refine s_end (Δ:=nodeB G.toBtT b s kd::itsR G.toBtT s (ps.map Prod.fst)::kpsR G.toBtT kd ((q0::ps.map Prod.snd).map ptr)::kidsR G.toBtT d (q0::ps.map Prod.snd)::E::Γ) ?_
   exact s_mkS hne hl (s_swap hf)
  let pos:Option (List (Kid G.toBtT×G.It)×Kid G.toBtT×List (G.It×Kid G.toBtT))→Nat:=fun i=>match i with
   | none=>A.length + (psL q0 ps).length
   | some (l,_,_)=>A.length + (preL l).length
  let num:Option (List (Kid G.toBtT×G.It)×Kid G.toBtT×List (G.It×Kid G.toBtT))→Nat:=fun i=>match i with
   | none=>ps.length + 1
   | some (l,_,_)=>l.length
  let Gd:Option (List (Kid G.toBtT×G.It)×Kid G.toBtT×List (G.It×Kid G.toBtT))→Prop:=fun i=>match i with
   | none=>True
   | some (l,q,r)=>ps.map Prod.fst = l.map Prod.snd++r.map Prod.fst∧q0::ps.map Prod.snd = l.map Prod.fst++q::r.map Prod.snd∧psL q0 ps = preL l++q.2++postL r
  refine s_end (Δ:=F (pos (some ([],q0,ps)))::nodeB G.toBtT b s kd::itsR G.toBtT s (ps.map Prod.fst)::kpsR G.toBtT kd ((q0::ps.map Prod.snd).map ptr)::kidsR G.toBtT d (q0::ps.map Prod.snd)::Γ) ?_ (d:=by
   show Drops _ (F A.length::_)
   infer_instance)
  refine s_loop (α:=Option Addr×Int) (ι:=Option (List (Kid G.toBtT×G.It)×Kid G.toBtT×List (G.It×Kid G.toBtT))) (fun x i=>x = (none,(num i:Int))∧Gd i)
   (fun x i=>F (pos i)::nodeB G.toBtT b s kd::itsR G.toBtT s (ps.map Prod.fst)::kpsR G.toBtT kd ((q0::ps.map Prod.snd).map ptr)::kidsR G.toBtT d (q0::ps.map Prod.snd)::Γ) (fun x i=>ps.length + 1 - num i) (some ([],q0,ps)) ⟨rfl,rfl,rfl,rfl⟩ ?_
  rintro k' _ i ⟨rfl,hg1⟩ hk'
  simp only at hk' ⊢
  unfold zJ8
  refine s_nn ?_
  refine s_ld (b:=b) (x:=s) ?_
  match i,hg1,hk' with
  | none,_,hk' =>
   refine s_f ?_ (by simp only [num,decide_eq_false_iff_not]; omega)
   exact ht'
  | some (l,q,r),⟨g1,g2,g3⟩,hk' =>
   simp only [pos,num] at hk' ⊢
   have hlen:ps.length = l.length + r.length:=by have:=congrArg List.length g1; simpa using this
   refine s_t ?_ (by simp only [decide_eq_true_eq]; omega)
   refine s_ld (b:=b) (x:=kd) ?_
   refine s_t ?_ (by simp only [decide_eq_true_eq]; omega)
   refine s_ld (b:=b) (x:=kd) ?_
   refine s_idx (s:=kd) (i:=l.length) ?_
   rw [g2]
   refine s_ldE0 (s:=kd) (x:=ptr q) (by simp) ?_
   refine s_pick (kidsR G.toBtT d (l.map Prod.fst++q::r.map Prod.snd)) ?_
   refine s_kid ?_
   refine fun w hw=>ok.walk _ _ _ _ _ ?_
   refine hg hw ?_
   clear hw w
   have hbk:∀ {X:HProp} {kk:K},HG B (X::nodeB G.toBtT b s kd::itsR G.toBtT s (ps.map Prod.fst)::kpsR G.toBtT kd ((q0::ps.map Prod.snd).map ptr)::kidsR G.toBtT d (q0::ps.map Prod.snd)::Γ) kk →
     HG B (X::NodeR G.toBtT d 2 q.1 q.2::kidsR G.toBtT d (l.map Prod.fst++r.map Prod.snd)::nodeB G.toBtT b s kd::itsR G.toBtT s (ps.map Prod.fst)::kpsR G.toBtT kd ((l.map Prod.fst++q::r.map Prod.snd).map ptr)::Γ) kk:=fun {X kk} h=>by
    refine s_own q.1 ?_
    refine s_end (Δ:=NodeR G.toBtT d 2 q.1 q.2::kidsR G.toBtT d (l.map Prod.fst++r.map Prod.snd)::X::nodeB G.toBtT b s kd::itsR G.toBtT s (ps.map Prod.fst)::kpsR G.toBtT kd ((l.map Prod.fst++q::r.map Prod.snd).map ptr)::Γ) ?_
    refine zDs ?_
    rw [← g2]
    exact s_end h
   have eA:A.length + (preL l).length = (A++preL l).length:=by simp
   rw [eA]
   refine s_end (Δ:=F (A++preL l).length::NodeR G.toBtT d 2 q.1 q.2::kidsR G.toBtT d (l.map Prod.fst++r.map Prod.snd)::nodeB G.toBtT b s kd::itsR G.toBtT s (ps.map Prod.fst)::kpsR G.toBtT kd ((l.map Prod.fst++q::r.map Prod.snd).map ptr)::Γ) ?_
   have hL0':L0 = (A++preL l)++q.2++(postL r++C):=by rw [hL0,g3]; simp
   refine zKm ok step d (C:=postL r++C) hL0' (hbk ?_) (hbk ?_)
   ·unfold zGL
    refine s_f ?_
    refine s_dr ?_
    refine s_ld (b:=b) (x:=s) ?_
    cases r with
    | nil =>
     refine s_f ?_ (by simp only [List.length_nil] at hlen; simp only [decide_eq_false_iff_not]; omega)
     unfold zES
     refine s_f ?_
     refine s_ai ?_
     have:=hk' (none,(l.length:Int) + 1) none ⟨by simp only [num]; simp only [List.length_nil] at hlen; rw [hlen]; simp,trivial⟩ (by simp only [num]; omega)
     simp only [pos] at this
     have e2:(A++preL l).length + q.2.length = A.length + (psL q0 ps).length:=by rw [g3]; simp [postL]; omega
     rw [e2]; exact this
    | cons p r =>
     obtain ⟨x,q'⟩:=p
     refine s_t ?_ (by simp only [List.length_cons] at hlen; simp only [decide_eq_true_eq]; omega)
     have hge:(ps.map Prod.fst)[l.length]? = some x:=by rw [g1]; simp
     have hge0:L0[(A++preL l).length + q.2.length]? = some x:=by
      rw [hL0',show A++preL l++q.2++(postL ((x,q')::r)++C) = (A++preL l++q.2)++x::(q'.2++postL r++C) by simp [postL]]
      rw [List.getElem?_append_right (by simp; omega)]
      have e9:(A++preL l).length + q.2.length - (A++preL l++q.2).length = 0:=by simp only [List.length_append]; omega
      rw [e9]; rfl
     refine s_ld (b:=b) (x:=s) ?_
     refine s_idx (s:=s) (i:=l.length) ?_ rfl (by simp only [List.length_cons] at hlen; omega)
     refine s_ldE0 (s:=s) (x:=x.1) (by exact (zJX (off:=0) G.f_len hge (by omega)).trans rfl) ?_
     refine s_ld (b:=b) (x:=s) ?_
     refine s_idx (s:=s) (i:=l.length) ?_ rfl (by simp only [List.length_cons] at hlen; omega)
     refine s_ldEN (s:=s) (off:=1) (l':=x.2.1) ?_ x.2.2.1 ?_
     ·have h1:=zEW G.f_len hge
      have e:(((ps.map Prod.fst).flatMap G.f).drop (l.length * (G.nv + 1) + 1)).take G.nv = ((((ps.map Prod.fst).flatMap G.f).drop (l.length * (G.nv + 1))).take (G.nv + 1)).drop 1:=by rw [← List.drop_drop,List.drop_take]; rfl
      rw [e,h1]; rfl
     refine step _ x hge0 _ _ ?_ ?_
     ·refine s_ans1 ?_
      unfold zES
      refine s_f ?_
      refine s_ai ?_
      have:=hk' (none,(l.length:Int) + 1) (some (l++[(q,x)],q',r)) ⟨by simp [num],by rw [g1]; simp,by rw [g2]; simp,by rw [g3]; simp [preL,postL]⟩ (by simp only [num,List.length_append,List.length_cons,List.length_nil]; simp only [List.length_cons] at hlen; omega)
      simp only [pos] at this
      have e2:A.length + (preL (l++[(q,x)])).length = (A++preL l).length + q.2.length + 1:=by simp [preL]; omega
      rw [e2] at this; exact this
     ·refine s_ans1 ?_
      unfold zES
      exact s_t hf'
   ·unfold zGL
    exact s_t hf'
theorem zPs (ok:BtWOk G c) {t cb:Nat} {J:Exit} {F:Nat→HProp} {E:HProp} {L:List G.It} {body:(K→K)→K→K→κ×Array Value→K} {after afterJ:Nat→K}
  (step:∀ i x,L[i]? = some x→∀ l r kN kJ (Δ:List HProp),rdyR r→HG B (F (i + 1)::blk l (.loop r)::Δ) kN→HG B (E::blk l (.loop (doneR r J))::Δ) kJ →
   HG B (F i::blk l (.loop r)::Δ) (body (BeginR l r) (EndR l (busyR r) kN) (StopR l (busyR r) J kJ) (x.1,x.2.1.toArray)))
  (ht:∀ D,HG B (F L.length::blk D (.deferred (some []))::blk cb (.cells [.pointer (some ⟨t,0,none⟩)].toArray G.tPT (0,0))::TreeR G.toBtT c t L::Γ) (after D))
  (hj:∀ D,HG B (E::blk D (.deferred (some []))::blk cb (.cells [.pointer (some ⟨t,0,none⟩)].toArray G.tPT (0,0))::TreeR G.toBtT c t L::Γ) (afterJ D)) :
  HG B (F 0::blk cb (.cells [.pointer (some ⟨t,0,none⟩)].toArray G.tPT (0,0))::TreeR G.toBtT c t L::Γ) (RangeJ G.P (.func (.func G.fAll) #[] #[.pointer (some ⟨cb,0,none⟩)]) J (fun x:κ×Array Value=>[G.kV x.1,.agg x.2]) body after afterJ):=by
 refine zSL (cs:=[.pointer (some ⟨cb,0,none⟩)]) ok.cAll fun D l r hr hy=>?_
 refine fun w hw=>ok.all1 _ _ _ _ ?_
 refine hg hw ?_
 clear hw w
 unfold tall1
 refine s_ld (b:=cb) (x:=some ⟨t,0,none⟩) ?_
 refine s_nn ?_
 refine s_own t ?_
 refine s_tree fun d b hs=>?_
 refine s_ld (b:=t) (x:=some ⟨b,0,none⟩) ?_
 refine fun w hw=>ok.walk _ _ _ _ _ ?_
 refine hg hw ?_
 clear hw w
 let F':Nat→HProp:=fun i=>Sep.stars [F i,blk l (.loop r)]
 let E':HProp:=Sep.stars [E,blk l (.loop (doneR r J))]
 have hin:∀ {X Y:HProp} {Δ:List HProp} {k:K},HG B (X::Y::Δ) k→HG B (Sep.stars [X,Y]::Δ) k:=fun h=>s_flat h
 have hout:∀ {X Y:HProp} {Δ:List HProp} {k:K},HG B (Sep.stars [X,Y]::Δ) k→HG B (X::Y::Δ) k:=fun {X Y Δ k} h=>zEs (Δ:=[X,Y]) h
 refine s_end (Δ:=F 0::blk l (.loop r)::NodeR G.toBtT d 1 b L::blk t (.cells [.pointer (some ⟨b,0,none⟩),.int .i64 L.length].toArray G.tT (0,0))::blk D (.deferred (some []))::blk cb (.cells [.pointer (some ⟨t,0,none⟩)].toArray G.tPT (0,0))::Γ) ?_
 refine hout ?_
 refine zKm ok (F:=F') (E:=E') (L0:=L) (fun i x hx Δ kk h1 h2=>?_) d (A:=[]) (C:=[]) (by simp) ?_ ?_
 ·refine zTT ?_
  refine hin ?_
  refine s_swap ?_
  refine hy (x.1,x.2.1.toArray) _ _ _ ?_
  refine s_swap ?_
  exact step i x hx l r _ _ _ hr (hout h1) (hout h2)
 ·refine hin ?_
  refine s_aftN ?_
  simp only [List.length_nil,Nat.zero_add]
  refine s_own t ?_
  refine s_own b ?_
  refine s_swap ?_
  refine zDx hs ?_
  exact s_end (ht D)
 ·refine hin ?_
  refine s_aftJ ?_
  refine s_own t ?_
  refine s_own b ?_
  refine s_swap ?_
  refine zDx hs ?_
  exact s_end (hj D)
end
end Bt
end Go.Sep
namespace Go.Proofs.YtdemfamgieonbaaGreat
open Go Go.Sep Go.Sep.Bt
set_option maxRecDepth 100000
noncomputable def btSW:BtW ByteArray where
 toBtT:=btS
 fAll:=163
 tPT:=zCi
 nwalkC:=zAB.call
theorem zTU:BtWOk btSW cmpS where
 toBtOk:=btS_ok
 walk:=fun n f y Q w h=>zEN _ _ _ _ _ h
 cAll:=by kernel_rfl
 all1:=fun y t Q w h=>by
  have h1:=zED y t Q w h
  exact zMv h1 fun v w h=>h.2
def rowsF (o:Nat) (X:List RecX) (i:Nat):HProp:=ex fun s=>ex fun Y:List RecX=>Sep.stars [pur (Y.map recM = (X.take i).map recM),blk o (.cells [s.val].toArray zDU (0,0)),SlC zBQ 5 s (Y.flatMap rowF6),Sep.stars (Y.map recB),Sep.stars (X.map recB)]
section
variable {B:World} {Γ Δ:List HProp} {o i st n:Nat} {M:Recs} {X:List RecX} {k:K}
theorem zPE (h:∀ s (Y:List RecX),Y.map recM = (X.take i).map recM→HG B (blk o (.cells [s.val].toArray zDU (0,0))::SlC zBQ 5 s (Y.flatMap rowF6)::Sep.stars (Y.map recB)::Sep.stars (X.map recB)::Γ) k):HG B (rowsF o X i::Γ) k :=
 s_ex fun s=>s_ex fun Y=>s_flat <| s_pur fun h1=>h s Y h1
theorem zMP {s:Sl} {Y:List RecX} (h1:Y.map recM = (X.take i).map recM) (h:HG B (rowsF o X i::Γ) k):HG B (blk o (.cells [s.val].toArray zDU (0,0))::SlC zBQ 5 s (Y.flatMap rowF6)::Sep.stars (Y.map recB)::Sep.stars (X.map recB)::Γ) k:=fun w hw=>by
 refine h w ?_
 have h3:Holds B (Sep.stars [pur (Y.map recM = (X.take i).map recM),blk o (.cells [s.val].toArray zDU (0,0)),SlC zBQ 5 s (Y.flatMap rowF6),Sep.stars (Y.map recB),Sep.stars (X.map recB)]::Γ) w:=Holds.flat.2 (Holds.pur.2 ⟨h1,hw⟩)
 exact h3.imp fun g hg=>⟨s,Y,hg⟩
instance (priority:=high) zT1:Sep.Own o (rowsF o X i::Γ) (rowsF o X i) Γ:=⟨.refl _⟩
theorem zTV {Y:List RecX} {y:RecX} (h:HG B (Sep.stars ((Y++[y]).map recB)::Γ) k):HG B (recB y::Sep.stars (Y.map recB)::Γ) k:=by
 have:=zCx (F:=recB) (A:=Y) (C:=[]) (x:=y) h
 rwa [List.append_nil] at this
theorem zTW {Q:Sl→K} (hL:M.length < 10000000) (h:∀ s (Y:List RecX),Y.map recM = M→HG B (SlC zBQ 5 s (Y.flatMap rowF6)::Sep.stars (Y.map recB)::StoreR st n M::Γ) (Q s)):HG B (StoreR st n M::Γ) (zDE.call (some ⟨st,0,none⟩) Q):=by
 refine fun w hw=>zH7 _ _ _ ?_
 refine hg hw ?_
 clear hw w
 refine zG2 fun t X hM hok h1 h3=>?_
 have hXl:X.length = M.length:=by rw [hM]; simp
 unfold zDE
 refine s_new fun o=>?_
 refine s_nn ?_
 repeat refine s_nx ?_
 refine fun w hw=>zEb _ _ _ ?_
 refine hg hw ?_
 clear hw w
 unfold zBj
 refine s_new fun cb=>?_
 refine fun w hw=>hg (show Holds B (SlC zBQ 5 ⟨none,0,0⟩ (([]:List RecX).flatMap rowF6)::_) w from hw.nilSl _ _) ?_
 clear hw w
 refine fun w hw=>hg (show Holds B (Sep.stars (([]:List RecX).map recB)::_) w from Holds.flat.2 hw) ?_
 clear hw w
 refine s_end (Δ:=blk o (.cells [(⟨none,0,0⟩:Sl).val].toArray zDU (0,0))::SlC zBQ 5 ⟨none,0,0⟩ (([]:List RecX).flatMap rowF6)::Sep.stars (([]:List RecX).map recB)::Sep.stars (X.map recB)::blk cb (.cells [.pointer (some ⟨t,0,none⟩)].toArray zCi (0,0))::TreeR btS cmpS t (X.map recI)::blk st (.cells [.int .i64 n,.pointer (some ⟨t,0,none⟩)].toArray zA2 (0,0))::Γ) ?_
 refine zMP (i:=0) (by simp) ?_
 refine zPs zTU (F:=rowsF o X) (E:=pur False) (fun i x hx l r kN kJ Δ hr hN hJ=>?_) (fun D=>?_) fun D=>s_pur fun hf=>hf.elim
 ·obtain ⟨y,hy,hxy⟩:∃ y,X[i]? = some y∧recI y = x:=by
   have h0:(X.map recI)[i]? = some (x:btS.It):=hx
   rw [List.getElem?_map] at h0
   exact Option.map_eq_some_iff.1 h0
  subst hxy
  have hil:i < X.length:=(List.getElem?_eq_some_iff.1 hy).1
  have hmem:y ∈ X:=List.mem_of_getElem? hy
  have htk:X.take (i + 1) = X.take i++[y]:=by
   rw [List.take_succ_eq_append_getElem hil,(List.getElem?_eq_some_iff.1 hy).2]
  have hyok:y.2.1.ok:=hok (recM y) (by rw [hM]; exact List.mem_map.2 ⟨y,hmem,rfl⟩)
  refine s_new fun r4=>?_
  refine s_stN (b:=r4) (l':=recL y.2.1 y.2.2) ?_
  refine zSK ?_
  refine s_own o ?_
  refine zPE fun s Y hY=>?_
  have hYl:Y.length = i:=by have:=congrArg List.length hY; simpa [Nat.min_eq_left (Nat.le_of_lt hil)] using this
  refine s_cap s fun a1 a2 a3 a4=>?_
  rw [zAT _ 5 zQd] at a1
  repeat refine s_nx ?_
  refine zDh (xs:=y.2.1.val) (fun w hw=>?_) hyok.2.2 fun s' hs'=>?_
  ·obtain ⟨Δ,h1⟩:=zKe hmem (hw.drops (Δ:=[Sep.stars (X.map recB)]))
   exact h1.rdC List.mem_cons_self
  repeat refine s_nx ?_
  refine s_new fun t20=>?_
  refine zBT (s:=s) (esz:=5) (us:=rowF6 (y.1,(y.2.1,s'))) (blk_rd rfl) (by intro v hv; exact zR3 [(y.1,(y.2.1,s'))] v (by simpa using hv)) (by simp only; omega) fun s2 hs2=>?_
  rw [show Y.flatMap rowF6++rowF6 (y.1,(y.2.1,s')) = (Y++[(y.1,(y.2.1,s'))]).flatMap rowF6 by simp only [List.flatMap_append,List.flatMap_cons,List.flatMap_nil,List.append_nil]]
  repeat refine s_nx ?_
  refine s_endR hr ?_
  refine s_end (Δ:=recB (y.1,(y.2.1,s'))::Sep.stars (Y.map recB)::blk o (.cells [s2.val].toArray zDU (0,0))::SlC zBQ 5 s2 ((Y++[(y.1,(y.2.1,s'))]).flatMap rowF6)::Sep.stars (X.map recB)::blk l (.loop r)::Δ) ?_
  refine zTV ?_
  refine s_end (Δ:=blk o (.cells [s2.val].toArray zDU (0,0))::SlC zBQ 5 s2 ((Y++[(y.1,(y.2.1,s'))]).flatMap rowF6)::Sep.stars ((Y++[(y.1,(y.2.1,s'))]).map recB)::Sep.stars (X.map recB)::blk l (.loop r)::Δ) ?_
  exact zMP (by rw [htk,List.map_append,hY,List.map_append]; rfl) hN
 ·show HG B (rowsF o X (X.map recI:List btS.It).length::blk D (.deferred (some []))::blk cb (.cells [.pointer (some ⟨t,0,none⟩)].toArray zCi (0,0))::TreeR btS cmpS t (X.map recI)::blk st (.cells [.int .i64 n,.pointer (some ⟨t,0,none⟩)].toArray zA2 (0,0))::Γ) _
  refine zPE fun s Y hY=>?_
  repeat refine s_nx ?_
  refine zTS ?_
  repeat refine s_nx ?_
  have hY2:Y.map recM = M:=hY.trans (by
   show ((X.take (X.map recI:List btS.It).length).map recM) = _
   rw [List.length_map,List.take_length,hM])
  refine s_pick (Sep.stars (X.map recB)) ?_
  refine s_own t ?_
  refine s_own st ?_
  rw [hM] at h
  refine zDl (by rw [← hM]; exact hok) h1 h3 ?_
  exact s_end (h s Y (by rw [hY2,hM]))
end
end Go.Proofs.YtdemfamgieonbaaGreat
namespace Go.Proofs.YtdemfamgieonbaaGreat
open Go Go.Sep Go.Sep.Bt
set_option maxRecDepth 100000
abbrev newM (n:Nat):SchM:=⟨[],([],fun _=>false),List.replicate n ⟨-1,[]⟩,List.replicate n 0,[]⟩
section
variable {B:World} {Γ Δ:List HProp} {k:K} {sd n T:Nat} {S:SchM} {t:TxX} {tag:TagM}
theorem zSM {z:Value} {m:Nat} {Q:Sl→K} {T E by':Nat} (hT:Tryz.prog.underlying T = some (.slice E)) (hE:(Tryz.prog.info? E).map (fun i=>(i.zero,i.size,i.bytes)) = some (some z,1,by')) (hz:z.cells = #[z]) (hb:by' * m ≤ 281474976710656) (hm:m ≤ 9223372036854775807)
  (h:∀ s,s.n = m→HG B (SlC E 1 s (List.replicate m z)::Γ) (Q s)):HG B Γ (Do Tryz.prog (Instr.makeSlice T (.int .i64 (m:Int)) (.int .i64 (m:Int))) Sl.val Q):=fun w hw=>by
 have h1:=Go.run_make_row' (P:=Tryz.prog) T E z by' hT hE hz .i64 .i64 m hb hm w
 refine ⟨⟨some ⟨w.heap.size,0,none⟩,m,m⟩,_,h1,h ⟨some ⟨w.heap.size,0,none⟩,m,m⟩ rfl _ ?_⟩
 have h2:=hw.alloc (.cells (madeCells #[z] m) E (0,0))
 exact h2.imp (zEU (by
  apply List.ext_getElem?
  intro i
  by_cases hi:i < m <;> simp [madeCells,List.getElem?_range,List.getElem?_replicate,hi,Nat.mod_one]) (by simp))
theorem zMQ {Q:Option Addr→Int→K} (h1:1 ≤ n) (h3:n ≤ 3) (h:∀ sd,HG B (SchS sd n 0 (newM n)::Γ) (Q (some ⟨sd,0,none⟩) 0)):HG B Γ (zBt.call (n:Int) Q):=by
 refine fun w hw=>zNu _ _ _ ?_
 refine hg hw ?_
 clear hw w
 unfold zBt
 refine zMX h1 h3 fun st=>?_
 refine s_f ?_
 refine s_dr ?_
 have rest:∀ (l:Nat) (fd:Sl),HG B (LocksR l [] (fun _=>false)::SlI fd (List.replicate n 0)::StoreR st n []::Γ) (New zAw [.pointer (some ⟨st,0,none⟩),.pointer (some ⟨l,0,none⟩),Sl.val ⟨none,0,0⟩,fd.val,Sl.val ⟨none,0,0⟩].toArray fun t21=>zBt.s1 Q (n:Int) (some t21)):=fun l fd=>by
  refine s_new fun sd=>?_
  unfold zBt.s1
  refine fun w hw=>hg (show Holds B (SlC zCM 1 ⟨none,0,0⟩ ((([]:List FX).map ptrF).map Value.pointer)::Sep.stars (([]:List FX).map (filO 0))::SlC zCo 1 ⟨none,0,0⟩ ((([]:List JobX).map ptrJ).map Value.pointer)::Sep.stars (([]:List JobX).map jobO)::_) w from (((hw.starsNil).nilSl _ _).starsNil).nilSl _ _) ?_
  clear hw w
  refine s_end (Δ:=schF sd st l n 0 (newM n) ⟨none,0,0⟩ fd ⟨none,0,0⟩ [] [] Γ) ?_
  refine s_loop (α:=Int) (ι:=Sl×List FX) (fun x i=>x = (i.2.length:Int)∧i.2.length ≤ n∧i.2.map FX.f = List.replicate i.2.length ⟨-1,[]⟩∧i.2.map FX.rg = (List.range i.2.length).map fun j:Nat=>(j:Int)) (fun x i=>schF sd st l n 0 (newM n) i.1 fd ⟨none,0,0⟩ i.2 [] Γ) (fun x i=>n - i.2.length) (⟨none,0,0⟩,[]) ⟨rfl,Nat.zero_le _,rfl,rfl⟩ ?_
  rintro k' _ ⟨fs,F⟩ ⟨rfl,hi,hF1,hF2⟩ hk'
  simp only at hi hF1 hF2 hk' ⊢
  unfold zBt.b2
  refine s_ite (fun hb=>?_) fun hb=>?_
  ·have hin:F.length < n:=by simp only [decide_eq_true_eq] at hb; omega
   refine s_cap fs fun a1 a2 a3 a4=>?_
   rw [List.length_map,List.length_map,Nat.mul_one] at a1
   refine s_dr ?_
   refine s_wsD [blk sd (.cells (sdL st l fs fd ⟨none,0,0⟩).toArray zAw (0,0))] ?_
   refine s_nn ?_
   refine s_ldS (b:=sd) (off:=2) (l:=sdL st l fs fd ⟨none,0,0⟩) (x:=fs) ?_
   refine zQp fun fp=>?_
   refine s_sv ?_
   refine s_new fun t33=>?_
   refine s_sv ?_
   refine zBT (s:=fs) (us:=[.pointer (some ⟨fp,0,none⟩)]) (blk_rd rfl) (by intro v hv; rw [List.mem_singleton.1 hv]; rfl) (by simp only; omega) fun fs2 hfs2=>?_
   refine s_st (b:=sd) (off:=2) (l:=sdL st l fs fd ⟨none,0,0⟩) (l':=sdL st l fs2 fd ⟨none,0,0⟩) ?_ rfl rfl
   refine s_ai ?_
   rw [show (F.map ptrF).map Value.pointer++[.pointer (some ⟨fp,0,none⟩)] = ((F++[(⟨fp,(F.length:Int),⟨-1,[]⟩⟩:FX)]).map ptrF).map Value.pointer by simp]
   refine s_end (Δ:=FilR fp (F.length:Int) 0 ⟨-1,[]⟩::Sep.stars (F.map (filO 0))::blk sd (.cells (sdL st l fs2 fd ⟨none,0,0⟩).toArray zAw (0,0))::LocksR l [] (fun _=>false)::StoreR st n []::SlC zCo 1 ⟨none,0,0⟩ ((([]:List JobX).map ptrJ).map Value.pointer)::Sep.stars (([]:List JobX).map jobO)::SlC zCM 1 fs2 (((F++[(⟨fp,(F.length:Int),⟨-1,[]⟩⟩:FX)]).map ptrF).map Value.pointer)::SlI fd (List.replicate n 0)::Γ) ?_
   show HG B (filO 0 ⟨fp,(F.length:Int),⟨-1,[]⟩⟩::_) _
   refine zLe ?_
   refine s_end (hk' ((F.length:Int) + 1) (fs2,F++[⟨fp,(F.length:Int),⟨-1,[]⟩⟩]) ⟨by simp,by simp; omega,?_,?_⟩ (by simp; omega))
   ·simp only [List.map_append,hF1,List.map_cons,List.map_nil,List.length_append,List.length_cons,List.length_nil]
    rw [List.replicate_succ']
   ·simp only [List.map_append,hF2,List.map_cons,List.map_nil,List.length_append,List.length_cons,List.length_nil]
    rw [List.range_succ,List.map_append]; rfl
  ·have hil:F.length = n:=by simp only [decide_eq_false_iff_not] at hb; omega
   rw [hil] at hF1 hF2
   refine zE7 ⟨h1,h3,hF1,hF2,by simp [newM],fun x hx=>?_,rfl,by simp,by simp,⟨0,⟨by simp [newM],by simp [newM]⟩,by simp⟩,by simp [newM]⟩ (h sd)
   have:=List.eq_of_mem_replicate hx
   omega
 have mk:∀ {Δ:List HProp} {Q':Sl→K},(∀ s,HG B (SlI s (List.replicate n 0)::Δ) (Q' s))→HG B Δ (Do Tryz.prog (Instr.makeSlice zNE (.int .i64 (n:Int)) (.int .i64 (n:Int))) Sl.val Q'):=fun {Δ Q'} hq =>
  zSM (by':=8) (z:=.int .i64 0) (by kernel_rfl) (by kernel_rfl) rfl (by omega) (by omega) fun s _=>by
   have:=hq s
   rw [SlI,List.map_replicate] at this
   exact this
 refine s_all2 ?_ ?_
 ·refine zJa fun l=>?_
  refine mk fun fd=>?_
  exact s_end (rest l fd)
 ·refine mk fun fd=>?_
  refine zJa fun l=>?_
  exact s_end (rest l fd)
theorem zFQ {Q:Sl→K} (hT:T ≤ 20000) (h:∀ s,HG B (SlC zBP 4 s ((S.jobs.map JobM.tag).flatMap tagF)::SchS sd n T S::Γ) (Q s)):HG B (SchS sd n T S::Γ) (zA0.call (some ⟨sd,0,none⟩) Q):=by
 refine fun w hw=>zGo _ _ _ ?_
 refine hg hw ?_
 clear hw w
 refine s_sch fun st l a b c F J ho=>?_
 refine s_cap c fun a1 a2 a3 a4=>?_
 rw [List.length_map,List.length_map,Nat.mul_one] at a1
 have hjl:=ho.jl
 unfold zA0
 refine s_nn ?_
 refine s_ld (b:=sd) (off:=4) (l:=sdL st l a b c) (x:=c) ?_
 refine fun w hw=>hg (show Holds B (SlC zBP 4 ⟨none,0,0⟩ []::_) w from hw.nilSl _ _) ?_
 clear hw w
 refine s_loop (α:=Sl×Int) (ι:=Nat) (fun x i=>x.2 = (i:Int)∧i ≤ J.length) (fun x i=>SlC zBP 4 x.1 (((J.take i).map JobX.tag).flatMap tagF)::schF sd st l n T S a b c F J Γ) (fun x i=>J.length - i) 0 ⟨rfl,Nat.zero_le _⟩ ?_
 rintro k' ⟨o,_⟩ i ⟨rfl,hi⟩ hk'
 simp only at hi hk' ⊢
 unfold zA0.b1
 refine s_ite (fun hb=>?_) fun hb=>?_
 ·have hil:i < J.length:=by simp only [decide_eq_true_eq] at hb; omega
  have hge:J[i]? = some J[i]:=List.getElem?_eq_getElem hil
  have hmem:J[i] ∈ J:=List.getElem_mem hil
  have htk:J.take (i + 1) = J.take i++[J[i]]:=List.take_succ_eq_append_getElem hil
  generalize J[i] = e at hge htk hmem
  refine s_cap o fun b1 b2 b3 b4=>?_
  rw [zAT _ 4 zNU,List.length_map,List.length_take,Nat.min_eq_left hi] at b1
  refine s_idx1 (c:=Value.pointer) (L:=J.map ptrJ) (j:=i) (x:=ptrJ e) (fun w hw=>(own_rd (s:=c) hw).1) (by rw [List.getElem?_map,hge]; rfl) ?_
  refine s_nn ?_
  obtain ⟨A,C,hAC⟩:=List.append_of_mem hmem
  have hJ2:Sep.stars (J.map jobO) = Sep.stars ((A++e::C).map jobO):=by rw [hAC]
  refine s_pick (Sep.stars (J.map jobO)) ?_
  rw [hJ2]
  refine s_mid ?_
  refine s_job ?_
  refine s_ldN (b:=e.b) (l:=jobL e) (l':=tagF e.tag) ?_
  refine zHH ?_
  refine zCx ?_
  rw [← hJ2]
  refine s_bld1 (cs:=tagF e.tag) ?_
  refine s_new fun t20=>?_
  refine zBT (s:=o) (esz:=4) (us:=tagF e.tag) (blk_rd rfl) (by simp [flatV]) (by simp only; omega) fun o' _=>?_
  refine s_ai ?_
  rw [show ((J.take i).map JobX.tag).flatMap tagF++tagF e.tag = ((J.take (i + 1)).map JobX.tag).flatMap tagF by rw [htk]; simp]
  exact s_end (hk' (o',(i:Int) + 1) (i + 1) ⟨by simp,hil⟩ (by omega))
 ·have hil:i = J.length:=by simp only [decide_eq_false_iff_not] at hb; omega
  rw [hil,List.take_length]
  have hjt:J.map JobX.tag = S.jobs.map JobM.tag:=by rw [← ho.jobs,List.map_map]; rfl
  rw [hjt]
  refine s_ownS b ?_
  refine s_pick (Sep.stars (F.map (filO T))) ?_
  refine s_ownS a ?_
  refine s_pick (Sep.stars (J.map jobO)) ?_
  refine s_ownS c ?_
  refine s_own st ?_
  refine s_own l ?_
  refine s_own sd ?_
  refine zE7 ho ?_
  exact s_end (h o)
theorem zSN {Q:Sl→K} (hT:T ≤ 20000) (h:∀ s (Y:List RecX),Y.map recM = S.M→HG B (SlC zBQ 5 s (Y.flatMap rowF6)::Sep.stars (Y.map recB)::SchS sd n T S::Γ) (Q s)):HG B (SchS sd n T S::Γ) (zDB.call (some ⟨sd,0,none⟩) Q):=by
 refine fun w hw=>zIC _ _ _ ?_
 refine hg hw ?_
 clear hw w
 refine s_sch fun st l a b c F J ho=>?_
 have:=ho.ml
 unfold zDB
 refine s_nn ?_
 refine s_ld (b:=sd) (l:=sdL st l a b c) (x:=some ⟨st,0,none⟩) ?_
 refine s_own st ?_
 refine zTW (by omega) fun s Y hY=>?_
 refine s_ownS b ?_
 refine s_pick (Sep.stars (F.map (filO T))) ?_
 refine s_ownS a ?_
 refine s_pick (Sep.stars (J.map jobO)) ?_
 refine s_ownS c ?_
 refine s_own st ?_
 refine s_own l ?_
 refine s_own sd ?_
 refine zE7 ho ?_
 exact s_end (h s Y hY)
theorem zNx {Q:Array Value→K} (hr:∀ w,Holds B Γ w→txRd w t) (hl:t.reads.length ≤ 1000∧t.writes.length ≤ 1000∧t.ops.length ≤ 1000∧∀ x ∈ t.ops,x.1.val.length ≤ 1000000) (hk:∀ x ∈ t.reads++t.writes,x.length ≤ 1000)
  (h:∀ t' ms,TxIs t' t→HG B (SlC zBG 3 ms ((mksOf n S.M (keysT (t.reads++t.writes))).flatMap mkL)::SchS sd n T S::txC t' Γ) (Q (orV tag t' ms).toArray)) :
  HG B (SchS sd n T S::Γ) (zCP.call (some ⟨sd,0,none⟩) (tagF tag).toArray (txL t).toArray Q):=by
 refine fun w hw=>zIA _ _ _ _ _ ?_
 refine hg hw ?_
 clear hw w
 refine s_sch fun st l a b c F J ho=>?_
 unfold zCP
 refine s_new fun tag4=>?_
 refine s_new fun t5=>?_
 refine s_new fun t6=>?_
 refine s_dr ?_
 refine s_nn ?_
 refine s_ld (b:=sd) (l:=sdL st l a b c) (x:=some ⟨st,0,none⟩) ?_
 refine s_ldN (b:=tag4) (l:=tagF tag) (l':=tagF tag) ?_
 refine s_ldN (b:=t5) (l:=txL t) (l':=txL t) ?_
 refine s_own st ?_
 refine zTE (t:=t) (fun w hw=>hr w (hw.drops (Δ:=Γ))) hl hk fun t' ms ht'=>?_
 refine s_stN (b:=t6) (l':=orV tag t' ms) ?_
 refine s_ldN (b:=t6) (l:=orV tag t' ms) (l':=orV tag t' ms) ?_
 refine s_ownS b ?_
 refine s_pick (Sep.stars (F.map (filO T))) ?_
 refine s_ownS a ?_
 refine s_pick (Sep.stars (J.map jobO)) ?_
 refine s_ownS c ?_
 refine s_own st ?_
 refine s_own l ?_
 refine s_own sd ?_
 refine zE7 ho ?_
 exact s_end (h t' ms ht')
end
end Go.Proofs.YtdemfamgieonbaaGreat
namespace Go.Proofs.YtdemfamgieonbaaGreat
open Go Go.Sep Go.Sep.Bt
set_option maxRecDepth 100000
theorem zSO (L:List Int):(sortI L).Pairwise (· ≤ ·):=by
 have h:=List.pairwise_mergeSort (le:=fun x y:Int=>decide (x ≤ y)) (fun a b c h1 h2=>by simp only [decide_eq_true_eq] at *; omega) (fun a b=>by simp only [Bool.or_eq_true,decide_eq_true_eq]; omega) L
 exact h.imp fun h=>by simpa using h
theorem zIj:∀ (L:List Int),L.Pairwise (· ≤ ·)→(cmpct L).Pairwise (· < ·)
 | [],_=>List.Pairwise.nil
 | [x],_=>List.pairwise_singleton _ _
 | x::y::L,h=>by
  have h1:=List.pairwise_cons.1 h
  have ih:=zIj (y::L) h1.2
  rw [cmpct]
  split
  ·exact ih
  ·rename_i e
   refine List.pairwise_cons.2 ⟨fun z hz=>?_,ih⟩
   have hz2:z ∈ y::L:=zFt.1 hz
   have h2:=h1.1 y List.mem_cons_self
   rcases List.mem_cons.1 hz2 with rfl | hz3
   ·omega
   ·have:=(List.pairwise_cons.1 h1.2).1 z hz3
    omega
theorem zNy (L:List MkX):(homesM L).Pairwise (· < ·):=zIj _ (zSO _)
theorem zHv {L:List MkX} (h:L ≠ []) {x:Int}:x ∈ homesM L ↔ ∃ m ∈ L,m.home = x:=by
 unfold homesM
 rw [zFt,(List.mergeSort_perm _ _).mem_iff,if_neg (by simpa using h)]
 exact List.mem_map
theorem zKn:homesM [] = [0]:=by unfold homesM sortI; simp [cmpct]
theorem zQs (L:List MkX):homesM L ≠ []:=by
 by_cases h:L = []
 ·rw [h,zKn]; simp
 ·obtain ⟨m,hm⟩:=List.exists_mem_of_ne_nil _ h
  exact List.ne_nil_of_mem ((zHv h).2 ⟨m,hm,rfl⟩)
def GOk (g:TagM) (G:GM×DM):Prop:=(∀ p ∈ G.1,(∀ c ∈ p.2.1,c.1 = g)∧p.2.2 = [])∧G.2 g = false
theorem zNz {g:TagM} {k:TX} {M:GM} (h:∀ p ∈ M,(∀ c ∈ p.2.1,c.1 = g)∧p.2.2 = []):∀ p ∈ gateM k M,(∀ c ∈ p.2.1,c.1 = g)∧p.2.2 = []:=fun p hp=>by
 unfold gateM at hp
 split at hp
 ·rcases List.mem_append.1 hp with hp | hp
  ·exact h p hp
  ·rw [List.mem_singleton.1 hp]; simp
 ·exact h p hp
theorem gok_at {g:TagM} {k:TX} {M:GM} (h:∀ p ∈ M,(∀ c ∈ p.2.1,c.1 = g)∧p.2.2 = []):(∀ c ∈ (atM k M).1,c.1 = g)∧(atM k M).2 = []:=by
 unfold atM
 rcases mfind k M with ⟨h1,_⟩ | ⟨j,v,_,h0,_,h1,_⟩
 ·rw [h1]; simp
 ·rw [h1]; exact h _ (List.mem_of_getElem? h0)
theorem zPt {n:Nat} {R:Recs} {g:TagM} {x:GM×DM} {m:MarkM} (h:GOk g x) (h0:markLook n R m = 0):GOk g (enter1 n R g x m):=by
 obtain ⟨h1,h2⟩:=h
 unfold enter1
 split
 ·exact ⟨zNz h1,h2⟩
 ·try rw [if_pos h0]
  refine ⟨fun p hp=>?_,h2⟩
  rcases zJp hp with rfl | hp
  ·obtain ⟨a1,a2⟩:=gok_at (k:=m.key) h1
   refine ⟨fun c hc=>?_,a2⟩
   rcases List.mem_append.1 hc with hc | hc
   ·exact a1 c hc
   ·rw [List.mem_singleton.1 hc]
  ·exact zNz h1 p hp
theorem zHw {n:Nat} {R:Recs} {g:TagM}:∀ (L:List MarkM) {x:GM×DM},(∀ m ∈ L,markLook n R m = 0)→GOk g x→GOk g (enterM n R g L x)
 | [],x,_,h=>h
 | m::L,x,h0,h=>zHw L (fun m hm=>h0 m (List.mem_cons_of_mem _ hm)) (zPt h (h0 m List.mem_cons_self))
theorem zMR {g:TagM} {G:GM×DM} (h:GOk g G):readyM g G.1 = true:=by
 unfold readyM
 rw [List.all_eq_true]
 intro p hp
 obtain ⟨h1,h2⟩:=h.1 p hp
 unfold readyG
 rw [h2]
 cases hl:p.2.1 with
 | nil=>simp [hasT,idxI]
 | cons c L =>
  have hc:c.1 = g:=h1 c (by rw [hl]; exact List.mem_cons_self)
  simp [hasT,List.findIdx?_cons,hc,idxI]
theorem zMS {n:Nat} {j:JobM} {M:Recs} {G:GM×DM} (h:pick G j = true):workM n 1 [j] M G = (([],decR n j.tag j.tx M G,decG n j.tag j.tx M G),[⟨j.tag,decC n j.tag j.tx M G,decO n j.tag j.tx M G⟩]):=by
 simp [workM,takeJ,h]
theorem zPu {n:Nat} {j:JobM} {M:Recs} {G:GM×DM} (h:pick G j = false):workM n 1 [j] M G = (([j],M,G),[]):=by
 simp [workM,takeJ,h]
structure PW (n:Nat) (ix:Int) (g:TagM) (t:TxX) (mks:List MkX) (rest:List Int) (S:SchM):Prop where
 M:S.M = []
 G:GOk g S.G
 fl:S.fils.length = n
 fils:∀ r ∈ rest,(S.fils.getD r.toNat ⟨-1,[]⟩).last < ix
 sub:∀ r ∈ rest,r ∈ homesM mks
 jobs:S.jobs = []∧rest = homesM mks∨S.jobs = [⟨g,canX t,mks,rest⟩]
theorem zHx {n:Nat} {ix:Int} {g:TagM} {t:TxX} {mks:List MkX} {rest:List Int} {S:SchM} {r:Int} (hok:∀ r ∈ homesM mks,feedOk n r 2 ix g t mks) (hs:sngl t mks = false) (hfit:∀ m ∈ mks,markLook n [] (mM m) = 0) (hp:PW n ix g t mks rest S) (hr:r ∈ rest) :
  ((rest.filter fun h=>!decide (h = r)) ≠ []→(feedM n r 2 ix g t mks S).2 = []∧PW n ix g t mks (rest.filter fun h=>!decide (h = r)) (feedM n r 2 ix g t mks S).1∧(feedM n r 2 ix g t mks S).1.jobs.length = 1) ∧
  ((rest.filter fun h=>!decide (h = r)) = []→∃ G',GOk g G'∧(feedM n r 2 ix g t mks S).2 = [⟨g,decC n g (canX t) [] G',decO n g (canX t) [] G'⟩]∧(feedM n r 2 ix g t mks S).1.jobs = []):=by
 have hrh:=hp.sub r hr
 have hin:filIn r 2 ix g t mks S = ({ (S.fils.getD r.toNat ⟨-1,[]⟩) with last:=ix },true):=by
  unfold filIn itemIn
  rw [if_neg (by simpa using hrh),if_neg (by simp),if_pos ⟨rfl,hs,hp.fils r hr⟩]
 have hS:feedM n r 2 ix g t mks S = runJ n ⟨[],enterM n [] g ((mks.filter fun m=>decide (m.home = r)).map mM) S.G,S.fils.set r.toNat { (S.fils.getD r.toNat ⟨-1,[]⟩) with last:=ix },S.fed.set r.toNat (S.fed.getD r.toNat 0 + 1),[⟨g,canX t,mks,rest.filter fun h=>!decide (h = r)⟩]⟩:=by
  unfold feedM
  rw [if_pos (hok r hrh)]
  unfold feedG
  rw [hin,if_neg (by simp)]
  rcases hp.jobs with ⟨h1,h2⟩ | h1
  ·rw [if_neg (by rw [h1]; simp)]
   simp only [entS,fedS,hin,h1,List.nil_append,updN,if_true,marksIn,hp.M,← h2]
  ·rw [if_pos (by rw [h1]; exact ⟨_,List.mem_cons_self,rfl⟩),if_neg (by omega)]
   simp only [entS,fedS,hin,h1,updN,if_true,marksIn,hp.M]
 rw [hS]
 have hG':GOk g (enterM n [] g ((mks.filter fun m=>decide (m.home = r)).map mM) S.G):=zHw _ (fun m hm=>by
  obtain ⟨x,hx,rfl⟩:=List.mem_map.1 hm
  exact hfit x (List.mem_filter.1 hx).1) hp.G
 have hrn:=(hok r hrh).2.2.1
 refine ⟨fun hne=>?_,fun he=>?_⟩
 ·unfold runJ
  simp only [List.length_cons,List.length_nil]
  rw [show (0 + 1:Nat) = 1 from rfl,zPu (by unfold pick; simp only; rw [decide_eq_false hne]; rfl)]
  refine ⟨rfl,⟨rfl,hG',by simpa using hp.fl,fun r' hr'=>?_,fun r' hr'=>hp.sub r' (List.mem_filter.1 hr').1,.inr rfl⟩,rfl⟩
  obtain ⟨h1,h2⟩:=List.mem_filter.1 hr'
  have h3:r' ≠ r:=by simpa using h2
  have hrn':=(hok r' (hp.sub r' h1)).2.2.1
  have h4:=hp.fils r' h1
  simp only
  rw [List.getD_eq_getElem?_getD,List.getElem?_set_ne (by omega),← List.getD_eq_getElem?_getD]
  exact h4
 ·unfold runJ
  simp only [List.length_cons,List.length_nil]
  rw [he,show (0 + 1:Nat) = 1 from rfl,zMS (by unfold pick; simp only; rw [zMR hG']; simp)]
  exact ⟨_,hG',rfl,rfl⟩
theorem zQt {n:Nat} {g:TagM} {t:TxX} {mks:List MkX} {S:SchM} {r:Int} (hok:feedOk n r 1 0 g t mks) (hs:sngl t mks = true) (hH:homesM mks = [r]) (hfit:∀ m ∈ mks,markLook n [] (mM m) = 0) (hM:S.M = []) (hG:GOk g S.G) (hj:S.jobs = []) (hf:∀ f ∈ S.fils,f.seen = []) :
  ∃ G',GOk g G'∧(feedM n r 1 0 g t mks S).2 = [⟨g,decC n g (canX t) [] G',decO n g (canX t) [] G'⟩]∧(feedM n r 1 0 g t mks S).1.jobs = []:=by
 have hseen:(S.fils.getD r.toNat ⟨-1,[]⟩).seen = []:=by
  rw [List.getD_eq_getElem?_getD]
  cases he:S.fils[r.toNat]? with
  | none=>rfl
  | some f=>exact hf f (List.mem_of_getElem? he)
 have hin:(filIn r 1 0 g t mks S).2 = true:=by
  unfold filIn itemIn
  rw [if_neg (by rw [hH]; simp),if_pos ⟨rfl,hs⟩]
  simp only [hseen]; simp
 have hS:∃ F D,feedM n r 1 0 g t mks S = runJ n ⟨[],enterM n [] g (mks.map mM) S.G,F,D,[⟨g,canX t,mks,[]⟩]⟩:=by
  refine ⟨S.fils.set r.toNat (filIn r 1 0 g t mks S).1,S.fed.set r.toNat (S.fed.getD r.toNat 0 + 1),?_⟩
  unfold feedM
  rw [if_pos hok]
  unfold feedG
  rw [hin,if_neg (by simp),if_neg (by rw [hj]; simp)]
  simp only [entS,fedS,hj,List.nil_append,updN,if_true,marksIn,hM,hH]
  rw [if_neg (by omega),show [r].filter (fun h=>!decide (h = r)) = [] by simp]
 obtain ⟨F,D,hS⟩:=hS
 rw [hS]
 have hG':GOk g (enterM n [] g (mks.map mM) S.G):=zHw _ (fun m hm=>by
  obtain ⟨x,hx,rfl⟩:=List.mem_map.1 hm
  exact hfit x hx) hG
 unfold runJ
 simp only [List.length_cons,List.length_nil]
 rw [show (0 + 1:Nat) = 1 from rfl,zMS (by unfold pick; simp only; rw [zMR hG']; simp)]
 exact ⟨_,hG',rfl,rfl⟩
theorem zPF {n:Nat} {ks:List TX}:∀ m ∈ mksOf n [] ks,markLook n [] (mM m) = 0:=fun m hm=>by
 obtain ⟨k,_,rfl⟩:=List.mem_map.1 hm
 unfold markLook mM lookS
 simp
end Go.Proofs.YtdemfamgieonbaaGreat
namespace Go.Proofs.YtdemfamgieonbaaGreat
open Go Go.Sep
set_option maxRecDepth 100000
set_option maxHeartbeats 4000000
attribute [local irreducible] G Gp Cx Tx Ex Sx Dx Ox Ax Lx Rx Fx Bx Bj Al Do Ld LdN St StN New CallF Ar DoU Rd Rd2 Pu Cd Ite Fv CallV CallY Ans0 Ans1 Ans2 Ans3 Ans4 Ans5 Ext Dead Dr WithS Sv LdS LdNS RdS Rd2S Nn Idx IdxA IdxS Fld Bld Slc SlcS Cat All LoopK RangeF RangeJ TakeD
namespace F_IRLaw17
instance ar_73:ART Tryz.prog 73 72 3 1:=⟨by kernel_rfl⟩
instance ar_74:ART Tryz.prog 74 3 3 1:=⟨by kernel_rfl⟩
instance at_171:AT Tryz.prog 171 7:=⟨by kernel_rfl⟩
instance at_25:AT Tryz.prog 25 5:=⟨by kernel_rfl⟩
instance at_40:AT Tryz.prog 40 10:=⟨by kernel_rfl⟩
instance at_48:AT Tryz.prog 48 12:=⟨by kernel_rfl⟩
instance at_76:AT Tryz.prog 76 7:=⟨by kernel_rfl⟩
instance cb_10:CB Tryz.prog 10:=⟨by kernel_rfl⟩
instance cb_11:CB Tryz.prog 11:=⟨by kernel_rfl⟩
instance cb_12:CB Tryz.prog 12:=⟨by kernel_rfl⟩
instance cb_121:CB Tryz.prog 121:=⟨by kernel_rfl⟩
instance cb_13:CB Tryz.prog 13:=⟨by kernel_rfl⟩
instance cb_14:CB Tryz.prog 14:=⟨by kernel_rfl⟩
instance cb_15:CB Tryz.prog 15:=⟨by kernel_rfl⟩
instance cb_16:CB Tryz.prog 16:=⟨by kernel_rfl⟩
instance cb_28:CB Tryz.prog 28:=⟨by kernel_rfl⟩
instance cb_69:CB Tryz.prog 69:=⟨by kernel_rfl⟩
instance cb_9:CB Tryz.prog 9:=⟨by kernel_rfl⟩
instance ct_3:CT Tryz.prog 3:=⟨by kernel_rfl⟩
instance ct_30:CT Tryz.prog 30:=⟨by kernel_rfl⟩
instance ct_63:CT Tryz.prog 63:=⟨by kernel_rfl⟩
instance ct_72:CT Tryz.prog 72:=⟨by kernel_rfl⟩
instance zUd:FT Tryz.prog 171 0 0 1:=⟨by kernel_rfl⟩
instance zUe:FT Tryz.prog 171 1 1 1:=⟨by kernel_rfl⟩
instance zUf:FT Tryz.prog 171 2 2 5:=⟨by kernel_rfl⟩
instance zJJ:FT Tryz.prog 48 1 1 1:=⟨by kernel_rfl⟩
instance zOz:FT Tryz.prog 51 0 0 1:=⟨by kernel_rfl⟩
instance zUx:FT Tryz.prog 53 1 4 2:=⟨by kernel_rfl⟩
instance zUy:FT Tryz.prog 76 0 0 3:=⟨by kernel_rfl⟩
instance zUz:FT Tryz.prog 76 1 3 1:=⟨by kernel_rfl⟩
instance zU0:FT Tryz.prog 76 2 4 3:=⟨by kernel_rfl⟩
instance in_3:INT Tryz.prog 3 .i64:=⟨by kernel_rfl⟩
instance in_33:INT Tryz.prog 33 .u64:=⟨by kernel_rfl⟩
instance mx:MX Tryz.prog:=⟨mixed⟩
instance pl_25:PLT Tryz.prog 25 [(0,1),(1,1),(2,1),(3,1),(4,1)]:=⟨_,Tryz.underlying25,by kernel_rfl⟩
instance pl_35:PLT Tryz.prog 35 [(0,1),(1,1),(2,1)]:=⟨_,Tryz.underlying35,by kernel_rfl⟩
instance pl_37:PLT Tryz.prog 37 [(0,3),(3,1)]:=⟨_,Tryz.underlying37,by kernel_rfl⟩
instance pl_48:PLT Tryz.prog 48 [(0,1),(1,1),(2,10)]:=⟨_,Tryz.underlying48,by kernel_rfl⟩
instance pl_76:PLT Tryz.prog 76 [(0,3),(3,1),(4,3)]:=⟨_,Tryz.underlying76,by kernel_rfl⟩
instance sl_22:SLT Tryz.prog 22 9 1:=⟨by kernel_rfl⟩
instance sl_42:SLT Tryz.prog 42 3 1:=⟨by kernel_rfl⟩
instance sl_45:SLT Tryz.prog 45 53 6:=⟨by kernel_rfl⟩
instance sl_54:SLT Tryz.prog 54 37 4:=⟨by kernel_rfl⟩
instance sl_63:SLT Tryz.prog 63 40 10:=⟨by kernel_rfl⟩
instance sl_70:SLT Tryz.prog 70 171 7:=⟨by kernel_rfl⟩
instance sl_72:SLT Tryz.prog 72 48 12:=⟨by kernel_rfl⟩
instance sz_171:SZ Tryz.prog 171 7:=⟨by kernel_rfl⟩
instance sz_3:SZ Tryz.prog 3 1:=⟨by kernel_rfl⟩
instance sz_40:SZ Tryz.prog 40 10:=⟨by kernel_rfl⟩
instance sz_48:SZ Tryz.prog 48 12:=⟨by kernel_rfl⟩
instance sz_63:SZ Tryz.prog 63 1:=⟨by kernel_rfl⟩
instance sz_72:SZ Tryz.prog 72 1:=⟨by kernel_rfl⟩
instance sz_76:SZ Tryz.prog 76 7:=⟨by kernel_rfl⟩
instance un_29:UN Tryz.prog 29 (.pointer 135):=⟨Tryz.underlying29⟩
instance zt_171:ZT Tryz.prog 171 (.agg #[(.int .i64 0),(.int .i64 0),(.int .i64 0),(Sl.val ⟨none,0,0⟩),(Sl.val ⟨none,0,0⟩),(Sl.val ⟨none,0,0⟩),(.int .i64 0)]):=⟨Tryz.t171,by kernel_rfl,by kernel_rfl⟩
instance zt_25:ZT Tryz.prog 25 (.agg #[(.int .i64 0),(Sl.val ⟨none,0,0⟩),(Sl.val ⟨none,0,0⟩),(Sl.val ⟨none,0,0⟩),(.int .i64 0)]):=⟨Tryz.t25,by kernel_rfl,by kernel_rfl⟩
instance zt_35:ZT Tryz.prog 35 (.agg #[(.int .i64 0),(.int .u64 0),(.int .u64 0)]):=⟨Tryz.t35,by kernel_rfl,by kernel_rfl⟩
instance zt_37:ZT Tryz.prog 37 (.agg #[(.int .i64 0),(.int .u64 0),(.int .u64 0),(.int .i64 0)]):=⟨Tryz.t37,by kernel_rfl,by kernel_rfl⟩
instance zt_40:ZT Tryz.prog 40 (.agg #[(.int .i64 0),(.int .u64 0),(.int .u64 0),(.int .i64 0),(.int .i64 0),(Sl.val ⟨none,0,0⟩),(Sl.val ⟨none,0,0⟩),(Sl.val ⟨none,0,0⟩),(.int .i64 0),(Sl.val ⟨none,0,0⟩)]):=⟨Tryz.t40,by kernel_rfl,by kernel_rfl⟩
instance zt_48:ZT Tryz.prog 48 (.agg #[(.int .i64 0),(.int .i64 0),(.int .i64 0),(.int .u64 0),(.int .u64 0),(.int .i64 0),(.int .i64 0),(Sl.val ⟨none,0,0⟩),(Sl.val ⟨none,0,0⟩),(Sl.val ⟨none,0,0⟩),(.int .i64 0),(Sl.val ⟨none,0,0⟩)]):=⟨Tryz.t48,by kernel_rfl,by kernel_rfl⟩
instance zt_76:ZT Tryz.prog 76 (.agg #[(Sl.val ⟨none,0,0⟩),(Sl.val ⟨none,0,0⟩),(Sl.val ⟨none,0,0⟩),(Sl.val ⟨none,0,0⟩),(.int .i64 0),(.int .i64 0),(.int .i64 0)]):=⟨Tryz.t76,by kernel_rfl,by kernel_rfl⟩
instance zt_9:ZT Tryz.prog 9 (.string ⟨#[]⟩):=⟨Tryz.t9,by kernel_rfl,by kernel_rfl⟩
end F_IRLaw17
def zBD.s2 (Q:Bool→K)  (t0_2:Bool):K :=
 Q t0_2
def zBD.s1 (Q:Bool→K)  (s1_1:(Option Addr)) (t17_1:Bool):K :=
 Ite t17_1
  (Q false)
  (Bld #[(.int .i64 0),(.int .u64 0),(.int .u64 0),(.int .i64 0)] ([(0,3),(3,1)][·]?) [(0,(.agg #[(.int .i64 0),(.int .u64 1),(.int .u64 1)]))] fun t20 =>
  New 9 #[(.string ⟨#[97]⟩),(.string ⟨#[98]⟩)] fun t21 =>
  zCP.call s1_1 t20 #[(.int .i64 1),(Sl.val ⟨none,0,0⟩),(Sl.val (Sl.mk (some t21) 2 2)),(Sl.val ⟨none,0,0⟩),(.int .i64 0)] fun t23 =>
  New 40 #[(.int .i64 0),(.int .u64 0),(.int .u64 0),(.int .i64 0),(.int .i64 0),(Sl.val ⟨none,0,0⟩),(Sl.val ⟨none,0,0⟩),(Sl.val ⟨none,0,0⟩),(.int .i64 0),(Sl.val ⟨none,0,0⟩)] fun o3 =>
  StN o3 10 t23 <|
  LdN o3 10 fun t24 =>
  Bld #[(.int .i64 0),(.int .i64 0),(.int .i64 0),(.int .u64 0),(.int .u64 0),(.int .i64 0),(.int .i64 0),(Sl.val ⟨none,0,0⟩),(Sl.val ⟨none,0,0⟩),(Sl.val ⟨none,0,0⟩),(.int .i64 0),(Sl.val ⟨none,0,0⟩)] ([(0,1),(1,1),(2,10)][·]?) [(0,(.int .i64 2)),(2,(.agg t24))] fun t25 =>
  New 48 #[(.int .i64 0),(.int .i64 0),(.int .i64 0),(.int .u64 0),(.int .u64 0),(.int .i64 0),(.int .i64 0),(Sl.val ⟨none,0,0⟩),(Sl.val ⟨none,0,0⟩),(Sl.val ⟨none,0,0⟩),(.int .i64 0),(Sl.val ⟨none,0,0⟩)] fun p4 =>
  StN p4 12 t25 <|
  LdN p4 12 fun t27 =>
  zAF.call s1_1 0 t27 fun t28 =>
  zA0.call s1_1 fun t30 =>
  LdN p4 12 fun t32 =>
  zAF.call s1_1 1 t32 fun t33 =>
  Ite (decide ((t28.n:Int) = 0))
   (Ite (decide ((t30.n:Int) = 1))
    (Ite (decide ((t33.n:Int) = 1))
     (Idx t33 0 6 fun t49 =>
     Ld (t49.add 4) (Value.int .i64) fun t52 =>
     Ite (decide (t52 = 0))
      (zA0.call s1_1 fun t57 =>
      zBD.s2 Q (decide ((t57.n:Int) = 0)))
      (zBD.s2 Q false))
     (zBD.s2 Q false))
    (zBD.s2 Q false))
   (zBD.s2 Q false))
def zBD  (Q:Bool→K):K :=
 zBt.call 2 fun t9x0 t9x1 =>
 Ite ((t9x0).isNone)
  (zBD.s1 Q t9x0 true)
  (zBD.s1 Q t9x0 (decide (t9x1 ≠ 0)))
theorem zKo  (Q:Bool→K) (w:World) (h:zBD  Q w):zBD.call  Q w:=by
 have hJ1000009:JH 1000009 fun D=>D [] (fun C=>∀ (t0_2:Bool),C [(0,(.bool t0_2))] (zBD.s2 Q t0_2)):=by intros; exact ⟨fun _ h=>⟨_,_,h⟩⟩
 have hJ3:JH 3 fun D=>∃ (s1_1:(Option Addr)),D [(1,(.pointer s1_1))] (fun C=>∀ (t17_1:Bool),C [(1,(.pointer s1_1)),(17,(.bool t17_1))] (zBD.s1 Q s1_1 t17_1)):=by intros; exact ⟨fun _ ⟨_,h⟩=>⟨_,_,h⟩⟩
 exact g_walk 61 h Tryz.func8
def zEy.b1 (Q:Bool→K)  (X1:Int→K) (t8_1:Sl) (t9_1:Int) (t10_1:Int):K :=
 Ite (decide (t10_1 < t9_1))
  (Idx t8_1 t10_1 7 fun t12 =>
  LdN t12 7 fun t13 =>
  New 171 #[(.int .i64 0),(.int .i64 0),(.int .i64 0),(Sl.val ⟨none,0,0⟩),(Sl.val ⟨none,0,0⟩),(Sl.val ⟨none,0,0⟩),(.int .i64 0)] fun x4 =>
  StN x4 7 t13 <|
  LdN (x4.add 2) 5 fun t15 =>
  zAj.call t15 fun t16 =>
  Ite t16
   (Q true)
   (Ar (IntKind.wrap .i64 (t10_1 + 1)) fun t17 =>
   X1 t17))
  (Q false)
def zEy (script0:Sl) (Q:Bool→K):K :=
 Ite (decide ((50:Int) < (script0.n:Int)))
  (Q true)
  (LoopK (α:=Int) (fun X x=>zEy.b1 Q X script0 (script0.n:Int) x) 0)
def zB8.s2 (Q:(Array Value)→Bool→K) (X1:Int→K) (regions0_2:Int) (t4_2:Addr) (t6_2:Addr) (origin7_2:(Option Addr)) (t25_2:Sl) (t26_2:Int) (t27_2:Int):K :=
 Ar (IntKind.wrap .i64 (t27_2 + 1)) fun t104 =>
 X1 t104
def zB8.b4 (Q:(Array Value)→Bool→K) (X1:Int→K) (X3:Int→K) (X4:K) (regions0_4:Int) (t4_4:Addr) (t6_4:Addr) (r14_4:Int) :K :=
 zBu.call (some t6_4) r14_4 fun t111 =>
 Ite t111
  (X4)
  (Ar (IntKind.wrap .i64 (r14_4 + 1)) fun t109 =>
  X3 t109)
def zB8.b3 (Q:(Array Value)→Bool→K) (X1:Int→K) (X3:Int→K) (regions0_3:Int) (t4_3:Addr) (t6_3:Addr) (r14_3:Int):K :=
 Ite (decide (r14_3 < regions0_3))
  (LoopK (α:=Unit) (fun X x=>zB8.b4 Q X1 X3 (X ()) regions0_3 t4_3 t6_3 r14_3) ())
  (LdN t6_3 7 fun t112 =>
  StN t4_3 7 t112 <|
  LdN t4_3 7 fun r0 =>
  Q r0 true)
def zB8.b1 (Q:(Array Value)→Bool→K)  (X1:Int→K) (regions0_1:Int) (t4_1:Addr) (t6_1:Addr) (origin7_1:(Option Addr)) (t25_1:Sl) (t26_1:Int) (t27_1:Int):K :=
 Ite (decide (t27_1 < t26_1))
  (Idx t25_1 t27_1 7 fun t30 =>
  LdN t30 7 fun t31 =>
  New 171 #[(.int .i64 0),(.int .i64 0),(.int .i64 0),(Sl.val ⟨none,0,0⟩),(Sl.val ⟨none,0,0⟩),(Sl.val ⟨none,0,0⟩),(.int .i64 0)] fun x10 =>
  StN x10 7 t31 <|
  Ld (x10.add 1) (Value.int .i64) fun t33 =>
  Ar (bitsOf .and .i64 t33 1023) fun t34 =>
  Cd (regions0_1 ≠ 0) <|
  Ar (Int.tmod t34 regions0_1) fun t36 =>
  Ld x10 (Value.int .i64) fun t38 =>
  Ar (bitsOf .and .i64 t38 3) fun t39 =>
  Ite (decide (t39 = 0))
   (LdN (x10.add 2) 5 fun t64 =>
   zAJ.call t64 regions0_1 fun t66 =>
   Ite (!t66)
    (zB8.s2 Q X1 regions0_1 t4_1 t6_1 origin7_1 t25_1 t26_1 t27_1)
    (Ar (IntKind.wrap .i64 (t27_1 + 1)) fun t70 =>
    Ar (IntKind.wrap .u64 t70) fun t71 =>
    Bld #[(.int .i64 0),(.int .u64 0),(.int .u64 0),(.int .i64 0)] ([(0,3),(3,1)][·]?) [(0,(.agg #[(.int .i64 0),(.int .u64 1),(.int .u64 t71)]))] fun t73 =>
    LdN (x10.add 2) 5 fun t75 =>
    zCP.call origin7_1 t73 t75 fun t76 =>
    New 40 #[(.int .i64 0),(.int .u64 0),(.int .u64 0),(.int .i64 0),(.int .i64 0),(Sl.val ⟨none,0,0⟩),(Sl.val ⟨none,0,0⟩),(Sl.val ⟨none,0,0⟩),(.int .i64 0),(Sl.val ⟨none,0,0⟩)] fun o12 =>
    StN o12 10 t76 <|
    LdN o12 10 fun t77 =>
    zBq.call t77 fun t78 =>
    Ite t78
     (LdN o12 10 fun t79 =>
     zA7.call t79 fun t80 =>
     Idx t80 0 1 fun t81 =>
     Ld t81 (Value.int .i64) fun t82 =>
     Dr <| WithS fun S =>
     IdxA t6_1 3 t82 1 fun t86 =>
     LdS S t86 Sl.val fun t87 =>
     LdNS S o12 10 fun t88 =>
     Bld #[(.int .i64 0),(.int .i64 0),(.int .i64 0),(.int .u64 0),(.int .u64 0),(.int .i64 0),(.int .i64 0),(Sl.val ⟨none,0,0⟩),(Sl.val ⟨none,0,0⟩),(Sl.val ⟨none,0,0⟩),(.int .i64 0),(Sl.val ⟨none,0,0⟩)] ([(0,1),(1,1),(2,10)][·]?) [(0,(.int .i64 1)),(2,(.agg t88))] fun t89 =>
     Bld #[(.int .i64 0),(.int .i64 0),(.int .i64 0),(.int .u64 0),(.int .u64 0),(.int .i64 0),(.int .i64 0),(Sl.val ⟨none,0,0⟩),(Sl.val ⟨none,0,0⟩),(Sl.val ⟨none,0,0⟩),(.int .i64 0),(Sl.val ⟨none,0,0⟩)] (fun i=>some (i * 12,12)) [(0,(.agg t89))] fun ct90 =>
     New 48 ct90 fun t90 =>
     Sv S <|
     Do Tryz.prog (Builtin.append_ #[72,72] 72 #[(Sl.val t87),(Sl.val (Sl.mk (some t90) 1 1))]) Sl.val fun t91 =>
     IdxA t6_1 3 t82 1 fun t93 =>
     St t93 (Sl.val t91) <|
     zB8.s2 Q X1 regions0_1 t4_1 t6_1 origin7_1 t25_1 t26_1 t27_1)
     (Ld (t6_1.add 3) Sl.val fun t95 =>
     LdN o12 10 fun t96 =>
     Bld #[(.int .i64 0),(.int .u64 0),(.int .u64 0),(.int .i64 0),(.int .i64 0),(Sl.val ⟨none,0,0⟩),(Sl.val ⟨none,0,0⟩),(Sl.val ⟨none,0,0⟩),(.int .i64 0),(Sl.val ⟨none,0,0⟩)] (fun i=>some (i * 10,10)) [(0,(.agg t96))] fun ct97 =>
     New 40 ct97 fun t97 =>
     Do Tryz.prog (Builtin.append_ #[63,63] 63 #[(Sl.val t95),(Sl.val (Sl.mk (some t97) 1 1))]) Sl.val fun t98 =>
     St (t6_1.add 3) (Sl.val t98) <|
     zB8.s2 Q X1 regions0_1 t4_1 t6_1 origin7_1 t25_1 t26_1 t27_1)))
   (Ite (decide (t39 = 1))
    (zBu.call (some t6_1) t36 fun t103 =>
    zB8.s2 Q X1 regions0_1 t4_1 t6_1 origin7_1 t25_1 t26_1 t27_1)
    (Dr <| WithS fun S =>
    IdxA t6_1 3 t36 1 fun t45 =>
    LdS S t45 Sl.val fun t46 =>
    zFG.call origin7_1 t36 fun t42 =>
    Sv S <|
    Ite (decide (t42 < (t46.n:Int)))
     (Dr <| WithS fun S =>
     IdxA t6_1 3 t36 1 fun t53 =>
     LdS S t53 Sl.val fun t54 =>
     zFG.call origin7_1 t36 fun t57 =>
     Sv S <|
     Idx t54 t57 12 fun t58 =>
     LdN t58 12 fun t59 =>
     zAF.call origin7_1 t36 t59 fun t60 =>
     zB8.s2 Q X1 regions0_1 t4_1 t6_1 origin7_1 t25_1 t26_1 t27_1)
     (zB8.s2 Q X1 regions0_1 t4_1 t6_1 origin7_1 t25_1 t26_1 t27_1))))
  (LoopK (α:=Int) (fun X x=>zB8.b3 Q X1 X regions0_1 t4_1 t6_1 x) 0)
def zB8 (regions0:Int) (script1:Sl) (Q:(Array Value)→Bool→K):K :=
 New 76 #[(Sl.val ⟨none,0,0⟩),(Sl.val ⟨none,0,0⟩),(Sl.val ⟨none,0,0⟩),(Sl.val ⟨none,0,0⟩),(.int .i64 0),(.int .i64 0),(.int .i64 0)] fun t4 =>
 Pu Tryz.prog (Instr.build 74 [(0,(.int .i64 (-1))),(1,(.int .i64 (-1))),(2,(.int .i64 (-1)))].toArray) Value.agg fun t15 =>
 Bld #[(Sl.val ⟨none,0,0⟩),(Sl.val ⟨none,0,0⟩),(Sl.val ⟨none,0,0⟩),(Sl.val ⟨none,0,0⟩),(.int .i64 0),(.int .i64 0),(.int .i64 0)] ([(0,3),(3,1),(4,3)][·]?) [(2,(.agg t15))] fun t16 =>
 New 76 #[(Sl.val ⟨none,0,0⟩),(Sl.val ⟨none,0,0⟩),(Sl.val ⟨none,0,0⟩),(Sl.val ⟨none,0,0⟩),(.int .i64 0),(.int .i64 0),(.int .i64 0)] fun t6 =>
 StN t6 7 t16 <|
 zBt.call regions0 fun t19x0 t19x1 =>
 Ite ((t19x0).isNone)
  (LdN t6 7 fun t24 =>
  StN t4 7 t24 <|
  LdN t4 7 fun r0 =>
  Q r0 false)
  (LoopK (α:=Int) (fun X x=>zB8.b1 Q X regions0 t4 t6 t19x0 script1 (script1.n:Int) x) 0)
def zBu.s2 (Q:Bool→K)  (ok6_2:Bool):K :=
 Q ok6_2
def zBu.s1 (Q:Bool→K)  (t0_1:(Option Addr)) (region1_1:Int) (p5_1:Addr) (ok6_1:Bool):K :=
 Ite ok6_1
  (Dr <|
  Nn t0_1 fun t27 =>
  Ld (p5_1.add 1) (Value.int .i64) fun t26 =>
  IdxA (t27.add 4) 3 region1_1 1 fun t29 =>
  St t29 (.int .i64 t26) <|
  Dr <| WithS fun S =>
  IdxA t27 3 region1_1 1 fun t36 =>
  LdS S t36 Sl.val fun t37 =>
  LdNS S p5_1 12 fun t38 =>
  Bld #[(.int .i64 0),(.int .i64 0),(.int .i64 0),(.int .u64 0),(.int .u64 0),(.int .i64 0),(.int .i64 0),(Sl.val ⟨none,0,0⟩),(Sl.val ⟨none,0,0⟩),(Sl.val ⟨none,0,0⟩),(.int .i64 0),(Sl.val ⟨none,0,0⟩)] (fun i=>some (i * 12,12)) [(0,(.agg t38))] fun ct39 =>
  New 48 ct39 fun t39 =>
  Sv S <|
  Do Tryz.prog (Builtin.append_ #[72,72] 72 #[(Sl.val t37),(Sl.val (Sl.mk (some t39) 1 1))]) Sl.val fun t40 =>
  IdxA t27 3 region1_1 1 fun t43 =>
  St t43 (Sl.val t40) <|
  zBu.s2 Q ok6_1)
  (zBu.s2 Q ok6_1)
def zBu (t0:(Option Addr)) (region1:Int) (Q:Bool→K):K :=
 Dr <| WithS fun S =>
 Nn t0 fun t9 =>
 IdxA (t9.add 4) 3 region1 1 fun t17 =>
 LdS S (t9.add 3) Sl.val fun t11 =>
 LdS S t17 (Value.int .i64) fun t18 =>
 All [
  (zHa.call t11 region1 t18 fun t19x0 t19x1 =>
  New 48 #[(.int .i64 0),(.int .i64 0),(.int .i64 0),(.int .u64 0),(.int .u64 0),(.int .i64 0),(.int .i64 0),(Sl.val ⟨none,0,0⟩),(Sl.val ⟨none,0,0⟩),(Sl.val ⟨none,0,0⟩),(.int .i64 0),(Sl.val ⟨none,0,0⟩)] fun p5 =>
  StN p5 12 t19x0 <|
  zBu.s1 Q (some t9) region1 p5 t19x1),
  (New 48 #[(.int .i64 0),(.int .i64 0),(.int .i64 0),(.int .u64 0),(.int .u64 0),(.int .i64 0),(.int .i64 0),(Sl.val ⟨none,0,0⟩),(Sl.val ⟨none,0,0⟩),(Sl.val ⟨none,0,0⟩),(.int .i64 0),(Sl.val ⟨none,0,0⟩)] fun p5 =>
  Sv S <|
  zHa.call t11 region1 t18 fun t19x0 t19x1 =>
  StN p5 12 t19x0 <|
  zBu.s1 Q (some t9) region1 p5 t19x1)
  ]
end Go.Proofs.YtdemfamgieonbaaGreat
namespace Go.Proofs.YtdemfamgieonbaaGreat
open Go Go.Sep Go.Sep.Bt
set_option maxRecDepth 100000
theorem zQu {k:List UInt8} {n:Nat} (h:0 < n):homeOf k n < n:=by
 have:∀ (l:List UInt8) (s:Nat),s < n→l.foldl (fun s b=>(s + b.toNat) % n) s < n:=fun l=>by
  induction l with
  | nil=>exact fun s hs=>hs
  | cons b l ih=>exact fun s _=>ih _ (Nat.mod_lt _ h)
 exact this k 0 h
theorem zHy {n:Int} {g:TagM} {a b:TxX} {mks:List MkX} (h:SameP a b) (ho:OrdOk n g b mks):OrdOk n g a mks:=by
 obtain ⟨h1,h2,h3⟩:=ho
 refine ⟨by rw [zKf h]; exact h1,h2,?_⟩
 obtain ⟨g1,g2,g3,g4,g5⟩:=h
 rw [g3,g4]; exact h3
theorem decl_n {B:World} {Γ:List HProp} {s:Sl} {D:List DcX} {k:K} (h:s.n = D.length→HG B (SlC zBV 6 s (D.flatMap dcF)::Γ) k):HG B (SlC zBV 6 s (D.flatMap dcF)::Γ) k:=by
 refine s_cap s fun a1 a2 a3 a4=>?_
 rw [zAT _ 6 zJK] at a1
 exact h (by omega)
theorem tags_n {B:World} {Γ:List HProp} {s:Sl} {D:List TagM} {k:K} (h:s.n = D.length→HG B (SlC zBP 4 s (D.flatMap tagF)::Γ) k):HG B (SlC zBP 4 s (D.flatMap tagF)::Γ) k:=by
 refine s_cap s fun a1 a2 a3 a4=>?_
 rw [zAT _ 4 zNU] at a1
 exact h (by omega)
theorem zPG {n:Nat} {ix:Int} {g:TagM} {t:TxX} {mks:List MkX} (hix:0 ≤ ix):PW n ix g t mks (homesM mks) (newM n):=by
 refine ⟨rfl,⟨by simp [newM],rfl⟩,by simp [newM],fun r _=>?_,fun _ h=>h,.inl ⟨rfl,rfl⟩⟩
 simp only [newM]
 rw [List.getD_eq_getElem?_getD]
 cases he:(List.replicate n (⟨-1,[]⟩:FilM))[r.toNat]? with
 | none=>simp; omega
 | some f =>
  have:=List.eq_of_mem_replicate (List.mem_of_getElem? he)
  rw [this]; simp; omega
theorem zPH {n:Nat} {g:TagM} {t:TxX} (hg:tagOk g) (h1:1 ≤ n) (h3:n ≤ 3) (hrt:rightT n t = true) (hrt3:rightT 3 t = true):OrdOk (n:Int) g t (mksOf n [] (keysT (t.reads++t.writes)))∧OrdOk 3 g t (mksOf n [] (keysT (t.reads++t.writes))):=by
 have hm:∀ m ∈ mksOf n [] (keysT (t.reads++t.writes)),0 ≤ m.home∧m.home < n:=fun m hm=>by
  obtain ⟨k,_,rfl⟩:=List.mem_map.1 hm
  have:((sGet n [] (bs k)).home:Int) = (homeOf (bs k).toList n:Nat):=rfl
  simp only [this]
  have:=zQu (k:=(bs k).toList) (n:=n) (by omega)
  omega
 have hk:(mksOf n [] (keysT (t.reads++t.writes))).map MkX.key = keysT (t.reads++t.writes):=by simp [mksOf,Function.comp_def]
 exact ⟨⟨hrt,hg,hk,hm⟩,⟨hrt3,hg,hk,fun m h=>by have:=hm m h; omega⟩⟩
section
variable {B:World} {Γ Δ:List HProp}
theorem speaks17 {q:Bool→K} (h:HG B Γ (q true)):HG B Γ (zBD.call q):=by
 refine fun w hw=>zKo _ _ ?_
 refine hg hw ?_
 clear hw w
 unfold zBD
 refine zMQ (n:=2) (by omega) (by omega) fun sd=>?_
 refine s_f ?_ (by rfl)
 unfold zBD.s1
 refine s_f ?_ (by rfl)
 refine s_bldF (cs:=tagF ⟨0,1,1,0⟩) ?_
 refine s_new fun t21=>?_
 have hk:keysT (([]:List TX)++[[97],[98]]) = [[97],[98]]:=by
  refine zNj (zOH _) ?_ fun x=>?_
  ·refine List.pairwise_cons.2 ⟨fun y hy=>?_,List.pairwise_singleton _ _⟩
   rw [List.mem_singleton.1 hy]
   decide
  ·rw [zIf]; rfl
 generalize hw:(⟨some ⟨t21,0,none⟩,2,2⟩:Sl) = ws
 have hrt:∀ n:Int,1 ≤ n→n ≤ 3→rightT n ⟨1,[],[[97],[98]],[],0,⟨none,0,0⟩,ws,⟨none,0,0⟩⟩ = true:=fun n h1 h3=>by
  unfold rightT
  rw [if_neg (by simp [headBad]; refine ⟨h1,h3,?_⟩; decide),if_neg (by simp [keysBad]),if_neg (by simp),if_neg (by simp)]
  rfl
 refine s_own sd ?_
 refine zNx (tag:=⟨0,1,1,0⟩) (t:=⟨1,[],[[97],[98]],[],0,⟨none,0,0⟩,ws,⟨none,0,0⟩⟩) (fun w hw=>⟨RdC.none',?_,RdC.none',by simp⟩) (by simp) (by simp) fun t' ms ht'=>?_
 ·subst ws
  exact RdC.of_blk (E:=zB1) (b:=t21) (vs:=[strV [97],strV [98]]) (cs:=#[strV [97],strV [98]]) hw List.mem_cons_self rfl rfl 2
 simp only at hrt ⊢
 have hmk:mksOf 2 [] [[97],[98]] = [⟨[97],1,0⟩,⟨[98],0,0⟩]:=by
  simp only [mksOf,List.map_cons,List.map_nil,mkOf,sGet,getM,Option.getD_none,List.cons.injEq,MkX.mk.injEq,and_true,true_and]
  refine ⟨⟨by rw [zBp]; rfl,rfl⟩,by rw [zBp]; rfl,rfl⟩
 have hokT:=zPH (n:=2) (g:=⟨0,1,1,0⟩) (t:=⟨1,[],[[97],[98]],[],0,⟨none,0,0⟩,ws,⟨none,0,0⟩⟩) (by decide) (by omega) (by omega) (hrt 2 (by omega) (by omega)) (hrt 3 (by omega) (by omega))
 have hfit:=zPF (n:=2) (ks:=keysT (([]:List TX)++[[97],[98]]))
 simp only at hokT
 rw [hk,hmk] at hokT hfit
 rw [hk]
 show HG B (SlC zBG 3 ms ((mksOf 2 [] [[97],[98]]).flatMap mkL)::_) _
 rw [hmk]
 generalize hmks:([⟨[97],1,0⟩,⟨[98],0,0⟩]:List MkX) = mks at *
 have ho2:=zHy ht' hokT.1
 have ho3:=zHy ht' hokT.2
 have hmem:∀ x,x ∈ homesM mks ↔ x = 0∨x = 1:=fun x=>by
  rw [zHv (by rw [← hmks]; simp),← hmks]
  simp [or_comm,eq_comm]
 have hs:sngl t' mks = false:=by
  have:(homesM mks).length ≠ 1:=fun h1=>by
   obtain ⟨a,ha⟩:=List.length_eq_one_iff.1 h1
   have h2:=(hmem 0).2 (.inl rfl)
   have h3:=(hmem 1).2 (.inr rfl)
   rw [ha] at h2 h3
   have h4:=List.mem_singleton.1 h2
   have h5:=List.mem_singleton.1 h3
   omega
  simp [sngl,this]
 have hfo:∀ r ∈ homesM mks,feedOk 2 r 2 0 ⟨0,1,1,0⟩ t' mks:=fun r hr=>⟨.inr ⟨rfl,by omega,by omega⟩,ho3,by rcases (hmem r).1 hr with rfl | rfl <;> omega,ho2⟩
 have hops:t'.ops = []:=by have:=ht'.2.2.2.2; simpa using this
 have hml:mks.length = 2:=by rw [← hmks]; rfl
 have hmc:∀ m ∈ mks,0 ≤ m.cnt∧m.cnt < 18446744073709551616:=fun m hm=>by
  rw [← hmks] at hm
  simp only [List.mem_cons,List.not_mem_nil,or_false] at hm
  rcases hm with rfl | rfl <;> simp
 have hl:t'.reads.length ≤ 1000∧t'.writes.length ≤ 1000∧t'.ops.length ≤ 1000:=by
  rw [ht'.2.2.1,ht'.2.2.2.1,hops]; simp
 have p0:=zPG (n:=2) (ix:=0) (g:=⟨0,1,1,0⟩) (t:=t') (mks:=mks) (by omega)
 obtain ⟨q1,_⟩:=zHx (r:=0) hfo hs hfit p0 ((hmem 0).2 (.inl rfl))
 have hm1:(1:Int) ∈ (homesM mks).filter fun h=>!decide (h = 0):=List.mem_filter.2 ⟨(hmem 1).2 (.inr rfl),by simp⟩
 obtain ⟨d1,p1,j1⟩:=q1 (List.ne_nil_of_mem hm1)
 obtain ⟨_,q2⟩:=zHx (r:=1) hfo hs hfit p1 hm1
 obtain ⟨G',hG',d2,j2⟩:=q2 (by
  rw [List.filter_eq_nil_iff]
  intro x hx
  obtain ⟨h1,h2⟩:=List.mem_filter.1 hx
  rcases (hmem x).1 h1 with rfl | rfl
  ·simp at h2
  ·simp)
 refine s_new fun o3=>?_
 refine s_stN (b:=o3) (l':=orV ⟨0,1,1,0⟩ t' ms) ?_
 refine s_ldN (b:=o3) (l:=orV ⟨0,1,1,0⟩ t' ms) (l':=orV ⟨0,1,1,0⟩ t' ms) ?_
 refine s_nx ?_
 refine s_new fun p4=>?_
 refine s_stN (b:=p4) (l':=itV 2 0 ⟨0,1,1,0⟩ t' ms) ?_
 refine s_ldN (b:=p4) (l:=itV 2 0 ⟨0,1,1,0⟩ t' ms) (l':=itV 2 0 ⟨0,1,1,0⟩ t' ms) ?_
 refine s_own sd ?_
 refine zJL (mks:=mks) (by omega) (fun w hw=>txC_rd (Γ:=[]) hw.drops) (fun w hw=>(own_rd (s:=ms) hw).1) (by rw [hops]; simp) (by simp) (by simp) hmc hl (by omega) fun s1 D1 hD1 _=>?_
 refine decl_n fun n1=>?_
 have hD1':D1.length = 0:=by have:=congrArg List.length hD1; rw [List.length_map,d1] at this; simpa using this
 refine s_own sd ?_
 refine zFQ (by omega) fun s2=>?_
 refine tags_n fun n2=>?_
 rw [List.length_map,j1] at n2
 refine s_ldN (b:=p4) (l:=itV 2 0 ⟨0,1,1,0⟩ t' ms) (l':=itV 2 0 ⟨0,1,1,0⟩ t' ms) ?_
 refine s_own sd ?_
 refine zJL (mks:=mks) (by omega) (fun w hw=>txC_rd (Γ:=[]) hw.drops) (fun w hw=>(own_rd (s:=ms) hw).1) (by rw [hops]; simp) (by simp) (by simp) hmc hl (by omega) fun s3 D3 hD3 _=>?_
 refine decl_n fun n3=>?_
 rw [d2] at hD3
 obtain ⟨d,rfl,hd⟩:=List.map_eq_singleton_iff.1 hD3
 refine s_t ?_ (by simp; omega)
 refine s_t ?_ (by simp; omega)
 refine s_t ?_ (by simp at n3 ⊢; omega)
 have hcode:d.code = 0:=by
  have h1:=congrArg DcM.code hd
  simp only [eraD,decC] at h1
  rw [h1,if_neg (by rw [hG'.2]; simp)]
  have hk1:(canX t').kind = 1:=ht'.1
  have hop:(canX t').ops = []:=by simp [canX,hops]
  unfold runW
  rw [hk1,hop,if_neg (by omega)]
  rfl
 refine zLV dcF (off:=4) (L:=[d]) (j:=0) (c:=Value.int .i64) (x:=d) (v:=d.code) zJK (fun w hw=>(own_rd (s:=s3) hw).1) rfl rfl ?_
 rw [hcode]
 refine s_t ?_ (by rfl)
 refine s_own sd ?_
 refine zFQ (by omega) fun s4=>?_
 refine tags_n fun n4=>?_
 rw [List.length_map,j2] at n4
 unfold zBD.s2
 rw [show decide ((s4.n:Int) = 0) = true by rw [n4]; rfl]
 exact s_end h
end
end Go.Proofs.YtdemfamgieonbaaGreat
namespace Go.Proofs.YtdemfamgieonbaaGreat
open Go Go.Sep
set_option maxRecDepth 100000
set_option maxHeartbeats 4000000
attribute [local irreducible] G Gp Cx Tx Ex Sx Dx Ox Ax Lx Rx Fx Bx Bj Al Do Ld LdN St StN New CallF Ar DoU Rd Rd2 Pu Cd Ite Fv CallV CallY Ans0 Ans1 Ans2 Ans3 Ans4 Ans5 Ext Dead Dr WithS Sv LdS LdNS RdS Rd2S Nn Idx IdxA IdxS Fld Bld Slc SlcS Cat All LoopK RangeF RangeJ TakeD
namespace F_IRLaw17SchedWhole
instance at_25:AT Tryz.prog 25 5:=⟨by kernel_rfl⟩
instance at_37:AT Tryz.prog 37 4:=⟨by kernel_rfl⟩
instance at_40:AT Tryz.prog 40 10:=⟨by kernel_rfl⟩
instance cb_10:CB Tryz.prog 10:=⟨by kernel_rfl⟩
instance cb_11:CB Tryz.prog 11:=⟨by kernel_rfl⟩
instance cb_12:CB Tryz.prog 12:=⟨by kernel_rfl⟩
instance cb_13:CB Tryz.prog 13:=⟨by kernel_rfl⟩
instance cb_14:CB Tryz.prog 14:=⟨by kernel_rfl⟩
instance cb_15:CB Tryz.prog 15:=⟨by kernel_rfl⟩
instance cb_16:CB Tryz.prog 16:=⟨by kernel_rfl⟩
instance cb_17:CB Tryz.prog 17:=⟨by kernel_rfl⟩
instance cb_8:CB Tryz.prog 8:=⟨by kernel_rfl⟩
instance cb_9:CB Tryz.prog 9:=⟨by kernel_rfl⟩
instance ct_3:CT Tryz.prog 3:=⟨by kernel_rfl⟩
instance zFb:FT Tryz.prog 25 0 0 1:=⟨by kernel_rfl⟩
instance zJI:FT Tryz.prog 40 0 0 4:=⟨by kernel_rfl⟩
instance zU1:FT Tryz.prog 53 0 0 4:=⟨by kernel_rfl⟩
instance mx:MX Tryz.prog:=⟨mixed⟩
instance pl_35:PLT Tryz.prog 35 [(0,1),(1,1),(2,1)]:=⟨_,Tryz.underlying35,by kernel_rfl⟩
instance pl_37:PLT Tryz.prog 37 [(0,3),(3,1)]:=⟨_,Tryz.underlying37,by kernel_rfl⟩
instance pl_48:PLT Tryz.prog 48 [(0,1),(1,1),(2,10)]:=⟨_,Tryz.underlying48,by kernel_rfl⟩
instance sl_42:SLT Tryz.prog 42 3 1:=⟨by kernel_rfl⟩
instance sl_45:SLT Tryz.prog 45 53 6:=⟨by kernel_rfl⟩
instance sl_54:SLT Tryz.prog 54 37 4:=⟨by kernel_rfl⟩
instance sl_56:SLT Tryz.prog 56 173 5:=⟨by kernel_rfl⟩
instance sz_40:SZ Tryz.prog 40 10:=⟨by kernel_rfl⟩
instance un_29:UN Tryz.prog 29 (.pointer 135):=⟨Tryz.underlying29⟩
instance un_4:UN Tryz.prog 4 .bool:=⟨Tryz.underlying4⟩
instance zt_35:ZT Tryz.prog 35 (.agg #[(.int .i64 0),(.int .u64 0),(.int .u64 0)]):=⟨Tryz.t35,by kernel_rfl,by kernel_rfl⟩
instance zt_37:ZT Tryz.prog 37 (.agg #[(.int .i64 0),(.int .u64 0),(.int .u64 0),(.int .i64 0)]):=⟨Tryz.t37,by kernel_rfl,by kernel_rfl⟩
instance zt_40:ZT Tryz.prog 40 (.agg #[(.int .i64 0),(.int .u64 0),(.int .u64 0),(.int .i64 0),(.int .i64 0),(Sl.val ⟨none,0,0⟩),(Sl.val ⟨none,0,0⟩),(Sl.val ⟨none,0,0⟩),(.int .i64 0),(Sl.val ⟨none,0,0⟩)]):=⟨Tryz.t40,by kernel_rfl,by kernel_rfl⟩
instance zt_48:ZT Tryz.prog 48 (.agg #[(.int .i64 0),(.int .i64 0),(.int .i64 0),(.int .u64 0),(.int .u64 0),(.int .i64 0),(.int .i64 0),(Sl.val ⟨none,0,0⟩),(Sl.val ⟨none,0,0⟩),(Sl.val ⟨none,0,0⟩),(.int .i64 0),(Sl.val ⟨none,0,0⟩)]):=⟨Tryz.t48,by kernel_rfl,by kernel_rfl⟩
end F_IRLaw17SchedWhole
def zAQ.s2 (Q:Bool→K)  (t4_2:Bool):K :=
 Q t4_2
def zAQ.s4 (Q:Bool→K) (X3:Int→K) (first1_4:Int) (s5_4:(Option Addr)) (o7_4:Addr) (h8_4:Sl) (t69_4:Int) (t70_4:Int) (t113_4:Bool):K :=
 Ite t113_4
  (Q false)
  (Ar (IntKind.wrap .i64 (t70_4 + 1)) fun t114 =>
  X3 t114)
def zAQ.b3 (Q:Bool→K)  (X3:Int→K) (first1_3:Int) (s5_3:(Option Addr)) (o7_3:Addr) (h8_3:Sl) (t69_3:Int) (t70_3:Int):K :=
 Ite (decide (t70_3 < t69_3))
  (Ar (bitsOf .and .i64 first1_3 1023) fun t76 =>
  Ar (IntKind.wrap .i64 (t70_3 + t76)) fun t77 =>
  Cd ((h8_3.n:Int) ≠ 0) <|
  Ar (Int.tmod t77 (h8_3.n:Int)) fun t80 =>
  Idx h8_3 t80 1 fun t81 =>
  Ld t81 (Value.int .i64) fun t82 =>
  LdN o7_3 10 fun t85 =>
  Bld #[(.int .i64 0),(.int .i64 0),(.int .i64 0),(.int .u64 0),(.int .u64 0),(.int .i64 0),(.int .i64 0),(Sl.val ⟨none,0,0⟩),(Sl.val ⟨none,0,0⟩),(Sl.val ⟨none,0,0⟩),(.int .i64 0),(Sl.val ⟨none,0,0⟩)] ([(0,1),(1,1),(2,10)][·]?) [(0,(.int .i64 2)),(1,(.int .i64 5)),(2,(.agg t85))] fun t86 =>
  zAF.call s5_3 t82 t86 fun t87 =>
  Ar (IntKind.wrap .i64 ((h8_3.n:Int) - 1)) fun t91 =>
  Ite (!((decide ((t87.n:Int) = 1)) == (decide (t70_3 = t91))))
   (zAQ.s4 Q X3 first1_3 s5_3 o7_3 h8_3 t69_3 t70_3 true)
   (Ite (!(decide (t70_3 = t91)))
    (zDB.call s5_3 fun t103 =>
    Ite (decide ((t103.n:Int) ≠ 0))
     (zAQ.s4 Q X3 first1_3 s5_3 o7_3 h8_3 t69_3 t70_3 true)
     (zA0.call s5_3 fun t108 =>
     zAQ.s4 Q X3 first1_3 s5_3 o7_3 h8_3 t69_3 t70_3 (decide ((t108.n:Int) ≠ 1))))
    (zAQ.s4 Q X3 first1_3 s5_3 o7_3 h8_3 t69_3 t70_3 false)))
  (zA0.call s5_3 fun t116 =>
  Q (decide ((t116.n:Int) = 0)))
def zAQ.s1 (Q:Bool→K)  (first1_1:Int) (t2_1:Addr) (t27_1:Bool):K :=
 Ite t27_1
  (Q true)
  (zBt.call 3 fun t29x0 t29x1 =>
  Ite ((t29x0).isNone)
   (Q false)
   (Bld #[(.int .i64 0),(.int .u64 0),(.int .u64 0),(.int .i64 0)] ([(0,3),(3,1)][·]?) [(0,(.agg #[(.int .i64 0),(.int .u64 1),(.int .u64 1)]))] fun t36 =>
   LdN t2_1 5 fun t37 =>
   zCP.call t29x0 t36 t37 fun t38 =>
   New 40 #[(.int .i64 0),(.int .u64 0),(.int .u64 0),(.int .i64 0),(.int .i64 0),(Sl.val ⟨none,0,0⟩),(Sl.val ⟨none,0,0⟩),(Sl.val ⟨none,0,0⟩),(.int .i64 0),(Sl.val ⟨none,0,0⟩)] fun o7 =>
   StN o7 10 t38 <|
   LdN o7 10 fun t39 =>
   zA7.call t39 fun t40 =>
   LdN o7 10 fun t41 =>
   zBq.call t41 fun t42 =>
   Ite t42
    (Dr <|
    Idx t40 0 1 fun t45 =>
    Ld t45 (Value.int .i64) fun t46 =>
    LdN o7 10 fun t47 =>
    Bld #[(.int .i64 0),(.int .i64 0),(.int .i64 0),(.int .u64 0),(.int .u64 0),(.int .i64 0),(.int .i64 0),(Sl.val ⟨none,0,0⟩),(Sl.val ⟨none,0,0⟩),(Sl.val ⟨none,0,0⟩),(.int .i64 0),(Sl.val ⟨none,0,0⟩)] ([(0,1),(1,1),(2,10)][·]?) [(0,(.int .i64 1)),(2,(.agg t47))] fun t48 =>
    zAF.call t29x0 t46 t48 fun t49 =>
    Dr <|
    Ite (decide ((t49.n:Int) = 1))
     (Idx t49 0 6 fun t55 =>
     LdN t55 4 fun t57 =>
     LdN o7 4 fun t59 =>
     Pu Tryz.prog (do eqGuard .eql 37 (.tmp 57) (.tmp 59) (.agg t57) (.agg t59); binOp .eql 37 (.agg t57) (.agg t59):Sem Value) Value.bool fun t60 =>
     Ite t60
      (zA0.call t29x0 fun t64 =>
      zAQ.s2 Q (decide ((t64.n:Int) = 0)))
      (zAQ.s2 Q false))
     (zAQ.s2 Q false))
    (LoopK (α:=Int) (fun X x=>zAQ.b3 Q X first1_1 t29x0 o7 t40 (t40.n:Int) x) 0)))
def zAQ (t0:(Array Value)) (first1:Int) (Q:Bool→K):K :=
 New 25 t0 fun t2 =>
 zBD.call  fun t14 =>
 Ite (!t14)
  (Q false)
  (LdN t2 5 fun t16 =>
  zAj.call t16 fun t17 =>
  Ite t17
   (zAQ.s1 Q first1 t2 true)
   (LdN t2 5 fun t19 =>
   zAJ.call t19 3 fun t20 =>
   Ite (!t20)
    (zAQ.s1 Q first1 t2 true)
    (Ld t2 (Value.int .i64) fun t25 =>
    zAQ.s1 Q first1 t2 (decide (t25 ≠ 1)))))
theorem zIF (t0:(Array Value)) (first1:Int) (Q:Bool→K) (w:World) (h:zAQ t0 first1 Q w):zAQ.call t0 first1 Q w:=by
 have hJ1000012:JH 1000012 fun D=>D [] (fun C=>∀ (t4_2:Bool),C [(4,(.bool t4_2))] (zAQ.s2 Q t4_2)):=by intros; exact ⟨fun _ h=>⟨_,_,h⟩⟩
 have hD12:DH 12 1 [14] (.s [0,1,2,3] (.i (.s [4,5,6,8,7,9,10,11,12] (.i (.s [13] (.a [(14,0,.s [15,16,17,18] .e)])) (.s [13,14,15,16,17,18] .e))) (.s [4,5,6,7,8,9,10,11,12,13,14,15,16,17,18] .e))):=by intros; exact ⟨⟩
 have hD11:DH 11 1 [6] (.s [0,1,2,3,4,5] (.a [(6,0,.s [7] .e)])):=by intros; exact ⟨⟩
 have hJ20:∀ (X3:Int→K),XH 14 X3→JH 20 fun D=>∃ (first1_4:Int) (s5_4:(Option Addr)) (o7_4:Addr) (h8_4:Sl) (t69_4:Int) (t70_4:Int),D [(1,(.int .i64 first1_4)),(5,(.pointer s5_4)),(7,(.pointer (some o7_4))),(8,(Sl.val h8_4)),(69,(.int .i64 t69_4)),(70,(.int .i64 t70_4))] (fun C=>∀ (t113_4:Bool),C [(1,(.int .i64 first1_4)),(5,(.pointer s5_4)),(7,(.pointer (some o7_4))),(8,(Sl.val h8_4)),(69,(.int .i64 t69_4)),(70,(.int .i64 t70_4)),(113,(.bool t113_4))] (zAQ.s4 Q X3 first1_4 s5_4 o7_4 h8_4 t69_4 t70_4 t113_4)):=by intros; exact ⟨fun _ ⟨_,_,_,_,_,_,h⟩=>⟨_,_,h⟩⟩
 have hL14:∀ (first1_3:Int) (s5_3:(Option Addr)) (o7_3:Addr) (h8_3:Sl) (t69_3:Int),LH 14 (fun x:Int=>[(1,(.int .i64 first1_3)),(5,(.pointer s5_3)),(7,(.pointer (some o7_3))),(8,(Sl.val h8_3)),(69,(.int .i64 t69_3)),(70,(.int .i64 x))]) (fun X x=>zAQ.b3 Q X first1_3 s5_3 o7_3 h8_3 t69_3 x):=by intros; exact ⟨⟩
 have hJ4:JH 4 fun D=>∃ (first1_1:Int) (t2_1:Addr),D [(1,(.int .i64 first1_1)),(2,(.pointer (some t2_1)))] (fun C=>∀ (t27_1:Bool),C [(1,(.int .i64 first1_1)),(2,(.pointer (some t2_1))),(27,(.bool t27_1))] (zAQ.s1 Q first1_1 t2_1 t27_1)):=by intros; exact ⟨fun _ ⟨_,_,h⟩=>⟨_,_,h⟩⟩
 exact g_walk 119 h Tryz.func3
end Go.Proofs.YtdemfamgieonbaaGreat
namespace Go.Proofs.YtdemfamgieonbaaGreat
open Go Go.Sep Go.Sep.Bt
set_option maxRecDepth 100000
theorem and1023 (n:Int):0 ≤ bitsOf .and .i64 n 1023∧bitsOf .and .i64 n 1023 ≤ 1023:=by
 unfold bitsOf
 simp only
 have h1:((BitVec.ofInt IntKind.i64.bits n &&& BitVec.ofInt IntKind.i64.bits 1023).toNat) ≤ 1023:=by
  rw [BitVec.toNat_and]
  exact Nat.le_trans Nat.and_le_right (by decide)
 rw [wrap64 (by omega) (by omega)]
 omega
def leftH (H:List Int) (f i:Nat):List Int:=H.filter fun x=>(List.range i).all fun j=>!decide (x = H.getD ((j + f) % H.length) 0)
theorem zKp (H:List Int) (f:Nat):leftH H f 0 = H:=by simp [leftH]
theorem zKq (H:List Int) (f i:Nat):leftH H f (i + 1) = (leftH H f i).filter fun x=>!decide (x = H.getD ((i + f) % H.length) 0):=by
 unfold leftH
 rw [List.filter_filter]
 congr 1
 funext x
 rw [List.range_succ,List.all_append]
 simp [Bool.and_comm]
theorem zN0 {H:List Int} {f i:Nat} (hn:H.Nodup) (hi:i < H.length):H.getD ((i + f) % H.length) 0 ∈ leftH H f i:=by
 have hL:0 < H.length:=by omega
 have hm:=Nat.mod_lt (i + f) hL
 have hg:∀ j,H.getD ((j + f) % H.length) 0 = H[(j + f) % H.length]'(Nat.mod_lt _ hL):=fun j=>by
  rw [List.getD_eq_getElem?_getD,List.getElem?_eq_getElem (Nat.mod_lt _ hL)]; rfl
 unfold leftH
 refine List.mem_filter.2 ⟨by rw [hg]; exact List.getElem_mem _,?_⟩
 rw [List.all_eq_true]
 intro j hj
 have hji:j < i:=List.mem_range.1 hj
 rw [hg,hg,Bool.not_eq_true',decide_eq_false_iff_not]
 intro he
 have h1:=(List.getElem_inj hn).1 he
 have h2:=Nat.sub_mod_eq_zero_of_mod_eq h1
 rw [show i + f - (j + f) = i - j by omega,Nat.mod_eq_of_lt (by omega)] at h2
 omega
theorem zSP {L:List Int} {r:Int} (hn:L.Nodup) (hr:r ∈ L):(L.filter fun x=>!decide (x = r)).length + 1 = L.length:=by
 have h1:=hn.erase_eq_filter r
 have h2:=List.length_erase_of_mem hr
 have h3:=List.length_pos_of_mem hr
 have e:(L.filter fun x=>!decide (x = r)) = L.filter fun x=>x != r:=by
  congr 1
 rw [e,← h1]
 omega
theorem zQv {H:List Int} {f i:Nat} (hn:H.Nodup):(leftH H f i).Nodup:=hn.filter _
theorem zMT {H:List Int} {f:Nat} (hn:H.Nodup):∀ {i:Nat},i ≤ H.length→(leftH H f i).length + i = H.length
 | 0,_=>by rw [zKp]; omega
 | i + 1,h=>by
  have ih:=zMT (f:=f) hn (i:=i) (by omega)
  have h1:=zSP (zQv (f:=f) (i:=i) hn) (zN0 (f:=f) hn (by omega))
  rw [zKq]
  omega
section
variable {B:World} {Γ Δ:List HProp} {q:Bool→K}
theorem zTX {α:Type} (f:α→List Value) {esz m:Nat} {L:List α} {s:Sl} {j:Nat} {jj:Int} {x:α} {k:Array Value→K} {us:List Value} (hf:∀ x,(f x).length = esz) (hm:m ≤ esz) (he:0 < esz) (hr:∀ w,Holds B Γ w→RdC w s esz (L.flatMap f)) (hx:L[j]? = some x) (hu:(f x).take m = us) (h:HG B Γ (k us.toArray)) (hj:jj = (j:Int):=by first | rfl | omega) :
  HG B Γ (Idx s jj esz fun t=>LdN t m k) :=
 zO4 f hf he hr hx (fun t ht w hw=>⟨us.toArray,by rw [← hu]; simp [hf]; omega,fun i hi=>by
  have hl:us.length = min m esz:=by rw [← hu,List.length_take,hf]
  simp only [List.size_toArray] at hi
  have:=ht w (hr w hw) i (by simp only [List.size_toArray,hf]; omega)
  rw [this]
  have e:(f x)[i]? = us[i]?:=by rw [← hu,List.getElem?_take,if_pos (by omega)]
  simpa using e,h w hw⟩) hj
theorem zMj {t:TxX} {first:Int} (ht:txRd B t) (htn:∀ x ∈ t.ops,-9223372036854775808 ≤ x.1.n∧x.1.n ≤ 9223372036854775807) (h:HG B Γ (q true)):HG B Γ (zAQ.call (txL t).toArray first q):=by
 refine fun w hw=>zIF _ _ _ _ ?_
 refine hg hw ?_
 clear hw w
 unfold zAQ
 refine s_new fun t2=>?_
 refine speaks17 ?_
 refine s_f ?_ (by rfl)
 refine s_ldN (b:=t2) (l:=txL t) (l':=txL t) ?_
 refine zPj (t:=t) (fun w hw=>zJ0 ht hw) ?_
 have skip:∀ {Ψ:List HProp},[d:Drops Ψ Γ]→HG B Ψ (zAQ.s1 q first ⟨t2,0,none⟩ true):=fun {Ψ d}=>by
  unfold zAQ.s1
  refine s_t ?_ (by rfl)
  exact s_end (d:=d) h
 by_cases hg:GreatP t
 ·rw [decide_eq_true hg]
  refine s_t ?_ (by rfl)
  exact skip
 rw [decide_eq_false hg]
 refine s_f ?_ (by rfl)
 obtain ⟨z1,z2,z3,z4,z5⟩:=zSB hg
 refine s_ldN (b:=t2) (l:=txL t) (l':=txL t) ?_
 refine zPk (t:=t) (n:=3) (fun w hw=>zJ0 ht hw) ⟨by omega,by omega,by omega⟩ ?_
 cases hrt:rightT 3 t with
 | false =>
  refine s_t ?_ (by rfl)
  exact skip
 | true =>
 refine s_f ?_ (by rfl)
 refine s_ld (b:=t2) (l:=txL t) (x:=t.kind) ?_
 by_cases hk1:t.kind = 1
 rotate_left
 ·rw [show decide (t.kind ≠ 1) = true by simpa using hk1]
  exact skip
 rw [show decide (t.kind ≠ 1) = false by simpa using hk1]
 unfold zAQ.s1
 refine s_f ?_ (by rfl)
 obtain ⟨k1,k2,k3,k4⟩:=zFP hrt
 refine zMQ (n:=3) (by omega) (by omega) fun sd=>?_
 refine s_f ?_ (by rfl)
 refine s_bldF (cs:=tagF ⟨0,1,1,0⟩) ?_
 refine s_ldN (b:=t2) (l:=txL t) (l':=txL t) ?_
 refine s_own sd ?_
 refine zNx (tag:=⟨0,1,1,0⟩) (t:=t) (fun w hw=>zJ0 ht hw) ⟨by omega,by omega,by omega,fun x hx=>by have:=(k4 x hx).2; omega⟩ (fun x hx=>by have:=k1 x hx; omega) fun t' ms ht'=>?_
 have hokT:=zPH (n:=3) (g:=⟨0,1,1,0⟩) (t:=t) (by decide) (by omega) (by omega) hrt hrt
 have hfit:=zPF (n:=3) (ks:=keysT (t.reads++t.writes))
 have hkl:=zGd (t.reads++t.writes)
 have hml:(mksOf 3 [] (keysT (t.reads++t.writes))).length ≤ 1000:=by
  rw [mksOf,List.length_map]
  rw [List.length_append] at hkl
  omega
 have hmc:∀ m ∈ mksOf 3 [] (keysT (t.reads++t.writes)),0 ≤ m.cnt∧m.cnt < 18446744073709551616:=fun m hm=>by
  obtain ⟨k,_,rfl⟩:=List.mem_map.1 hm
  show 0 ≤ (0:Int)∧(0:Int) < 18446744073709551616
  omega
 show HG B (SlC zBG 3 ms ((mksOf 3 [] (keysT (t.reads++t.writes))).flatMap mkL)::_) _
 generalize mksOf 3 [] (keysT (t.reads++t.writes)) = mks at hokT hfit hml hmc ⊢
 have ho3:=zHy ht' hokT.2
 have hl:t'.reads.length ≤ 1000∧t'.writes.length ≤ 1000∧t'.ops.length ≤ 1000:=by
  have e:=congrArg List.length ht'.2.2.2.2
  simp only [List.length_map] at e
  rw [ht'.2.2.1,ht'.2.2.2.1,e]
  omega
 have hnn:∀ x ∈ t'.ops,-9223372036854775808 ≤ x.1.n∧x.1.n ≤ 9223372036854775807:=fun x hx=>by
  have h1:x.1 ∈ t.ops.map Prod.fst:=by rw [← ht'.2.2.2.2]; exact List.mem_map.2 ⟨x,hx,rfl⟩
  obtain ⟨y,hy,e⟩:=List.mem_map.1 h1
  rw [← e]; exact htn y hy
 have hhb:∀ r ∈ homesM mks,0 ≤ r∧r < 3:=fun r hr=>by
  by_cases hn:mks = []
  ·rw [hn,zKn,List.mem_singleton] at hr
   omega
  ·obtain ⟨m,hm,rfl⟩:=(zHv hn).1 hr
   exact hokT.2.2.2.2 m hm
 have hnd:(homesM mks).Nodup:=(zNy mks).imp fun h=>by omega
 have hne:=zQs mks
 refine s_new fun o7=>?_
 refine s_stN (b:=o7) (l':=orV ⟨0,1,1,0⟩ t' ms) ?_
 refine s_ldN (b:=o7) (l:=orV ⟨0,1,1,0⟩ t' ms) (l':=orV ⟨0,1,1,0⟩ t' ms) ?_
 refine zHt (pre:=tagF ⟨0,1,1,0⟩++txL t') (L:=mks) rfl (fun w hw=>(own_rd (s:=ms) hw).1) hml fun hs=>?_
 refine s_ldN (b:=o7) (l:=orV ⟨0,1,1,0⟩ t' ms) (l':=orV ⟨0,1,1,0⟩ t' ms) ?_
 refine zML (L:=mks) (fun w hw=>(own_rd (s:=ms) hw).1) hml ?_
 refine s_cap hs fun c1 c2 c3 c4=>?_
 rw [List.length_map,Nat.mul_one] at c1
 have hk1':t'.kind = 1:=by rw [ht'.1]; exact hk1
 have hsg:(decide (t'.kind = 1) && decide ((homesM mks).length = 1)) = sngl t' mks:=rfl
 rw [hsg]
 cases hsn:sngl t' mks with
 | true =>
  have hlen:(homesM mks).length = 1:=by
   unfold sngl at hsn
   simp only [Bool.and_eq_true,decide_eq_true_eq] at hsn
   exact hsn.2
  obtain ⟨r,hr⟩:=List.length_eq_one_iff.1 hlen
  have hrb:=hhb r (by rw [hr]; simp)
  obtain ⟨G',hG',d2,j2⟩:=zQt (n:=3) (g:=⟨0,1,1,0⟩) (t:=t') (mks:=mks) (S:=newM 3) (r:=r) ⟨.inl ⟨rfl,rfl⟩,ho3,by omega,ho3⟩ hsn hr hfit rfl ⟨by simp,rfl⟩ rfl (fun f hf=>by rw [List.eq_of_mem_replicate hf])
  refine s_t ?_ (by rfl)
  refine s_dr ?_
  refine s_idx1 (L:=homesM mks) (c:=Value.int .i64) (j:=0) (x:=r) (fun w hw=>(own_rd (s:=hs) hw).1) (by rw [hr]; rfl) ?_
  refine s_ldN (b:=o7) (l:=orV ⟨0,1,1,0⟩ t' ms) (l':=orV ⟨0,1,1,0⟩ t' ms) ?_
  refine s_nx ?_
  refine s_own sd ?_
  refine zJL (r:=r) (kind:=1) (ix:=0) (tag:=⟨0,1,1,0⟩) (t:=t') (ms:=ms) (mks:=mks) (by omega) (fun w hw=>txC_rd (Γ:=[]) hw.drops) (fun w hw=>(own_rd (s:=ms) hw).1) hnn (by simp) (by simp) hmc hl hml fun s1 D1 hD1 _=>?_
  refine decl_n fun n1=>?_
  rw [d2] at hD1
  obtain ⟨d,rfl,hd⟩:=List.map_eq_singleton_iff.1 hD1
  refine s_dr ?_
  refine s_t ?_ (by simp at n1 ⊢; omega)
  have htag:d.tag = ⟨0,1,1,0⟩:=congrArg DcM.tag hd
  refine zTX dcF (m:=4) (L:=[d]) (j:=0) (x:=d) (us:=tagF d.tag) zJK (by omega) (by omega) (fun w hw=>(own_rd (s:=s1) hw).1) rfl rfl ?_
  refine s_ldN (b:=o7) (l:=orV ⟨0,1,1,0⟩ t' ms) (l':=tagF ⟨0,1,1,0⟩) ?_
  refine s_eqS (xs:=tagF d.tag) (ys:=tagF ⟨0,1,1,0⟩) (ks:=tagK) (p:=d.tag = ⟨0,1,1,0⟩) zHc ?_
  refine s_t ?_ (by simpa using htag)
  refine s_own sd ?_
  refine zFQ (by omega) fun s4=>?_
  refine tags_n fun n4=>?_
  rw [List.length_map,j2] at n4
  unfold zAQ.s2
  rw [show decide ((s4.n:Int) = 0) = true by rw [n4]; rfl]
  exact s_end h
 | false =>
  refine s_f ?_ (by rfl)
  have hfo:∀ r ∈ homesM mks,feedOk 3 r 2 5 ⟨0,1,1,0⟩ t' mks:=fun r hr=>⟨.inr ⟨rfl,by omega,by omega⟩,ho3,hhb r hr,ho3⟩
  have hL0:0 < (homesM mks).length:=List.length_pos_iff.2 hne
  obtain ⟨f1,f2⟩:=and1023 first
  generalize hfi:bitsOf .and .i64 first 1023 = fi at f1 f2
  have hL3:(homesM mks).length ≤ 1000:=by
   have h1:=zFs (sortI (if mks.length = 0 then [0] else mks.map MkX.home))
   rw [zGe] at h1
   have h2:(if mks.length = 0 then [0] else mks.map MkX.home).length ≤ 1000:=by split <;> simp <;> omega
   unfold homesM
   omega
  generalize hH:homesM mks = H at *
  refine s_end (Δ:=SchS sd 3 0 (newM 3)::SlI hs H::blk o7 (.cells (orV ⟨0,1,1,0⟩ t' ms).toArray zBe (0,0))::SlC zBG 3 ms (mks.flatMap mkL)::txC t' Γ) ?_
  refine s_loop (α:=Int) (ι:=Nat×SchM) (fun x i=>x = (i.1:Int)∧i.1 ≤ H.length∧(i.1 < H.length→PW 3 5 ⟨0,1,1,0⟩ t' mks (leftH H fi.toNat i.1) i.2)∧(i.1 = H.length→i.2.jobs = [])) (fun x i=>SchS sd 3 i.1 i.2::SlI hs H::blk o7 (.cells (orV ⟨0,1,1,0⟩ t' ms).toArray zBe (0,0))::SlC zBG 3 ms (mks.flatMap mkL)::txC t' Γ) (fun x i=>H.length - i.1) (0,newM 3) ⟨rfl,Nat.zero_le _,fun _=>by rw [zKp,← hH]; exact zPG (by omega),fun h0=>by simp only at h0; omega⟩ ?_
  rintro k' _ ⟨i,S⟩ ⟨rfl,hi,hpw,hend⟩ hk'
  simp only at hi hpw hend hk' ⊢
  unfold zAQ.b3
  refine s_ite (fun hb=>?_) fun hb=>?_
  rotate_left
  ·have hil:i = H.length:=by simp only [decide_eq_false_iff_not] at hb; omega
   refine zFQ (by omega) fun s4=>?_
   refine tags_n fun n4=>?_
   rw [List.length_map,hend hil] at n4
   rw [show decide ((s4.n:Int) = 0) = true by rw [n4]; rfl]
   exact s_end h
  have hil:i < H.length:=by simp only [decide_eq_true_eq] at hb; omega
  have p:=hpw hil
  have hmem:=zN0 (f:=fi.toNat) hnd hil
  have hmod:=Nat.mod_lt (i + fi.toNat) hL0
  obtain ⟨g1,g2⟩:=zHx (by rw [hH]; exact hfo) hsn hfit p hmem
  rw [← zKq] at g1 g2
  have hll:=zMT (f:=fi.toNat) hnd (i:=i + 1) (by omega)
  have hgr:H[(i + fi.toNat) % H.length]? = some (H.getD ((i + fi.toNat) % H.length) 0):=by
   rw [List.getD_eq_getElem?_getD,List.getElem?_eq_getElem hmod]; rfl
  generalize H.getD ((i + fi.toNat) % H.length) 0 = r at hmem g1 g2 hgr
  refine s_ar hfi ?_
  refine s_ai ?_
  refine s_cd (by omega) ?_
  refine s_ar (e':=(((i + fi.toNat) % H.length:Nat):Int)) (by rw [Int.ofNat_tmod,c1]; congr 1; omega) ?_
  refine s_idx1 (L:=H) (c:=Value.int .i64) (j:=(i + fi.toNat) % H.length) (x:=r) (fun w hw=>(own_rd (s:=hs) hw).1) hgr ?_
  refine s_ldN (b:=o7) (l:=orV ⟨0,1,1,0⟩ t' ms) (l':=orV ⟨0,1,1,0⟩ t' ms) ?_
  refine s_nx ?_
  refine zJL (r:=r) (kind:=2) (ix:=5) (tag:=⟨0,1,1,0⟩) (t:=t') (ms:=ms) (mks:=mks) (by omega) (fun w hw=>txC_rd (Γ:=[]) hw.drops) (fun w hw=>(own_rd (s:=ms) hw).1) hnn (by simp) (by simp) hmc hl hml fun s1 D1 hD1 _=>?_
  refine decl_n fun n1=>?_
  have hDl:=congrArg List.length hD1
  rw [List.length_map] at hDl
  refine s_ai ?_
  have S4:∀ {Ψ:List HProp} {S':SchM},[d:Drops Ψ (SchS sd 3 (i + 1) S'::SlI hs H::blk o7 (.cells (orV ⟨0,1,1,0⟩ t' ms).toArray zBe (0,0))::SlC zBG 3 ms (mks.flatMap mkL)::txC t' Γ)]→(i + 1 < H.length→PW 3 5 ⟨0,1,1,0⟩ t' mks (leftH H fi.toNat (i + 1)) S')→(i + 1 = H.length→S'.jobs = []) →
    HG B Ψ (zAQ.s4 q k' first (some ⟨sd,0,none⟩) ⟨o7,0,none⟩ hs (hs.n:Int) (i:Int) false):=fun {Ψ S' d} a1 a2=>by
   unfold zAQ.s4
   refine s_f ?_ (by rfl)
   refine s_ai ?_
   exact s_end (d:=d) (hk' ((i:Int) + 1) (i + 1,S') ⟨by simp,hil,a1,a2⟩ (by simp only; omega))
  by_cases hlast:i + 1 = H.length
  ·have hnil:leftH H fi.toNat (i + 1) = []:=List.length_eq_zero_iff.1 (by omega)
   obtain ⟨G',hG',d2,j2⟩:=g2 hnil
   rw [d2] at hDl
   have e2:decide ((i:Int) = (hs.n:Int) - 1) = true:=by rw [decide_eq_true_eq]; omega
   rw [e2,show decide ((s1.n:Int) = 1) = true by rw [decide_eq_true_eq]; simp only [List.length_cons,List.length_nil] at hDl; omega]
   refine s_f ?_ (by rfl)
   refine s_f ?_ (by rfl)
   exact S4 (fun h0=>absurd h0 (by omega)) (fun _=>j2)
  ·obtain ⟨d1,p1,j1⟩:=g1 (by intro hn; rw [hn] at hll; simp at hll; omega)
   rw [d1] at hDl
   have e2:decide ((i:Int) = (hs.n:Int) - 1) = false:=by rw [decide_eq_false_iff_not]; omega
   rw [e2,show decide ((s1.n:Int) = 1) = false by rw [decide_eq_false_iff_not]; simp only [List.length_nil] at hDl; omega]
   refine s_f ?_ (by rfl)
   refine s_t ?_ (by rfl)
   refine s_own sd ?_
   refine zSN (by omega) fun s3 Y hY=>?_
   rw [p1.M] at hY
   have hY0:Y = []:=by simpa using hY
   subst hY0
   refine s_cap s3 fun b1 b2 b3 b4=>?_
   have hs3:s3.n = 0:=by simp at b1; omega
   refine s_f ?_ (by rw [hs3]; rfl)
   refine s_own sd ?_
   refine zFQ (by omega) fun s4=>?_
   refine tags_n fun n4=>?_
   rw [List.length_map,j1] at n4
   rw [show decide ((s4.n:Int) ≠ 1) = false by rw [n4]; rfl]
   exact S4 (fun _=>p1) (fun h0=>absurd h0 hlast)
end
end Go.Proofs.YtdemfamgieonbaaGreat
namespace Go.Proofs.YtdemfamgieonbaaGreat
open Go Go.Sep Go.RowKit
theorem zKr (W:World) (c0:Array Value) (y0:Rdy W zFu (Value.agg c0).cells.toList) (h0:c0.size = 5) (n1:Int) (w1:(Lit.int IntKind.i64 n1).wf = true) :
  Calls Tryz.prog 3 #[.agg c0,.int .i64 n1] W (Ret fun v w'=>v = .bool true∧Below W.heap.size W w'):=by
 obtain ⟨t,rfl,ht,htn⟩:=zS9 h0 y0
 exact zRB (zMj (Γ:=[]) ht htn (fun w h=>⟨rfl,h⟩) W (Holds.start W))
end Go.Proofs.YtdemfamgieonbaaGreat
