/- Texts of the claim FrontTells, one behind the other. -/
import Derived.Test.YtdemfamgieonbaaGreatFrontTellsM2
import GoSem.Instr.MapEntry
set_option linter.all false
namespace Go.Proofs.YtdemfamgieonbaaGreat
open Go Go.Sep
set_option maxRecDepth 100000
def keysT (L:List TX):List TX:=cmpct (sortL L)
theorem zKE (L:List TX):(keysT L).Pairwise (· < ·):=zKD _ (zR9 L)
theorem zGz {L:List TX} {x:TX}:x ∈ keysT L ↔ x ∈ L:=by unfold keysT; rw [zI1,zQg]
theorem zFH (L:List TX):(keysT L).length ≤ L.length:=by
 have:=zGy (sortL L)
 rwa [zMV] at this
theorem zSB {L M:List TX} (h:M.Pairwise (· < ·)) (hm:∀ x,x ∈ M ↔ x ∈ L):M = keysT L:=zKU h (zKE L) fun x=>by rw [hm,zGz]
section
variable {B:World} {Γ Δ:List HProp} {k:K}
theorem s_str {s:Sl} {xs:List UInt8} {q:ByteArray→K} (hr:∀ w,Holds B Γ w→RdB w s xs) (h:HG B Γ (q (bs xs))):HG B Γ (Rd Tryz.prog (convert zH3 zBy s.val) Value.string q):=fun w hw=>r_str (by kernel_rfl) (hr w hw) (h w hw)
theorem zJk {s:Sl} {L:List TX} {key:TX} {Q:Bool→K} (hL:L.length < 1000000000) (hr:∀ w,Holds B Γ w→RdC w s 1 (L.map strV)) (h:HG B Γ (Q (decide (key ∈ L)))):HG B Γ (zDS.call s (bs key) Q):=fun w hw=>by
 refine zOf _ _ _ _ ?_
 have hn:s.n = L.length:=by have:=(hr w hw).len; simpa using this.symm
 refine Sep.hg hw ?_
 clear hw w
 unfold zDS
 refine zCm (α:=Int) (fun x=>∃ i:Nat,x = (i:Int)∧i ≤ L.length∧key ∉ L.take i) (fun x=>L.length - x.toNat) ⟨0,rfl,Nat.zero_le _,by simp⟩ fun k' x hx hk'=>?_
 obtain ⟨i,rfl,hi,hno⟩:=hx
 unfold zDS.b1
 refine s_ite (fun hb=>?_) fun hb=>?_
 ·have hil:i < L.length:=by simp only [decide_eq_true_eq] at hb; omega
  have hge:L[i]? = some L[i]:=List.getElem?_eq_getElem hil
  have hmem:L[i] ∈ L:=List.getElem_mem hil
  have htk:L.take (i + 1) = L.take i++[L[i]]:=List.take_succ_eq_append_getElem hil
  generalize L[i] = x at hge hmem htk
  refine s_idxS hr hge ?_
  rw [zBa,zBa]
  refine s_ite (fun he=>?_) fun he=>?_
  ·have he':x = key:=by simpa using he
   rw [show decide (key ∈ L) = true by rw [← he']; simpa using hmem] at h
   exact h
  ·have he':¬ x = key:=by simpa using he
   refine s_ai ?_
   refine hk' _ ⟨i + 1,by simp,hil,?_⟩ (by omega)
   rw [htk]
   simp only [List.mem_append,List.mem_singleton,not_or]
   exact ⟨hno,fun e=>he' e.symm⟩
 ·have hil:i = L.length:=by simp only [decide_eq_false_iff_not] at hb; omega
  rw [hil,List.take_length] at hno
  rw [show decide (key ∈ L) = false by simpa using hno] at h
  exact h
theorem zLA {a b:Sl} {La Lb:List TX} {Q:Bool→K} (hL:La.length < 1000000000) (ha:∀ w,Holds B Γ w→RdC w a 1 (La.map strV)) (hb:∀ w,Holds B Γ w→RdC w b 1 (Lb.map strV)) (h:HG B Γ (Q (decide (La = Lb)))):HG B Γ (zB2.call a b Q):=fun w hw=>by
 refine zI2 _ _ _ _ ?_
 have han:a.n = La.length:=by have:=(ha w hw).len; simpa using this.symm
 have hbn:b.n = Lb.length:=by have:=(hb w hw).len; simpa using this.symm
 refine Sep.hg hw ?_
 clear hw w
 unfold zB2
 refine s_ite (fun hc=>?_) fun hc=>?_
 ·have hne:La.length ≠ Lb.length:=by simp only [decide_eq_true_eq] at hc; omega
  rw [show decide (La = Lb) = false by simpa using fun e=>hne (by rw [e])] at h
  exact h
 have hll:La.length = Lb.length:=by simp only [decide_eq_false_iff_not] at hc; omega
 refine zCm (α:=Int) (fun x=>∃ i:Nat,x = (i:Int)∧i ≤ La.length∧La.take i = Lb.take i) (fun x=>La.length - x.toNat) ⟨0,rfl,Nat.zero_le _,by simp⟩ fun k' x hx hk'=>?_
 obtain ⟨i,rfl,hi,he⟩:=hx
 unfold zB2.b1
 refine s_ite (fun hc2=>?_) fun hc2=>?_
 ·have hil:i < La.length:=by simp only [decide_eq_true_eq] at hc2; omega
  have hil2:i < Lb.length:=by omega
  have t1:=List.take_succ_eq_append_getElem hil
  have t2:=List.take_succ_eq_append_getElem hil2
  have g1:La[i]? = some La[i]:=List.getElem?_eq_getElem hil
  have g2:Lb[i]? = some Lb[i]:=List.getElem?_eq_getElem hil2
  generalize La[i] = x at t1 g1
  generalize Lb[i] = y at t2 g2
  repeat refine s_nx ?_
  refine s_idxS ha g1 ?_
  refine s_idxS hb g2 ?_
  rw [zBa,zBa]
  refine s_ite (fun hp=>?_) fun hp=>?_
  ·have hp':¬ x = y:=by simpa using hp
   rw [show decide (La = Lb) = false by simp only [decide_eq_false_iff_not]; rintro rfl; rw [g1] at g2; exact hp' (Option.some.inj g2)] at h
   exact h
  ·have hp':x = y:=by simpa using hp
   refine s_ai ?_
   exact hk' _ ⟨i + 1,by simp,hil,by rw [t1,t2,he,hp']⟩ (by omega)
 ·have hil:i = La.length:=by simp only [decide_eq_false_iff_not] at hc2; omega
  rw [hil,List.take_length,hll,List.take_length] at he
  rw [show decide (La = Lb) = true by simpa using he] at h
  exact h
theorem zQj {s all:Sl} {A:List TX} {x:TX} {X1:Sl→Int→K} {Q:Sl→K} {i:Int} (hA:A.Pairwise (· < ·)) (hx:x ∉ A) (hL:A.length < 100000000)
  (h:∀ M,M.Pairwise (· < ·)→(∀ y,y ∈ M ↔ y = x∨y ∈ A)→M.length = A.length + 1→HG B (SlS s M::Γ) (zA4.s2 Q X1 s all i)) :
  HG B (SlS s (A++[x])::Γ) (LoopK (α:=Int) (fun X y=>zA4.b3 Q X1 X s all i y) (A.length:Int)):=by
 refine s_loop (α:=Int) (ι:=List TX×List TX) (fun y i=>y = (i.1.length:Int)∧A = i.1++i.2∧∀ z ∈ i.2,x < z) (fun y i=>SlS s (i.1++x::i.2)::Γ) (fun y i=>i.1.length) (A,[]) ⟨rfl,by simp,by simp⟩ ?_
 rintro k' _ ⟨A1,A2⟩ ⟨rfl,rfl,h2⟩ hk'
 simp only at h2 hk' ⊢
 have hpw:=List.pairwise_append.1 hA
 have hlen:(A1++A2).length = A1.length + A2.length:=List.length_append
 have stop:(∀ z ∈ A1,z < x)→HG B (SlS s (A1++x::A2)::Γ) (zA4.s4 Q X1 k' s all i (A1.length:Int) false):=fun h1=>by
  unfold zA4.s4
  refine s_f ?_
  refine h (A1++x::A2) (List.pairwise_append.2 ⟨hpw.1,List.pairwise_cons.2 ⟨h2,hpw.2.1⟩,fun a ha b hb=>?_⟩) (fun y=>by simp only [List.mem_append,List.mem_cons]; constructor <;> (intro h; rcases h with h | h | h <;> simp [h])) (by simp; omega)
  rcases List.mem_cons.1 hb with rfl | hb
  ·exact h1 a ha
  ·exact hpw.2.2 a ha b hb
 unfold zA4.b3
 refine s_cap s fun a1 a2 a3 a4=>?_
 have hn:s.n = A1.length + (A2.length + 1):=by simpa using a1.symm
 repeat refine s_nx ?_
 rcases List.eq_nil_or_concat A1 with rfl | ⟨A1,y,rfl⟩
 ·refine s_f ?_
  exact stop (by simp)
 simp only [List.concat_eq_append] at *
 have hl1:(A1++[y]).length = A1.length + 1:=by simp
 rw [hl1] at hn hlen hk' ⊢
 refine s_t ?_ (by simp)
 have e1:((A1++[y])++x::A2)[A1.length + 1]? = some x:=by rw [List.getElem?_append_right (by simp),hl1]; simp
 have e2:((A1++[y])++x::A2)[A1.length]? = some y:=by rw [List.append_assoc]; simp
 refine s_idxS (L:=(A1++[y])++x::A2) (j:=A1.length + 1) (fun w hw=>(own_rd (s:=s) hw).1) e1 ?_ rfl
 refine s_ai ?_
 refine s_idxS (L:=(A1++[y])++x::A2) (j:=A1.length) (fun w hw=>(own_rd (s:=s) hw).1) e2 ?_ (by omega)
 rw [zBa,zBa,zDr]
 by_cases hxy:x < y
 ·rw [show decide (x < y) = true by simpa using hxy]
  unfold zA4.s4
  refine s_t ?_
  refine s_idxS (L:=(A1++[y])++x::A2) (j:=A1.length + 1) (fun w hw=>(own_rd (s:=s) hw).1) e1 ?_ rfl
  refine s_ai ?_
  refine s_idxS (L:=(A1++[y])++x::A2) (j:=A1.length) (fun w hw=>(own_rd (s:=s) hw).1) e2 ?_ (by omega)
  refine s_idx (s:=s) (i:=A1.length + 1) ?_
  rw [← add0 (elA s (A1.length + 1) 1)]
  refine s_stE (s:=s) ?_ (by simp)
  refine s_ai ?_
  refine s_idx (s:=s) (i:=A1.length) ?_
  rw [← add0 (elA s A1.length 1)]
  refine s_stE (s:=s) ?_ (by simp)
  refine s_ai ?_
  have e3:((((A1++[y])++x::A2).map strV).set ((A1.length + 1) * 1 + 0) (strV y)).set (A1.length * 1 + 0) (strV x) = (A1++x::(y::A2)).map strV:=by
   rw [show (A1.length + 1) * 1 + 0 = (A1++[y]).length by simp,show A1.length * 1 + 0 = A1.length by omega,← List.map_set,← List.map_set]
   rw [List.set_append_right _ _ (Nat.le_refl _),Nat.sub_self,List.set_cons_zero,List.append_assoc,List.set_append_right _ _ (Nat.le_refl _),Nat.sub_self]
   rfl
  rw [show ((A1++[y]++x::A2).map strV).set ((A1.length + 1) * 1 + 0) (Value.string (bs y)) = ((A1++[y]++x::A2).map strV).set ((A1.length + 1) * 1 + 0) (strV y) from rfl,show Value.string (bs x) = strV x from rfl,e3]
  refine hk' _ (A1,y::A2) ⟨by simp,by simp,fun z hz=>?_⟩ (by simp)
  rcases List.mem_cons.1 hz with rfl | hz
  ·exact hxy
  ·exact h2 z hz
 ·rw [show decide (x < y) = false by simpa using hxy]
  have:=stop fun z hz=>by
   have hyx:y < x:=by
    have h4:y ≤ x:=List.not_lt.1 hxy
    rcases List.le_iff_lt_or_eq.1 h4 with h5 | h5
    ·exact h5
    ·exact absurd (by rw [← h5]; simp) hx
   rcases List.mem_append.1 hz with hz | hz
   ·exact List.lt_trans ((List.pairwise_append.1 hpw.1).2.2 z hz y (by simp)) hyx
   ·rw [List.mem_singleton.1 hz]; exact hyx
  rw [hl1] at this
  exact this
theorem zQk {t:TxX} {Q:Sl→K} (hr1:∀ w,Holds B Γ w→RdC w t.rs 1 (t.reads.map strV)) (hr2:∀ w,Holds B Γ w→RdC w t.ws 1 (t.writes.map strV)) (hl:t.reads.length ≤ 10000000) (hl2:t.writes.length ≤ 10000000) (h:∀ s,HG B (SlS s (keysT (t.reads++t.writes))::Γ) (Q s)):HG B Γ (zA4.call (txL t).toArray Q):=fun w hw=>by
 refine zM2 _ _ _ ?_
 have hn1:t.rs.n = t.reads.length:=by have:=(hr1 w hw).len; simpa using this.symm
 have hn2:t.ws.n = t.writes.length:=by have:=(hr2 w hw).len; simpa using this.symm
 refine Sep.hg hw ?_
 clear hw w
 unfold zA4
 refine s_new fun t1=>?_
 refine s_new fun t8=>?_
 refine s_conv (A':=SlS ⟨some ⟨t8,0,none⟩,0,0⟩ []) (zDk (vs:=[]) rfl (by simp)) ?_
 refine s_dr ?_
 refine s_wsD [blk t1 (.cells (txL t).toArray zAj (0,0))] ?_
 repeat refine s_nx ?_
 refine s_new fun t9=>?_
 refine s_conv (A':=SlC zBy 1 ⟨some ⟨t9,0,none⟩,0,0⟩ []) (zDk (vs:=[]) rfl (by simp)) ?_
 repeat refine s_nx ?_
 refine zBJ (s:=⟨some ⟨t9,0,none⟩,0,0⟩) (us:=t.reads.map strV) (fun w hw=>hr1 w hw.drops) (fun v hv=>by obtain ⟨y,_,rfl⟩:=List.mem_map.1 hv; rfl) (by simp only; omega) fun a1 ha1=>?_
 repeat refine s_nx ?_
 refine zBJ (s:=a1) (us:=t.writes.map strV) (fun w hw=>hr2 w hw.drops) (fun v hv=>by obtain ⟨y,_,rfl⟩:=List.mem_map.1 hv; rfl) (by simp only at ha1; omega) fun all hall=>?_
 rw [show []++t.reads.map strV++t.writes.map strV = (t.reads++t.writes).map strV by simp]
 have hln:(t.reads++t.writes).length = t.reads.length + t.writes.length:=List.length_append
 generalize hLL:t.reads++t.writes = L at *
 have halln:all.n = L.length:=by simp only at ha1; omega
 refine s_end (Δ:=SlS ⟨some ⟨t8,0,none⟩,0,0⟩ []::SlS all L::Γ) ?_
 refine s_loop (α:=Sl×Int) (ι:=Nat×List TX) (fun y i=>y.2 = (i.1:Int)∧i.1 ≤ L.length∧i.2.Pairwise (· < ·)∧(∀ z,z ∈ i.2 ↔ z ∈ L.take i.1)∧i.2.length ≤ i.1) (fun y i=>SlS y.1 i.2::SlS all L::Γ) (fun y i=>L.length - i.1) (0,[]) ⟨rfl,Nat.zero_le _,List.Pairwise.nil,by simp,by simp⟩ ?_
 rintro k' ⟨o,_⟩ ⟨i,M⟩ ⟨rfl,hi,hM,hm,hMl⟩ hk'
 simp only at hi hM hm hMl hk' ⊢
 unfold zA4.b1
 refine s_cap o fun b1 b2 b3 b4=>?_
 rw [List.length_map,Nat.mul_one] at b1
 refine s_ite (fun hb=>?_) fun hb=>?_
 ·have hil:i < L.length:=by simp only [decide_eq_true_eq] at hb; omega
  have hge:L[i]? = some L[i]:=List.getElem?_eq_getElem hil
  have htk:L.take (i + 1) = L.take i++[L[i]]:=List.take_succ_eq_append_getElem hil
  generalize L[i] = x at hge htk
  refine s_idxS (L:=L) (fun w hw=>(own_rd (s:=all) hw).1) hge ?_
  refine zJk (L:=M) (by omega) (fun w hw=>(own_rd (s:=o) hw).1) ?_
  refine s_ite (fun he=>?_) fun he=>?_
  ·have hxM:x ∈ M:=by simpa using he
   unfold zA4.s2
   refine s_ai ?_
   refine hk' (o,(i:Int) + 1) (i + 1,M) ⟨by simp,hil,hM,fun z=>?_,by simp only; omega⟩ (by simp only; omega)
   rw [htk,List.mem_append,← hm]
   simp only [List.mem_singleton]
   constructor
   ·exact fun h=>.inl h
   ·rintro (h | rfl)
    ·exact h
    ·exact hxM
  ·have hxM:x ∉ M:=by simpa using he
   refine s_idxS (L:=L) (fun w hw=>(own_rd (s:=all) hw).1) hge ?_
   refine s_new fun t33=>?_
   refine zBJ (s:=o) (us:=[strV x]) (blk_rd rfl) (by simp [flatV]) (by simp only; omega) fun o2 ho2=>?_
   rw [show M.map strV++[strV x] = (M++[x]).map strV by simp]
   refine s_ar (e':=(M.length:Int)) (by simp only at ho2; rw [wrap64 (by omega) (by omega)]; omega) ?_
   refine zQj hM hxM (by omega) fun M2 h1 h2 h3=>?_
   unfold zA4.s2
   refine s_ai ?_
   refine s_end (hk' (o2,(i:Int) + 1) (i + 1,M2) ⟨by simp,hil,h1,fun z=>?_,by simp only; omega⟩ (by simp only; omega))
   rw [h2,htk,List.mem_append,← hm]
   simp only [List.mem_singleton]
   exact or_comm
 ·have hil:i = L.length:=by simp only [decide_eq_false_iff_not] at hb; omega
  rw [hil,List.take_length] at hm
  rw [zSB hM hm]
  exact s_end (h o)
end
end Go.Proofs.YtdemfamgieonbaaGreat
namespace Go.Proofs.YtdemfamgieonbaaGreat
open Go Go.Sep
set_option maxRecDepth 100000
abbrev GreatP (t:TxX):Prop:=40 < t.reads.length∨40 < t.writes.length∨60 < t.ops.length∨(∃ k ∈ t.reads,200 < k.length)∨(∃ k ∈ t.writes,200 < k.length)∨∃ x ∈ t.ops,200 < x.1.key.length∨200 < x.1.val.length
abbrev SameP (a b:TxX):Prop:=a.kind = b.kind∧a.to = b.to∧a.reads = b.reads∧a.writes = b.writes∧a.ops.map Prod.fst = b.ops.map Prod.fst
section
variable {B:World} {Γ Γ0 Δ:List HProp} {k:K}
theorem zPM {α:Type} (f:α→List Value) {esz:Nat} {L:List α} {s:Sl} {j:Nat} {jj:Int} {x:α} {k:Array Value→K} (hf:∀ x,(f x).length = esz) (he:0 < esz) (hr:∀ w,Holds B Γ w→RdC w s esz (L.flatMap f)) (hr0:∀ w,Holds B Γ0 w→RdC w s esz (L.flatMap f)) (hx:L[j]? = some x) (h:HG B Γ (k (f x).toArray)) (hj:jj = (j:Int):=by first | rfl | omega) :
  HG B Γ (Idx s jj esz fun t=>LdNS (Holds B Γ0) t esz k):=fun w hw=>by
 subst hj
 have hrw:=hr w hw
 have hj:j < L.length:=(List.getElem?_eq_some_iff.1 hx).1
 have hn:L.length = s.n:=by
  have:=hrw.len; rw [zAL f esz hf] at this
  exact Nat.eq_of_mul_eq_mul_right he this
 cases ha:s.a with
 | none=>have:=hrw.nil ha; omega
 | some a =>
  refine ⟨a,_,ha,by omega,by omega,rfl,_,by simp [hf],fun w' hw'=>?_,h w hw⟩
  simp only [Int.toNat_natCast]
  exact zJN f esz hf (hr0 w' hw') ha hx
theorem zGS {α β:Type} (f:α→List Value) {esz off:Nat} {L:List α} {s:Sl} {j:Nat} {jj:Int} {x:α} {c:β→Value} {v:β} {k:β→K} (hf:∀ x,(f x).length = esz) (hr:∀ w,Holds B Γ w→RdC w s esz (L.flatMap f)) (hx:L[j]? = some x) (hv:(f x)[off]? = some (c v)) (h:HG B Γ (k v)) (hj:jj = (j:Int):=by first | rfl | omega) :
  HG B Γ (Idx s jj esz fun t=>Ld (t.add off) c k):=fun w hw=>by
 subst hj
 have hrw:=hr w hw
 have hj:j < L.length:=(List.getElem?_eq_some_iff.1 hx).1
 have ho:off < esz:=by rw [← hf x]; exact (List.getElem?_eq_some_iff.1 hv).1
 have hn:L.length = s.n:=by
  have:=hrw.len; rw [zAL f esz hf] at this
  exact Nat.eq_of_mul_eq_mul_right (by omega) this
 cases ha:s.a with
 | none=>have:=hrw.nil ha; omega
 | some a =>
  refine ⟨a,_,ha,by omega,by omega,rfl,v,?_,h w hw⟩
  simp only [Int.toNat_natCast]
  have h2:=zJN f esz hf hrw ha hx off (by simpa [hf] using ho)
  rw [h2]
  simpa using hv
theorem zTV {α β:Type} (f:α→List Value) {esz:Nat} {L:List α} {s:Sl} {j:Nat} {jj:Int} {x:α} {c:β→Value} {v:β} {k:β→K} (hf:∀ x,(f x).length = esz) (hr:∀ w,Holds B Γ w→RdC w s esz (L.flatMap f)) (hx:L[j]? = some x) (hv:(f x)[0]? = some (c v)) (h:HG B Γ (k v)) (hj:jj = (j:Int):=by first | rfl | omega) :
  HG B Γ (Idx s jj esz fun t=>Ld t c k):=fun w hw=>by
 obtain ⟨a,t,h1,h2,h3,h4,h5⟩:=zGS f (off:=0) hf hr hx hv h hj w hw
 rw [add0] at h5
 exact ⟨a,t,h1,h2,h3,h4,h5⟩
theorem zGT {w:World} {t:TxX} (h:txRd w t):t.rs.n = t.reads.length∧t.ws.n = t.writes.length∧t.os.n = t.ops.length :=
 ⟨by have:=h.1.len; simpa using this.symm,by have:=h.2.1.len; simpa using this.symm,rd_len zC4 (by omega) h.2.2.1⟩
theorem zP0 {t:TxX} {Q:Bool→K} (hr:∀ w,Holds B Γ w→txRd w t) (h:HG B Γ (Q (decide (GreatP t)))):HG B Γ (zAo.call (txL t).toArray Q):=fun w hw=>by
 refine zLl _ _ _ ?_
 obtain ⟨n1,n2,n3⟩:=zGT (hr w hw)
 refine Sep.hg hw ?_
 clear hw w
 unfold zAo
 refine s_new fun t1=>?_
 have yes:GreatP t→HG B (blk t1 (.cells (txL t).toArray zAj (0,0))::Γ) (Q true):=fun hg=>by
  rw [show decide (GreatP t) = true from decide_eq_true hg] at h
  exact s_end h
 repeat refine s_nx ?_
 refine s_ite (fun hb=>?_) fun hb=>?_
 ·unfold zAo.s1
  exact s_t (yes (.inl (by simp only [decide_eq_true_eq] at hb; omega)))
 repeat refine s_nx ?_
 refine s_ite (fun hb2=>?_) fun hb2=>?_
 ·unfold zAo.s1
  exact s_t (yes (.inr (.inl (by simp only [decide_eq_true_eq] at hb2; omega))))
 repeat refine s_nx ?_
 by_cases hb3:60 < t.os.n
 ·rw [show decide ((60:Int) < (t.os.n:Int)) = true by simp; omega]
  unfold zAo.s1
  exact s_t (yes (.inr (.inr (.inl (by omega)))))
 rw [show decide ((60:Int) < (t.os.n:Int)) = false by simp; omega]
 simp only [decide_eq_false_iff_not] at hb hb2
 unfold zAo.s1
 repeat refine s_nx ?_
 refine zCm (α:=Int) (fun x=>∃ i:Nat,x = (i:Int)∧i ≤ t.reads.length∧∀ k ∈ t.reads.take i,k.length ≤ 200) (fun x=>t.reads.length - x.toNat) ⟨0,rfl,Nat.zero_le _,by simp⟩ fun k1 x hx hk1=>?_
 obtain ⟨i,rfl,hi,hs1⟩:=hx
 unfold zAo.b2
 repeat refine s_nx ?_
 refine s_ite (fun hc=>?_) fun hc=>?_
 ·have hil:i < t.reads.length:=by simp only [decide_eq_true_eq] at hc; omega
  have hge:t.reads[i]? = some t.reads[i]:=List.getElem?_eq_getElem hil
  have hmem:t.reads[i] ∈ t.reads:=List.getElem_mem hil
  have htk:t.reads.take (i + 1) = t.reads.take i++[t.reads[i]]:=List.take_succ_eq_append_getElem hil
  generalize t.reads[i] = x at hge hmem htk
  repeat refine s_nx ?_
  refine s_idxS (L:=t.reads) (fun w hw=>(hr w hw.tail).1) hge ?_
  have hsz:(bs x).size = x.length:=rfl
  refine s_ite (fun hd=>?_) fun hd=>?_
  ·exact yes (.inr (.inr (.inr (.inl ⟨x,hmem,by simp only [decide_eq_true_eq] at hd; omega⟩))))
  ·refine s_ai ?_
   refine hk1 _ ⟨i + 1,by simp,hil,fun y hy=>?_⟩ (by omega)
   rw [htk] at hy
   rcases List.mem_append.1 hy with hy | hy
   ·exact hs1 y hy
   ·rw [List.mem_singleton.1 hy]; simp only [decide_eq_false_iff_not] at hd; omega
 have hil:i = t.reads.length:=by simp only [decide_eq_false_iff_not] at hc; omega
 rw [hil,List.take_length] at hs1
 refine zCm (α:=Int) (fun x=>∃ i:Nat,x = (i:Int)∧i ≤ t.writes.length∧∀ k ∈ t.writes.take i,k.length ≤ 200) (fun x=>t.writes.length - x.toNat) ⟨0,rfl,Nat.zero_le _,by simp⟩ fun k2 x hx hk2=>?_
 obtain ⟨j,rfl,hj,hs2⟩:=hx
 unfold zAo.b3
 repeat refine s_nx ?_
 refine s_ite (fun hc2=>?_) fun hc2=>?_
 ·have hil:j < t.writes.length:=by simp only [decide_eq_true_eq] at hc2; omega
  have hge:t.writes[j]? = some t.writes[j]:=List.getElem?_eq_getElem hil
  have hmem:t.writes[j] ∈ t.writes:=List.getElem_mem hil
  have htk:t.writes.take (j + 1) = t.writes.take j++[t.writes[j]]:=List.take_succ_eq_append_getElem hil
  generalize t.writes[j] = x at hge hmem htk
  repeat refine s_nx ?_
  refine s_idxS (L:=t.writes) (fun w hw=>(hr w hw.tail).2.1) hge ?_
  have hsz:(bs x).size = x.length:=rfl
  refine s_ite (fun hd=>?_) fun hd=>?_
  ·exact yes (.inr (.inr (.inr (.inr (.inl ⟨x,hmem,by simp only [decide_eq_true_eq] at hd; omega⟩)))))
  ·refine s_ai ?_
   refine hk2 _ ⟨j + 1,by simp,hil,fun y hy=>?_⟩ (by omega)
   rw [htk] at hy
   rcases List.mem_append.1 hy with hy | hy
   ·exact hs2 y hy
   ·rw [List.mem_singleton.1 hy]; simp only [decide_eq_false_iff_not] at hd; omega
 have hjl:j = t.writes.length:=by simp only [decide_eq_false_iff_not] at hc2; omega
 rw [hjl,List.take_length] at hs2
 refine zCm (α:=Int) (fun x=>∃ i:Nat,x = (i:Int)∧i ≤ t.ops.length∧∀ y ∈ t.ops.take i,y.1.key.length ≤ 200∧y.1.val.length ≤ 200) (fun x=>t.ops.length - x.toNat) ⟨0,rfl,Nat.zero_le _,by simp⟩ fun k3 x hx hk3=>?_
 obtain ⟨m,rfl,hm,hs3⟩:=hx
 unfold zAo.b4
 repeat refine s_nx ?_
 refine s_ite (fun hc3=>?_) fun hc3=>?_
 ·have hil:m < t.ops.length:=by simp only [decide_eq_true_eq] at hc3; omega
  have hge:t.ops[m]? = some t.ops[m]:=List.getElem?_eq_getElem hil
  have hmem:t.ops[m] ∈ t.ops:=List.getElem_mem hil
  have htk:t.ops.take (m + 1) = t.ops.take m++[t.ops[m]]:=List.take_succ_eq_append_getElem hil
  generalize t.ops[m] = x at hge hmem htk
  repeat refine s_nx ?_
  refine zGS opF (off:=1) (c:=Value.string) (x:=x) (v:=bs x.1.key) zC4 (fun w hw=>(hr w hw.tail).2.2.1) hge rfl ?_
  have hsz:(bs x.1.key).size = x.1.key.length:=rfl
  unfold zAo.s5
  refine s_ite (fun hd=>?_) fun hd=>?_
  ·refine s_t ?_
   exact yes (.inr (.inr (.inr (.inr (.inr ⟨x,hmem,.inl (by simp only [decide_eq_true_eq] at hd; omega)⟩)))))
  ·repeat refine s_nx ?_
   refine fun w hw=>?_
   have hxl:x.2.n = x.1.val.length:=by have:=((hr w hw.tail).2.2.2 x hmem).len; simpa using this.symm
   refine Sep.hg hw ?_
   clear hw w
   refine zGS opF (off:=2) (c:=Sl.val) (x:=x) (v:=x.2) zC4 (fun w hw=>(hr w hw.tail).2.2.1) hge rfl ?_
   refine s_ite (fun he=>?_) fun he=>?_
   ·exact yes (.inr (.inr (.inr (.inr (.inr ⟨x,hmem,.inr (by simp only [decide_eq_true_eq] at he; omega)⟩)))))
   ·refine s_ai ?_
    refine hk3 _ ⟨m + 1,by simp,hil,fun y hy=>?_⟩ (by omega)
    rw [htk] at hy
    rcases List.mem_append.1 hy with hy | hy
    ·exact hs3 y hy
    ·rw [List.mem_singleton.1 hy]; simp only [decide_eq_false_iff_not] at hd he; omega
 ·have hml:m = t.ops.length:=by simp only [decide_eq_false_iff_not] at hc3; omega
  rw [hml,List.take_length] at hs3
  rw [show decide (GreatP t) = false by
   simp only [decide_eq_false_iff_not]
   rintro (g | g | g | ⟨k,hk,g⟩ | ⟨k,hk,g⟩ | ⟨x,hx,g⟩)
   ·omega
   ·omega
   ·omega
   ·have:=hs1 k hk; omega
   ·have:=hs2 k hk; omega
   ·have:=hs3 x hx; omega] at h
  exact s_end h
theorem zQl {a b:TxX} {Q:Bool→K} (ha:∀ w,Holds B Γ w→txRd w a) (hb:∀ w,Holds B Γ w→txRd w b) (hl:a.reads.length < 100000000∧a.writes.length < 100000000∧a.ops.length < 100000000) (h:HG B Γ (Q (decide (SameP a b)))):HG B Γ (zAr.call (txL a).toArray (txL b).toArray Q):=fun w hw=>by
 refine zM1 _ _ _ _ ?_
 obtain ⟨n1,n2,n3⟩:=zGT (ha w hw)
 obtain ⟨m1,m2,m3⟩:=zGT (hb w hw)
 refine Sep.hg hw ?_
 clear hw w
 unfold zAr
 refine s_new fun a2=>?_
 refine s_new fun b3=>?_
 have no:¬ SameP a b→HG B (blk b3 (.cells (txL b).toArray zAj (0,0))::blk a2 (.cells (txL a).toArray zAj (0,0))::Γ) (zAr.s1 Q ⟨a2,0,none⟩ ⟨b3,0,none⟩ true):=fun hn=>by
  rw [show decide (SameP a b) = false from decide_eq_false hn] at h
  unfold zAr.s1
  exact s_t (s_end h)
 repeat refine s_nx ?_
 refine s_ite (fun hc1=>no fun hs=>by simp [hs.1] at hc1) fun hc1=>?_
 repeat refine s_nx ?_
 refine s_ite (fun hc2=>no fun hs=>by simp [hs.2.1] at hc2) fun hc2=>?_
 repeat refine s_nx ?_
 refine zLA (La:=a.reads) (Lb:=b.reads) (by omega) (fun w hw=>(ha w hw.drops).1) (fun w hw=>(hb w hw.drops).1) ?_
 refine s_ite (fun hc3=>no fun hs=>by simp [hs.2.2.1] at hc3) fun hc3=>?_
 repeat refine s_nx ?_
 refine zLA (La:=a.writes) (Lb:=b.writes) (by omega) (fun w hw=>(ha w hw.drops).2.1) (fun w hw=>(hb w hw.drops).2.1) ?_
 refine s_ite (fun hc4=>no fun hs=>by simp [hs.2.2.2.1] at hc4) fun hc4=>?_
 repeat refine s_nx ?_
 by_cases hc5:a.os.n = b.os.n
 rotate_left
 ·rw [show decide ((a.os.n:Int) ≠ (b.os.n:Int)) = true by simp; omega]
  refine no fun hs=>?_
  have:=congrArg List.length hs.2.2.2.2
  simp only [List.length_map] at this
  omega
 rw [show decide ((a.os.n:Int) ≠ (b.os.n:Int)) = false by simp; omega]
 have hab:a.kind = b.kind∧a.to = b.to∧a.reads = b.reads∧a.writes = b.writes:=⟨by simpa using hc1,by simpa using hc2,by simpa using hc3,by simpa using hc4⟩
 have hll:a.ops.length = b.ops.length:=by omega
 unfold zAr.s1
 repeat refine s_nx ?_
 refine zCm (α:=Int) (fun x=>∃ i:Nat,x = (i:Int)∧i ≤ a.ops.length∧(a.ops.take i).map Prod.fst = (b.ops.take i).map Prod.fst) (fun x=>a.ops.length - x.toNat) ⟨0,rfl,Nat.zero_le _,by simp⟩ fun k' x hx hk'=>?_
 obtain ⟨i,rfl,hi,he⟩:=hx
 unfold zAr.b2
 repeat refine s_nx ?_
 refine s_ite (fun hc6=>?_) fun hc6=>?_
 ·have hil:i < a.ops.length:=by simp only [decide_eq_true_eq] at hc6; omega
  have hil2:i < b.ops.length:=by omega
  have t1:=List.take_succ_eq_append_getElem hil
  have t2:=List.take_succ_eq_append_getElem hil2
  have g1:a.ops[i]? = some a.ops[i]:=List.getElem?_eq_getElem hil
  have g2:b.ops[i]? = some b.ops[i]:=List.getElem?_eq_getElem hil2
  have m1':a.ops[i] ∈ a.ops:=List.getElem_mem hil
  have m2':b.ops[i] ∈ b.ops:=List.getElem_mem hil2
  generalize a.ops[i] = x at t1 g1 m1'
  generalize b.ops[i] = y at t2 g2 m2'
  have fin:∀ x6 y7,HG B (blk x6 (.cells (opF x).toArray zBA (0,0))::blk y7 (.cells (opF y).toArray zBA (0,0))::blk b3 (.cells (txL b).toArray zAj (0,0))::blk a2 (.cells (txL a).toArray zAj (0,0))::Γ) (zAr.s3 Q k' ⟨a2,0,none⟩ ⟨b3,0,none⟩ (i:Int) ⟨x6,0,none⟩ ⟨y7,0,none⟩):=fun x6 y7=>by
   have bad:x.1 ≠ y.1→HG B (blk x6 (.cells (opF x).toArray zBA (0,0))::blk y7 (.cells (opF y).toArray zBA (0,0))::blk b3 (.cells (txL b).toArray zAj (0,0))::blk a2 (.cells (txL a).toArray zAj (0,0))::Γ) (zAr.s4 Q k' ⟨a2,0,none⟩ ⟨b3,0,none⟩ (i:Int) true):=fun hne=>by
    have hn:¬ SameP a b:=fun hs=>by
     have:=congrArg (·[i]?) hs.2.2.2.2
     simp only [List.getElem?_map,g1,g2,Option.map_some,Option.some.injEq] at this
     exact hne this
    rw [show decide (SameP a b) = false from decide_eq_false hn] at h
    unfold zAr.s4
    exact s_t (s_end h)
   unfold zAr.s3
   repeat refine s_nx ?_
   refine s_ite (fun hd1=>bad fun e=>by simp [e] at hd1) fun hd1=>?_
   repeat refine s_nx ?_
   rw [zBa,zBa]
   refine s_ite (fun hd2=>bad fun e=>by simp [e] at hd2) fun hd2=>?_
   repeat refine s_nx ?_
   refine s_ite (fun hd3=>bad fun e=>by simp [e] at hd3) fun hd3=>?_
   repeat refine s_nx ?_
   refine s_str (xs:=x.1.val) (fun w hw=>(ha w hw.drops).2.2.2 x m1') ?_
   repeat refine s_nx ?_
   refine s_str (xs:=y.1.val) (fun w hw=>(hb w hw.drops).2.2.2 y m2') ?_
   rw [zBa,zBa]
   by_cases hd4:x.1.val = y.1.val
   rotate_left
   ·rw [show (!(x.1.val == y.1.val)) = true by simpa using hd4]
    exact bad fun e=>hd4 (by rw [e])
   rw [show (!(x.1.val == y.1.val)) = false by simpa using hd4]
   unfold zAr.s4
   repeat refine s_nx ?_
   refine s_ai ?_
   refine s_end (hk' _ ⟨i + 1,by simp,hil,?_⟩ (by omega))
   rw [t1,t2,List.map_append,List.map_append,he]
   have hxy:x.1 = y.1:=by
    obtain ⟨⟨x1,x2,x3,x4⟩,x5⟩:=x
    obtain ⟨⟨y1,y2,y3,y4⟩,y5⟩:=y
    simp only [OpM.mk.injEq] at hd4 ⊢
    exact ⟨by simpa using hd1,by simpa using hd2,hd4,by simpa using hd3⟩
   simp [hxy]
  refine s_dr ?_
  refine s_ws ?_
  repeat refine s_nx ?_
  refine zPM opF zC4 (by omega) (fun w hw=>(ha w hw.drops).2.2.1) (fun w hw=>(ha w hw.drops).2.2.1) g1 ?_
  repeat refine s_nx ?_
  refine zPM opF zC4 (by omega) (fun w hw=>(hb w hw.drops).2.2.1) (fun w hw=>(hb w hw.drops).2.2.1) g2 ?_
  refine s_all2 ?_ ?_
  ·refine s_new fun x6=>?_
   repeat refine s_nx ?_
   refine s_new fun y7=>?_
   repeat refine s_nx ?_
   exact s_end (fin x6 y7)
  ·refine s_new fun y7=>?_
   repeat refine s_nx ?_
   refine s_new fun x6=>?_
   repeat refine s_nx ?_
   exact s_end (fin x6 y7)
 ·have hil:i = a.ops.length:=by simp only [decide_eq_false_iff_not] at hc6; omega
  rw [hil,List.take_length,hll,List.take_length] at he
  rw [show decide (SameP a b) = true by simpa using ⟨hab.1,hab.2.1,hab.2.2.1,hab.2.2.2,he⟩] at h
  exact s_end h
end
end Go.Proofs.YtdemfamgieonbaaGreat
namespace Go.Proofs.YtdemfamgieonbaaGreat
open Go Go.Sep
set_option maxRecDepth 100000
section
variable {B w:World} {Γ:List HProp}
theorem r_byte {s:Sl} {xs:List UInt8} {j:Nat} {x:UInt8} {k:Int→K} (hr:RdB w s xs) (hx:xs[j]? = some x) (hk:k (x.toNat:Int) w):Idx s (j:Int) 1 (fun t=>Ld t (Value.int .u8) k) w:=by
 have e:xs.map byteV = (xs.map fun b=>(b.toNat:Int)).map (Value.int .u8):=by rw [List.map_map]; rfl
 have hr2:RdC w s 1 ((xs.map fun b=>(b.toNat:Int)).map (Value.int .u8)):=by rw [← e]; exact hr
 exact r_idx1 hr2 (by rw [List.getElem?_map,hx]; rfl) hk
theorem zQm {b n:Nat} {cs:Array Value} {xs:List UInt8} (hc:cs.toList = xs.map byteV) (hn:xs.length = n) (h:Holds B (blk b (.cells cs zAd (0,0))::Γ) w):Holds B (Bytes zAd ⟨some ⟨b,0,none⟩,n,n⟩ xs::Γ) w :=
 h.imp (zDk hc (by simp [hn]))
theorem Bytes.len {s:Sl} {xs:List UInt8} (h:Holds B (Bytes zAd s xs::Γ) w):xs.length = s.n:=by have:=h.slCap.1; simpa using this
theorem Bytes.rd {s:Sl} {xs:List UInt8} (h:Holds B Γ w) (hm:Bytes zAd s xs ∈ Γ):RdB w s xs:=h.rdC (E:=zAd) hm
end
end Go.Proofs.YtdemfamgieonbaaGreat
namespace Go.Proofs.YtdemfamgieonbaaGreat
open Go Go.Sep
set_option maxRecDepth 100000
set_option maxHeartbeats 4000000
attribute [local irreducible] G Gp Cx Tx Ex Sx Dx Ox Ax Lx Rx Fx Bx Bj Al Do Ld LdN St StN New CallF Ar DoU Rd Rd2 Pu Cd Ite Fv CallV CallY Ans0 Ans1 Ans2 Ans3 Ans4 Ans5 Ext Dead Dr WithS Sv LdS LdNS RdS Rd2S Nn Idx IdxA IdxS Fld Bld Slc SlcS Cat All LoopK RangeF RangeJ TakeD
namespace F_IRProg
instance at_123:AT Tryz.prog 123 4:=⟨by kernel_rfl⟩
instance at_25:AT Tryz.prog 25 5:=⟨by kernel_rfl⟩
instance cb_110:CB Tryz.prog 110:=⟨by kernel_rfl⟩
instance cb_114:CB Tryz.prog 114:=⟨by kernel_rfl⟩
instance cb_116:CB Tryz.prog 116:=⟨by kernel_rfl⟩
instance cb_117:CB Tryz.prog 117:=⟨by kernel_rfl⟩
instance cb_118:CB Tryz.prog 118:=⟨by kernel_rfl⟩
instance cb_119:CB Tryz.prog 119:=⟨by kernel_rfl⟩
instance cb_151:CB Tryz.prog 151:=⟨by kernel_rfl⟩
instance cb_152:CB Tryz.prog 152:=⟨by kernel_rfl⟩
instance cb_153:CB Tryz.prog 153:=⟨by kernel_rfl⟩
instance cb_168:CB Tryz.prog 168:=⟨by kernel_rfl⟩
instance cb_169:CB Tryz.prog 169:=⟨by kernel_rfl⟩
instance cb_171:CB Tryz.prog 171:=⟨by kernel_rfl⟩
instance ct_2:CT Tryz.prog 2:=⟨by kernel_rfl⟩
instance ct_22:CT Tryz.prog 22:=⟨by kernel_rfl⟩
instance ct_23:CT Tryz.prog 23:=⟨by kernel_rfl⟩
instance ct_3:CT Tryz.prog 3:=⟨by kernel_rfl⟩
instance ct_85:CT Tryz.prog 85:=⟨by kernel_rfl⟩
instance ct_9:CT Tryz.prog 9:=⟨by kernel_rfl⟩
instance zIB:FT Tryz.prog 123 0 0 1:=⟨by kernel_rfl⟩
instance zIC:FT Tryz.prog 123 1 1 1:=⟨by kernel_rfl⟩
instance zID:FT Tryz.prog 123 2 2 1:=⟨by kernel_rfl⟩
instance zIE:FT Tryz.prog 123 3 3 1:=⟨by kernel_rfl⟩
instance zGR:FT Tryz.prog 25 0 0 1:=⟨by kernel_rfl⟩
instance zPL:FT Tryz.prog 25 1 1 1:=⟨by kernel_rfl⟩
instance zHK:FT Tryz.prog 25 2 2 1:=⟨by kernel_rfl⟩
instance zJi:FT Tryz.prog 25 3 3 1:=⟨by kernel_rfl⟩
instance zJj:FT Tryz.prog 25 4 4 1:=⟨by kernel_rfl⟩
instance mx:MX Tryz.prog:=⟨mixed⟩
instance sl_22:SLT Tryz.prog 22 9 1:=⟨by kernel_rfl⟩
instance sl_23:SLT Tryz.prog 23 123 4:=⟨by kernel_rfl⟩
instance sl_314:SLT Tryz.prog 314 22 1:=⟨by kernel_rfl⟩
instance sl_85:SLT Tryz.prog 85 5 1:=⟨by kernel_rfl⟩
instance st_9:STT Tryz.prog 9:=⟨by kernel_rfl⟩
instance sz_123:SZ Tryz.prog 123 4:=⟨by kernel_rfl⟩
instance sz_22:SZ Tryz.prog 22 1:=⟨by kernel_rfl⟩
instance sz_23:SZ Tryz.prog 23 1:=⟨by kernel_rfl⟩
instance sz_25:SZ Tryz.prog 25 5:=⟨by kernel_rfl⟩
instance sz_85:SZ Tryz.prog 85 1:=⟨by kernel_rfl⟩
instance zt_123:ZT Tryz.prog 123 (.agg #[(.int .i64 0),(.string ⟨#[]⟩),(Sl.val ⟨none,0,0⟩),(.int .i64 0)]):=⟨Tryz.t123,by kernel_rfl,by kernel_rfl⟩
instance zt_22:ZT Tryz.prog 22 (Sl.val ⟨none,0,0⟩):=⟨Tryz.t22,by kernel_rfl,by kernel_rfl⟩
instance zt_25:ZT Tryz.prog 25 (.agg #[(.int .i64 0),(Sl.val ⟨none,0,0⟩),(Sl.val ⟨none,0,0⟩),(Sl.val ⟨none,0,0⟩),(.int .i64 0)]):=⟨Tryz.t25,by kernel_rfl,by kernel_rfl⟩
end F_IRProg
def zA6.s2 (Q:Int→K)  (ok5_2:Bool):K :=
 Ite (!ok5_2)
  (Q 1)
  (Q 0)
def zA6.s1 (Q:Int→K)  (regions1_1:Int) (t2_1:Addr) (ok5_1:Bool):K :=
 Ld t2_1 (Value.int .i64) fun t18 =>
 Ite (decide (t18 = 1))
  (Ite ok5_1
   (Ld (t2_1.add 4) (Value.int .i64) fun t25 =>
   Ite (decide (t25 = 0))
    (Ld (t2_1.add 3) Sl.val fun t30 =>
    Ite (decide ((t30.n:Int) ≤ 16))
     (Ld (t2_1.add 3) Sl.val fun t36 =>
     zBl.call t36 (.func (.func 115) #[] #[(.pointer (some t2_1))]) fun t38 =>
     zA6.s2 Q (!t38))
     (zA6.s2 Q false))
    (zA6.s2 Q false))
   (zA6.s2 Q false))
  (Ite (decide (t18 = 2))
   (Ite ok5_1
    (Ld (t2_1.add 1) Sl.val fun t46 =>
    Ite (decide ((t46.n:Int) = 0))
     (Ld (t2_1.add 3) Sl.val fun t52 =>
     Ite (decide ((t52.n:Int) = 0))
      (Ld (t2_1.add 2) Sl.val fun t58 =>
      Ite (decide ((t58.n:Int) = 1))
       (Ld (t2_1.add 4) (Value.int .i64) fun t64 =>
       Ite (decide ((0:Int) ≤ t64))
        (Ld (t2_1.add 4) (Value.int .i64) fun t69 =>
        zA6.s2 Q (decide (t69 < regions1_1)))
        (zA6.s2 Q false))
       (zA6.s2 Q false))
      (zA6.s2 Q false))
     (zA6.s2 Q false))
    (zA6.s2 Q false))
   (zA6.s2 Q false))
def zA6 (t0:(Array Value)) (regions1:Int) (Q:Int→K):K :=
 New 25 t0 fun t2 =>
 Ite (decide ((1:Int) ≤ regions1))
  (Ite (decide (regions1 ≤ 3))
   (LdN t2 5 fun t14 =>
   zBp.call t14 fun t15 =>
   zA6.s1 Q regions1 t2 t15)
   (zA6.s1 Q regions1 t2 false))
  (zA6.s1 Q regions1 t2 false)
theorem zM3 (t0:(Array Value)) (regions1:Int) (Q:Int→K) (w:World) (h:zA6 t0 regions1 Q w):zA6.call t0 regions1 Q w:=by
 have hJ9:JH 9 fun D=>D [] (fun C=>∀ (ok5_2:Bool),C [(5,(.bool ok5_2))] (zA6.s2 Q ok5_2)):=by intros; exact ⟨fun _ h=>⟨_,_,h⟩⟩
 have hJ2:JH 2 fun D=>∃ (regions1_1:Int) (t2_1:Addr),D [(1,(.int .i64 regions1_1)),(2,(.pointer (some t2_1)))] (fun C=>∀ (ok5_1:Bool),C [(1,(.int .i64 regions1_1)),(2,(.pointer (some t2_1))),(5,(.bool ok5_1))] (zA6.s1 Q regions1_1 t2_1 ok5_1)):=by intros; exact ⟨fun _ ⟨_,_,h⟩=>⟨_,_,h⟩⟩
 exact g_walk 75 h Tryz.func65
def zDO.b1 (Q:(Array Value)→K)  (X1:Int→K) (t1_1:Addr) (t2_1:Addr) (t18_1:Sl) (t19_1:Int) (t20_1:Int):K :=
 Ite (decide (t20_1 < t19_1))
  (Idx t18_1 t20_1 4 fun t23 =>
  LdN t23 4 fun t24 =>
  New 123 #[(.int .i64 0),(.string ⟨#[]⟩),(Sl.val ⟨none,0,0⟩),(.int .i64 0)] fun o4 =>
  StN o4 4 t24 <|
  Dr <| WithS fun S =>
  LdS S (t1_1.add 3) Sl.val fun t26 =>
  LdS S (o4.add 2) Sl.val fun t29 =>
  zBS.call t29 fun t30 =>
  Sv S <|
  Idx t26 t20_1 4 fun t31 =>
  St (t31.add 2) (Sl.val t30) <|
  Ar (IntKind.wrap .i64 (t20_1 + 1)) fun t33 =>
  X1 t33)
  (LdN t1_1 5 fun t34 =>
  StN t2_1 5 t34 <|
  LdN t2_1 5 fun r0 =>
  Q r0)
def zDO (t0:(Array Value)) (Q:(Array Value)→K):K :=
 New 25 t0 fun t1 =>
 New 25 #[(.int .i64 0),(Sl.val ⟨none,0,0⟩),(Sl.val ⟨none,0,0⟩),(Sl.val ⟨none,0,0⟩),(.int .i64 0)] fun t2 =>
 Dr <| WithS fun S =>
 LdS S (t1.add 1) Sl.val fun t6 =>
 LdS S (t1.add 2) Sl.val fun t9 =>
 LdS S (t1.add 3) Sl.val fun t12 =>
 zBd.call t6 fun t7 =>
 Sv S <|
 zBd.call t9 fun t10 =>
 Sv S <|
 zBt.call t12 fun t13 =>
 St (t1.add 1) (Sl.val t7) <|
 St (t1.add 2) (Sl.val t10) <|
 St (t1.add 3) (Sl.val t13) <|
 Ld (t1.add 3) Sl.val fun t18 =>
 LoopK (α:=Int) (fun X x=>zDO.b1 Q X t1 t2 t18 (t18.n:Int) x) 0
theorem zNt (t0:(Array Value)) (Q:(Array Value)→K) (w:World) (h:zDO t0 Q w):zDO.call t0 Q w:=by
 have hD5:DH 5 2 [8] (.s [0,2,3,1,4] (.a [(5,1,.s [6,7] (.a [(8,0,.e)]))])):=by intros; exact ⟨⟩
 have hL3:∀ (t1_1:Addr) (t2_1:Addr) (t18_1:Sl) (t19_1:Int),LH 3 (fun x:Int=>[(1,(.pointer (some t1_1))),(2,(.pointer (some t2_1))),(18,(Sl.val t18_1)),(19,(.int .i64 t19_1)),(20,(.int .i64 x))]) (fun X x=>zDO.b1 Q X t1_1 t2_1 t18_1 t19_1 x):=by intros; exact ⟨⟩
 have hD1:DH 1 2 [8,10,12,14] (.s [0,3,6,1,4,7] (.a [(2,1,.s [9] (.a [(5,1,.a [(8,0,.a [(10,0,.s [11] (.a [(12,0,.s [13] (.a [(14,0,.e)]))]))])])]))])):=by intros; exact ⟨⟩
 exact g_walk 35 h Tryz.func66
def zEF (t0:(Array Value)) (Q:Sl→K):K :=
 New 25 t0 fun t1 =>
 Ld (t1.add 1) Sl.val fun t5 =>
 Ld (t1.add 2) Sl.val fun t7 =>
 New 22 #[(Sl.val t5),(Sl.val t7)] fun t8 =>
 zAK.call (Sl.mk (some t8) 2 2) fun t9 =>
 zCC.call t9 <|
 zAG.call t9 fun t13 =>
 Q t13
theorem zNu (t0:(Array Value)) (Q:Sl→K) (w:World) (h:zEF t0 Q w):zEF.call t0 Q w:=by
 exact g_walk 14 h Tryz.func92
def zBp.s1 (Q:Bool→K)  (t1_1:Addr) (t28_1:Bool):K :=
 Ite t28_1
  (Q false)
  (Ld (t1_1.add 1) Sl.val fun t30 =>
  zBm.call t30 (.func (.func 170) #[] #[(.pointer (some t1_1))]) fun t32 =>
  Q (!t32))
def zBp (t0:(Array Value)) (Q:Bool→K):K :=
 New 25 t0 fun t1 =>
 Ld (t1.add 1) Sl.val fun t4 =>
 Ite (decide ((8:Int) < (t4.n:Int)))
  (zBp.s1 Q t1 true)
  (Ld (t1.add 2) Sl.val fun t9 =>
  Ld (t1.add 1) Sl.val fun t12 =>
  Ar (IntKind.wrap .i64 (8 - (t12.n:Int))) fun t14 =>
  Ite (decide (t14 < (t9.n:Int)))
   (zBp.s1 Q t1 true)
   (Ld (t1.add 1) Sl.val fun t19 =>
   zBg.call t19 fun t20 =>
   Ite (!t20)
    (zBp.s1 Q t1 true)
    (Ld (t1.add 2) Sl.val fun t25 =>
    zBg.call t25 fun t26 =>
    zBp.s1 Q t1 (!t26))))
theorem zKV (t0:(Array Value)) (Q:Bool→K) (w:World) (h:zBp t0 Q w):zBp.call t0 Q w:=by
 have hJ2:JH 2 fun D=>∃ (t1_1:Addr),D [(1,(.pointer (some t1_1)))] (fun C=>∀ (t28_1:Bool),C [(1,(.pointer (some t1_1))),(28,(.bool t28_1))] (zBp.s1 Q t1_1 t28_1)):=by intros; exact ⟨fun _ ⟨_,h⟩=>⟨_,_,h⟩⟩
 exact g_walk 34 h Tryz.func114
def zFY (o0:(Array Value)) (t1:Addr) (Q:Bool→K):K :=
 New 123 o0 fun o2 =>
 LdN t1 5 fun t4 =>
 LdN o2 4 fun t5 =>
 zAn.call t4 t5 fun t6 =>
 Q (!t6)
theorem zLB (o0:(Array Value)) (t1:Addr) (Q:Bool→K) (w:World) (h:zFY o0 t1 Q w):zFY.call o0 t1 Q w:=by
 exact g_walk 8 h Tryz.func115
def zAn.s4 (Q:Bool→K)  (t4_4:Bool):K :=
 Q t4_4
def zAn.s6 (Q:Bool→K)  (t4_6:Bool):K :=
 Q t4_6
def zAn.s5 (Q:Bool→K)  (o3_5:Addr) (known6_5:Bool) (t35_5:Int) (t52_5:Bool):K :=
 Ite t52_5
  (Ite known6_5
   (Ld (o3_5.add 2) Sl.val fun t58 =>
   zAn.s6 Q (decide ((t58.n:Int) = 0)))
   (zAn.s6 Q false))
  (Ite (decide (t35_5 = 7))
   (Ld (o3_5.add 1) Value.string fun t65 =>
   Q (t65.toList == (⟨#[]⟩:ByteArray).toList))
   (Q false))
def zAn.s3 (Q:Bool→K)  (o3_3:Addr) (written5_3:Bool) (known6_3:Bool) (t35_3:Int) (t39_3:Bool):K :=
 Ite t39_3
  (Ite written5_3
   (Ld (o3_3.add 2) Sl.val fun t45 =>
   zAn.s4 Q (decide ((t45.n:Int) = 0)))
   (zAn.s4 Q false))
  (Ite (decide (t35_3 = 4))
   (Q known6_3)
   (Ite (decide (t35_3 = 1))
    (zAn.s5 Q o3_3 known6_3 t35_3 (decide (t35_3 = 1)))
    (zAn.s5 Q o3_3 known6_3 t35_3 (decide (t35_3 = 5)))))
def zAn.s2 (Q:Bool→K)  (o3_2:Addr) (written5_2:Bool) (known6_2:Bool):K :=
 Ld o3_2 (Value.int .i64) fun t35 =>
 Ite (decide (t35 = 2))
  (Q written5_2)
  (Ite (decide (t35 = 3))
   (zAn.s3 Q o3_2 written5_2 known6_2 t35 (decide (t35 = 3)))
   (zAn.s3 Q o3_2 written5_2 known6_2 t35 (decide (t35 = 6))))
def zAn.s1 (Q:Bool→K)  (t2_1:Addr) (o3_1:Addr) (t20_1:Bool):K :=
 Ite t20_1
  (Q false)
  (Ld (t2_1.add 2) Sl.val fun t22 =>
  Ld (o3_1.add 1) Value.string fun t24 =>
  zBF.call t22 t24 fun t25 =>
  Ite t25
   (zAn.s2 Q o3_1 true true)
   (Ld (t2_1.add 1) Sl.val fun t29 =>
   Ld (o3_1.add 1) Value.string fun t31 =>
   zBF.call t29 t31 fun t32 =>
   zAn.s2 Q o3_1 false t32))
def zAn (t0:(Array Value)) (o1:(Array Value)) (Q:Bool→K):K :=
 New 25 t0 fun t2 =>
 New 123 o1 fun o3 =>
 Ld (o3.add 2) Sl.val fun t8 =>
 Ite (decide ((32:Int) < (t8.n:Int)))
  (zAn.s1 Q t2 o3 true)
  (Ld (o3.add 3) (Value.int .i64) fun t13 =>
  Ite (decide (t13 ≠ 0))
   (Ld o3 (Value.int .i64) fun t17 =>
   zAn.s1 Q t2 o3 (decide (t17 ≠ 6)))
   (zAn.s1 Q t2 o3 false))
theorem zNv (t0:(Array Value)) (o1:(Array Value)) (Q:Bool→K) (w:World) (h:zAn t0 o1 Q w):zAn.call t0 o1 Q w:=by
 have hJ1000010:JH 1000010 fun D=>D [] (fun C=>∀ (t4_4:Bool),C [(4,(.bool t4_4))] (zAn.s4 Q t4_4)):=by intros; exact ⟨fun _ h=>⟨_,_,h⟩⟩
 have hJ1000015:JH 1000015 fun D=>D [] (fun C=>∀ (t4_6:Bool),C [(4,(.bool t4_6))] (zAn.s6 Q t4_6)):=by intros; exact ⟨fun _ h=>⟨_,_,h⟩⟩
 have hJ15:JH 15 fun D=>∃ (o3_5:Addr) (t35_5:Int),D [(3,(.pointer (some o3_5))),(35,(.int .i64 t35_5))] (fun C=>∀ (known6_5:Bool) (t52_5:Bool),C [(3,(.pointer (some o3_5))),(6,(.bool known6_5)),(35,(.int .i64 t35_5)),(52,(.bool t52_5))] (zAn.s5 Q o3_5 known6_5 t35_5 t52_5)):=by intros; exact ⟨fun _ ⟨_,_,h⟩=>⟨_,_,h⟩⟩
 have hJ10:JH 10 fun D=>∃ (o3_3:Addr) (t35_3:Int),D [(3,(.pointer (some o3_3))),(35,(.int .i64 t35_3))] (fun C=>∀ (written5_3:Bool) (known6_3:Bool) (t39_3:Bool),C [(3,(.pointer (some o3_3))),(5,(.bool written5_3)),(6,(.bool known6_3)),(35,(.int .i64 t35_3)),(39,(.bool t39_3))] (zAn.s3 Q o3_3 written5_3 known6_3 t35_3 t39_3)):=by intros; exact ⟨fun _ ⟨_,_,h⟩=>⟨_,_,h⟩⟩
 have hJ5:JH 5 fun D=>∃ (o3_2:Addr),D [(3,(.pointer (some o3_2)))] (fun C=>∀ (written5_2:Bool) (known6_2:Bool),C [(3,(.pointer (some o3_2))),(5,(.bool written5_2)),(6,(.bool known6_2))] (zAn.s2 Q o3_2 written5_2 known6_2)):=by intros; exact ⟨fun _ ⟨_,h⟩=>⟨_,_,h⟩⟩
 have hJ2:JH 2 fun D=>∃ (t2_1:Addr) (o3_1:Addr),D [(2,(.pointer (some t2_1))),(3,(.pointer (some o3_1)))] (fun C=>∀ (t20_1:Bool),C [(2,(.pointer (some t2_1))),(3,(.pointer (some o3_1))),(20,(.bool t20_1))] (zAn.s1 Q t2_1 o3_1 t20_1)):=by intros; exact ⟨fun _ ⟨_,_,h⟩=>⟨_,_,h⟩⟩
 exact g_walk 67 h Tryz.func116
def zBg.s2 (Q:Bool→K) (X1:Int→K) (keys0_2:Sl) (t5_2:Sl) (t6_2:Int) (t7_2:Int) (t31_2:Bool):K :=
 Ite t31_2
  (Q false)
  (Ar (IntKind.wrap .i64 (t7_2 + 1)) fun t32 =>
  X1 t32)
def zBg.b1 (Q:Bool→K)  (X1:Int→K) (keys0_1:Sl) (t5_1:Sl) (t6_1:Int) (t7_1:Int):K :=
 Ite (decide (t7_1 < t6_1))
  (Idx t5_1 t7_1 1 fun t10 =>
  Ld t10 Value.string fun t11 =>
  Ite (t11.toList == (⟨#[]⟩:ByteArray).toList)
   (zBg.s2 Q X1 keys0_1 t5_1 t6_1 t7_1 true)
   (Ite (decide ((16:Int) < (t11.size:Int)))
    (zBg.s2 Q X1 keys0_1 t5_1 t6_1 t7_1 true)
    (Ite (decide ((0:Int) < t7_1))
     (Ar (IntKind.wrap .i64 (t7_1 - 1)) fun t25 =>
     Idx keys0_1 t25 1 fun t26 =>
     Ld t26 Value.string fun t27 =>
     zBg.s2 Q X1 keys0_1 t5_1 t6_1 t7_1 (!(Op.bytesLess t27.toList t11.toList)))
     (zBg.s2 Q X1 keys0_1 t5_1 t6_1 t7_1 false))))
  (Q true)
def zBg (keys0:Sl) (Q:Bool→K):K :=
 LoopK (α:=Int) (fun X x=>zBg.b1 Q X keys0 keys0 (keys0.n:Int) x) 0
theorem zM4 (keys0:Sl) (Q:Bool→K) (w:World) (h:zBg keys0 Q w):zBg.call keys0 Q w:=by
 have hJ5:∀ (X1:Int→K),XH 2 X1→JH 5 fun D=>∃ (keys0_2:Sl) (t5_2:Sl) (t6_2:Int) (t7_2:Int),D [(0,(Sl.val keys0_2)),(5,(Sl.val t5_2)),(6,(.int .i64 t6_2)),(7,(.int .i64 t7_2))] (fun C=>∀ (t31_2:Bool),C [(0,(Sl.val keys0_2)),(5,(Sl.val t5_2)),(6,(.int .i64 t6_2)),(7,(.int .i64 t7_2)),(31,(.bool t31_2))] (zBg.s2 Q X1 keys0_2 t5_2 t6_2 t7_2 t31_2)):=by intros; exact ⟨fun _ ⟨_,_,_,_,h⟩=>⟨_,_,h⟩⟩
 have hL2:∀ (keys0_1:Sl) (t5_1:Sl) (t6_1:Int),LH 2 (fun x:Int=>[(0,(Sl.val keys0_1)),(5,(Sl.val t5_1)),(6,(.int .i64 t6_1)),(7,(.int .i64 x))]) (fun X x=>zBg.b1 Q X keys0_1 t5_1 t6_1 x):=by intros; exact ⟨⟩
 exact g_walk 33 h Tryz.func168
def zES (k0:ByteArray) (t1:Addr) (Q:Bool→K):K :=
 Ld (t1.add 2) Sl.val fun t5 =>
 zBF.call t5 k0 fun t7 =>
 Q t7
theorem zI3 (k0:ByteArray) (t1:Addr) (Q:Bool→K) (w:World) (h:zES k0 t1 Q w):zES.call k0 t1 Q w:=by
 exact g_walk 8 h Tryz.func170
end Go.Proofs.YtdemfamgieonbaaGreat
namespace Go.Proofs.YtdemfamgieonbaaGreat
open Go Go.Sep
set_option maxRecDepth 100000
set_option maxHeartbeats 4000000
attribute [local irreducible] G Gp Cx Tx Ex Sx Dx Ox Ax Lx Rx Fx Bx Bj Al Do Ld LdN St StN New CallF Ar DoU Rd Rd2 Pu Cd Ite Fv CallV CallY Ans0 Ans1 Ans2 Ans3 Ans4 Ans5 Ext Dead Dr WithS Sv LdS LdNS RdS Rd2S Nn Idx IdxA IdxS Fld Bld Slc SlcS Cat All LoopK RangeF RangeJ TakeD
namespace F_IRLibBytes
instance mx:MX Tryz.prog:=⟨mixed⟩
instance sl_85:SLT Tryz.prog 85 5 1:=⟨by kernel_rfl⟩
instance un_85:UN Tryz.prog 85 (.slice 5):=⟨Tryz.underlying85⟩
instance zt_5:ZT Tryz.prog 5 (.int .u8 0):=⟨Tryz.t5,by kernel_rfl,by kernel_rfl⟩
end F_IRLibBytes
def zBS (b0:Sl) (Q:Sl→K):K :=
 Ite ((b0).a.isNone)
  (Q (Sl.mk none 0 0))
  (New 5 #[] fun t5 =>
  Do Tryz.prog (Builtin.append_ #[85,85] 85 #[(Sl.val (Sl.mk (some t5) 0 0)),(Sl.val b0)]) Sl.val fun t7 =>
  Q t7)
theorem zFr (b0:Sl) (Q:Sl→K) (w:World) (h:zBS b0 Q w):zBS.call b0 Q w:=by
 exact g_walk 8 h Tryz.func110
def bytes_Equal (a0:Sl) (b1:Sl) (Q:Bool→K):K :=
 Rd Tryz.prog (convert 85 9 (Sl.val a0)) Value.string fun t6 =>
 Rd Tryz.prog (convert 85 9 (Sl.val b1)) Value.string fun t8 =>
 Q (t6.toList == t8.toList)
theorem zLn (a0:Sl) (b1:Sl) (Q:Bool→K) (w:World) (h:bytes_Equal a0 b1 Q w):bytes_Equal.call a0 b1 Q w:=by
 exact g_walk 10 h Tryz.func225
end Go.Proofs.YtdemfamgieonbaaGreat
namespace Go.Proofs.YtdemfamgieonbaaGreat
open Go Go.Sep
set_option maxRecDepth 100000
abbrev opB (x:OpX):HProp:=Bytes zAd x.2 x.1.val
abbrev txC (t:TxX) (Γ:List HProp):List HProp:=SlS t.rs t.reads::SlS t.ws t.writes::SlC zBA 4 t.os (t.ops.flatMap opF)::Sep.stars (t.ops.map opB)::Γ
abbrev TxIs (a b:TxX):Prop:=SameP a b
section
variable {B:World} {Γ Δ:List HProp} {k:K}
theorem zMW {α:Type} {F:α→HProp} {l:List α} {x:α} {w:World} (hx:x ∈ l) (h:Holds B (Sep.stars (l.map F)::Γ) w):∃ Δ,Holds B (F x::Δ) w:=by
 obtain ⟨i,hi⟩:=List.getElem?_of_mem hx
 exact ⟨_,zPr i hi h⟩
theorem txC_rd {t:TxX} {w:World} (h:Holds B (txC t Γ) w):txRd w t :=
 ⟨(own_rd (s:=t.rs) h).1,(own_rd (s:=t.ws) h).1,(own_rd (s:=t.os) h).1,fun x hx=>by
  obtain ⟨Δ,hd⟩:=zMW (F:=opB) hx h.tail.tail.tail
  exact hd.rdC (E:=zAd) List.mem_cons_self⟩
theorem zEj {E T esz:Nat} {us:List Value} {s:Sl} {Q:Sl→K} (hr:∀ w,Holds B Γ w→RdC w s esz us) (hfl:∀ u ∈ us,flatV u = true) (hroom:us.length ≤ 100000000) (he:0 < esz) (h:∀ s',s'.n = s.n→HG B (SlC E esz s' us::Γ) (Q s')) (hT:appT Tryz.prog T T E esz = true:=by kernel_rfl) :
  HG B Γ (Ite s.a.isNone (Q (Sl.mk none 0 0)) (New E #[] fun t5=>Do Tryz.prog (Builtin.append_ #[T,T] T #[Sl.val (Sl.mk (some t5) 0 0),s.val]) Sl.val fun t7=>Q t7)):=fun w hw=>by
 have hrw:=hr w hw
 have hl:=hrw.len
 have hsn:s.n ≤ us.length:=by rw [hl]; exact Nat.le_mul_of_pos_right _ he
 refine Sep.hg hw ?_
 clear hw
 refine s_ite (fun hb=>?_) fun hb=>?_
 ·have ha:s.a = none:=by cases hs:s.a with
   | none=>rfl
   | some a=>rw [hs] at hb; cases hb
  have hn:s.n = 0:=hrw.nil ha
  have hus:us = []:=List.length_eq_zero_iff.1 (by rw [hl,hn,Nat.zero_mul])
  refine fun w2 hw2=>h ⟨none,0,0⟩ hn.symm w2 ?_
  rw [hus]
  exact hw2.nilSl E esz
 ·refine s_new fun t5=>?_
  refine s_conv (A':=SlC E esz ⟨some ⟨t5,0,none⟩,0,0⟩ []) (zDk (vs:=[]) rfl (by simp)) ?_
  refine zBJ (s:=⟨some ⟨t5,0,none⟩,0,0⟩) (us:=us) (fun w hw=>hr w hw.drops) hfl (by simp only; omega) (hT:=hT) fun s' hs'=>?_
  exact h s' (by simp only at hs'; omega)
theorem zQn {s:Sl} {xs:List UInt8} {Q:Sl→K} (hr:∀ w,Holds B Γ w→RdB w s xs) (hl:xs.length ≤ 90000000) (h:∀ s',HG B (Bytes zAd s' xs::Γ) (Q s')):HG B Γ (zBS.call s Q):=fun w hw=>by
 refine zFr _ _ _ ?_
 refine Sep.hg hw ?_
 clear hw w
 unfold zBS
 exact zEj (us:=xs.map byteV) hr (zFV _) (by rw [List.length_map]; omega) (by omega) fun s' _=>h s'
theorem zMX {s:Sl} {L:List TX} {Q:Sl→K} (hr:∀ w,Holds B Γ w→RdC w s 1 (L.map strV)) (hl:L.length ≤ 90000000) (h:∀ s',HG B (SlS s' L::Γ) (Q s')):HG B Γ (zBd.call s Q):=fun w hw=>by
 refine zFR _ _ _ ?_
 refine Sep.hg hw ?_
 clear hw w
 unfold zBd
 exact zEj (us:=L.map strV) hr (fun v hv=>by obtain ⟨y,_,rfl⟩:=List.mem_map.1 hv; rfl) (by rw [List.length_map]; omega) (by omega) fun s' _=>h s'
theorem zSC (L:List OpX):∀ v ∈ L.flatMap opF,flatV v = true:=fun v hv=>by
 obtain ⟨x,_,hx⟩:=List.mem_flatMap.1 hv
 simp only [opF,List.mem_cons,List.not_mem_nil,or_false] at hx
 rcases hx with rfl | rfl | rfl | rfl <;> rfl
theorem zQo {s:Sl} {L:List OpX} {Q:Sl→K} (hr:∀ w,Holds B Γ w→RdC w s 4 (L.flatMap opF)) (hl:L.length ≤ 20000000) (h:∀ s',HG B (SlC zBA 4 s' (L.flatMap opF)::Γ) (Q s')):HG B Γ (zBt.call s Q):=fun w hw=>by
 refine zFS _ _ _ ?_
 refine Sep.hg hw ?_
 clear hw w
 unfold zBt
 exact zEj (us:=L.flatMap opF) hr (zSC L) (by rw [zAL _ 4 zC4]; omega) (by omega) fun s' _=>h s'
theorem zGF {α:Type} {f:α→List Value} {esz:Nat} (hf:∀ x,(f x).length = esz):∀ {L:List α} {i off:Nat} {x y:α} {v:Value},L[i]? = some x→off < esz→(f x).set off v = f y→(L.flatMap f).set (i * esz + off) v = (L.set i y).flatMap f
 | [],i,off,x,y,v,hx,_,_=>by simp at hx
 | z::L,0,off,x,y,v,hx,ho,hy=>by
  have hzx:z = x:=by simpa using hx
  subst hzx
  rw [Nat.zero_mul,Nat.zero_add,List.flatMap_cons,List.set_cons_zero,List.flatMap_cons,List.set_append_left _ _ (by rw [hf]; exact ho),hy]
 | z::L,i + 1,off,x,y,v,hx,ho,hy=>by
  have ih:=zGF hf (L:=L) (i:=i) (by simpa using hx) ho hy
  rw [List.flatMap_cons,List.set_cons_succ,List.flatMap_cons,← ih,List.set_append_right _ _ (by rw [hf,Nat.succ_mul]; omega),hf]
  congr 2
  rw [Nat.succ_mul]; omega
theorem zJl {t:TxX} {Q:Array Value→K} (hr:∀ w,Holds B Γ w→txRd w t) (hl:t.reads.length ≤ 1000∧t.writes.length ≤ 1000∧t.ops.length ≤ 1000∧∀ x ∈ t.ops,x.1.val.length ≤ 1000000) (h:∀ t',TxIs t' t→HG B (txC t' Γ) (Q (txL t').toArray)):HG B Γ (zDO.call (txL t).toArray Q):=fun w hw=>by
 refine zNt _ _ _ ?_
 refine Sep.hg hw ?_
 clear hw w
 obtain ⟨hl1,hl2,hl3,hl4⟩:=hl
 unfold zDO
 refine s_new fun t1=>?_
 refine s_new fun t2=>?_
 repeat refine s_nx ?_
 refine zMX (fun w hw=>(hr w hw.drops).1) (by omega) fun rs=>?_
 refine s_sv ?_
 refine zMX (fun w hw=>(hr w hw.drops).2.1) (by omega) fun ws=>?_
 refine s_sv ?_
 refine zQo (fun w hw=>(hr w hw.drops).2.2.1) (by omega) fun os=>?_
 repeat refine s_nx ?_
 refine fun w hw=>Sep.hg (show Holds B (Sep.stars (([]:List OpX).map opB)::_) w from hw.starsNil) ?_
 clear hw w
 refine s_cap os fun a1 a2 a3 a4=>?_
 rw [zAL _ 4 zC4] at a1
 refine s_end (Δ:=SlC zBA 4 os (t.ops.flatMap opF)::Sep.stars (([]:List OpX).map opB)::blk t1 (.cells [.int .i64 t.kind,rs.val,ws.val,os.val,.int .i64 t.to].toArray zAj (0,0))::blk t2 (.cells [.int .i64 0,Sl.val ⟨none,0,0⟩,Sl.val ⟨none,0,0⟩,Sl.val ⟨none,0,0⟩,.int .i64 0].toArray zAj (0,0))::SlS ws t.writes::SlS rs t.reads::Γ) ?_
 refine s_loop (α:=Int) (ι:=Nat×List OpX) (fun x i=>x = (i.1:Int)∧i.1 ≤ t.ops.length∧i.2.map Prod.fst = t.ops.map Prod.fst∧i.2.drop i.1 = t.ops.drop i.1)
  (fun x i=>SlC zBA 4 os (i.2.flatMap opF)::Sep.stars ((i.2.take i.1).map opB)::blk t1 (.cells [.int .i64 t.kind,rs.val,ws.val,os.val,.int .i64 t.to].toArray zAj (0,0))::blk t2 (.cells [.int .i64 0,Sl.val ⟨none,0,0⟩,Sl.val ⟨none,0,0⟩,Sl.val ⟨none,0,0⟩,.int .i64 0].toArray zAj (0,0))::SlS ws t.writes::SlS rs t.reads::Γ)
  (fun x i=>t.ops.length - i.1) (0,t.ops) ⟨rfl,Nat.zero_le _,rfl,rfl⟩ ?_
 rintro k' _ ⟨i,L⟩ ⟨rfl,hi,hm,hd⟩ hk'
 simp only at hi hm hd hk' ⊢
 have hLl:L.length = t.ops.length:=by have:=congrArg List.length hm; simpa using this
 unfold zDO.b1
 refine s_ite (fun hb=>?_) fun hb=>?_
 ·have hil:i < t.ops.length:=by simp only [decide_eq_true_eq] at hb; omega
  have hge:L[i]? = some t.ops[i]:=by
   have:=congrArg (·[0]?) hd
   simp only [List.getElem?_drop,Nat.add_zero] at this
   rw [this,List.getElem?_eq_getElem hil]
  have hmem:t.ops[i] ∈ t.ops:=List.getElem_mem hil
  generalize t.ops[i] = x at hge hmem
  have hvl:=hl4 x hmem
  refine s_idxN opF zC4 (fun w hw=>(own_rd (s:=os) hw).1) hge ?_
  refine s_new fun o4=>?_
  repeat refine s_nx ?_
  refine zQn (xs:=x.1.val) (fun w hw=>(hr w hw.drops).2.2.2 x hmem) (by omega) fun vs=>?_
  repeat refine s_nx ?_
  refine s_idx (s:=os) (i:=i) ?_
  refine s_stE (s:=os) ?_ (by rw [zAL _ 4 zC4]; omega)
  rw [zGF (y:=((x.1,vs):OpX)) zC4 hge (by omega) rfl]
  refine s_ai ?_
  have hA:(L.set i (x.1,vs)).map Prod.fst = t.ops.map Prod.fst:=by
   rw [← hm,List.map_set]
   refine List.ext_getElem? fun j=>?_
   rw [List.getElem?_set]
   split
   ·rename_i hij
    subst hij
    split
    ·simp [hge]
    ·rename_i hj; simp only [List.length_map] at hj; omega
   ·rfl
  have hB:(L.set i (x.1,vs)).drop (i + 1) = t.ops.drop (i + 1):=by
   rw [List.drop_set_of_lt (by omega),← List.drop_drop,hd,List.drop_drop]
  have h:=hk' ((i:Int) + 1) (i + 1,L.set i (x.1,vs)) ⟨by simp,hil,hA,hB⟩ (by simp only; omega)
  have ht:(L.set i (x.1,vs)).take (i + 1) = L.take i++[((x.1,vs):OpX)]:=by
   have hx:(L.set i (x.1,vs))[i]? = some (x.1,vs):=by rw [List.getElem?_set_self (by omega)]
   rw [List.take_add_one,hx,List.take_set_of_le (Nat.le_refl _)]
   rfl
  simp only at h
  rw [ht] at h
  have:=zCS (F:=opB) (A:=L.take i) (C:=[]) (x:=((x.1,vs):OpX)) (Γ:=SlC zBA 4 os ((L.set i (x.1,vs)).flatMap opF)::blk t1 (.cells [.int .i64 t.kind,rs.val,ws.val,os.val,.int .i64 t.to].toArray zAj (0,0))::blk t2 (.cells [.int .i64 0,Sl.val ⟨none,0,0⟩,Sl.val ⟨none,0,0⟩,Sl.val ⟨none,0,0⟩,.int .i64 0].toArray zAj (0,0))::SlS ws t.writes::SlS rs t.reads::Γ) (s_end h)
  rw [List.append_nil] at this
  exact s_end this
 ·have hil:i = t.ops.length:=by simp only [decide_eq_false_iff_not] at hb; omega
  rw [hil,← hLl,List.take_length]
  repeat refine s_nx ?_
  have:=h ⟨t.kind,t.reads,t.writes,L,t.to,rs,ws,os⟩ ⟨rfl,rfl,rfl,rfl,hm⟩
  exact s_end this
theorem zLo {t:TxX} {Q:Sl→K} (hr1:∀ w,Holds B Γ w→RdC w t.rs 1 (t.reads.map strV)) (hr2:∀ w,Holds B Γ w→RdC w t.ws 1 (t.writes.map strV)) (hl:t.reads.length ≤ 400000) (hl2:t.writes.length ≤ 400000) (h:∀ s,HG B (SlS s (keysT (t.reads++t.writes))::Γ) (Q s)):HG B Γ (zEF.call (txL t).toArray Q):=fun w hw=>by
 refine zNu _ _ _ ?_
 refine Sep.hg hw ?_
 clear hw w
 unfold zEF
 refine s_new fun t1=>?_
 repeat refine s_nx ?_
 refine s_new fun t8=>?_
 refine zPz (La:=t.reads) (Lb:=t.writes) (by omega) (by omega) (fun w hw=>hr1 w hw.drops) (fun w hw=>hr2 w hw.drops) fun s=>?_
 have hln:(t.reads++t.writes).length = t.reads.length + t.writes.length:=List.length_append
 refine fun w hw=>zGh (by omega) hw fun w hw=>?_
 refine Sep.hg hw ?_
 clear hw w
 refine zPy (by rw [zMV]; omega) fun s'=>?_
 have:=h s'
 unfold keysT at this
 exact s_end this
end
end Go.Proofs.YtdemfamgieonbaaGreat
namespace Go.Proofs.YtdemfamgieonbaaGreat
open Go Go.Sep
set_option maxRecDepth 100000
def opRight (t:TxX) (o:OpM):Bool :=
 if 32 < o.val.length∨o.kind < 1∨7 < o.kind then false
 else if o.kind = 7 then decide (o.key = []) && decide (o.n = 0)
 else if o.key ∉ t.writes∧(o.key ∉ t.reads∨o.kind = 2∨o.kind = 3∨o.kind = 6) then false
 else if o.kind ≠ 6∧o.n ≠ 0 then false
 else decide (o.kind = 2) || (decide (o.kind = 4) || decide (o.val.length = 0))
abbrev Rises (L:List TX):Prop:=L.Pairwise (· < ·)
abbrev headBad (n:Int) (t:TxX):Prop:=n < 1∨3 < n∨¬ Rises t.reads∨¬ Rises t.writes∨8 < t.reads.length∨8 < t.writes.length∨8 < t.reads.length + t.writes.length
abbrev keysBad (t:TxX):Prop:=(∃ k ∈ t.reads++t.writes,k.length < 1∨16 < k.length)∨∃ k ∈ t.reads,k ∈ t.writes
def rightT (n:Int) (t:TxX):Bool :=
 if headBad n t then false
 else if keysBad t then false
 else if t.kind = 2 then decide (t.reads.length = 0) && (decide (t.ops.length = 0) && (decide (t.writes.length = 1) && (decide (0 ≤ t.to) && decide (t.to < n))))
 else if t.kind ≠ 1∨t.to ≠ 0∨16 < t.ops.length then false
 else t.ops.all fun x=>opRight t x.1
theorem zIF {a b:TxX} (h:SameP a b) (n:Int):rightT n a = rightT n b:=by
 obtain ⟨h1,h2,h3,h4,h5⟩:=h
 have hl:a.ops.length = b.ops.length:=by have:=congrArg List.length h5; simpa using this
 have ho:(a.ops.all fun x=>opRight a x.1) = (b.ops.all fun x=>opRight b x.1):=by
  have e:∀ o,opRight a o = opRight b o:=fun o=>by unfold opRight; rw [h3,h4]
  have e2:∀ (t:TxX),(t.ops.all fun x=>opRight b x.1) = ((t.ops.map Prod.fst).all fun o=>opRight b o):=fun t=>by rw [List.all_map]; rfl
  simp only [e]
  rw [e2 a,e2 b,h5]
 unfold rightT headBad keysBad
 rw [h1,h2,h3,h4,hl,ho]
theorem zG0 {α β:Type} (f:α→β) (L:List α):L.flatMap (fun x=>[f x]) = L.map f:=by induction L <;> simp_all
section
variable {B:World} {Γ Δ:List HProp} {k:K}
theorem s_ldA0 {α:Type} {a:Addr} {cs:List Value} {c:α→Value} {x:α} {k:α→K} (hn:∀ w,Holds B Γ w→RdN w a cs.toArray) (hv:cs[0]? = some (c x)) (h:HG B Γ (k x)):HG B Γ (Ld a c k):=fun w hw=>⟨x,by
 have:=hn w hw 0 (by have:=(List.getElem?_eq_some_iff.1 hv).1; simpa using this)
 rw [add0] at this
 rw [this]; simpa using hv,h w hw⟩
theorem s_ldSA {Γ0:List HProp} {α:Type} {a:Addr} {off:Nat} {cs:List Value} {c:α→Value} {x:α} {k:α→K} (hn:∀ w,Holds B Γ0 w→RdN w a cs.toArray) (hv:cs[off]? = some (c x)) (h:HG B Γ (k x)):HG B Γ (LdS (Holds B Γ0) (a.add off) c k):=fun w hw=>⟨x,fun w' hw'=>by
 have:=hn w' hw' off (by have:=(List.getElem?_eq_some_iff.1 hv).1; simpa using this)
 rw [this]; simpa using hv,h w hw⟩
theorem zTW {Γ0:List HProp} {α:Type} {a:Addr} {cs:List Value} {c:α→Value} {x:α} {k:α→K} (hn:∀ w,Holds B Γ0 w→RdN w a cs.toArray) (hv:cs[0]? = some (c x)) (h:HG B Γ (k x)):HG B Γ (LdS (Holds B Γ0) a c k):=by
 have:=s_ldSA (off:=0) hn hv h
 rwa [add0] at this
theorem zFs {α:Type} (f:α→List Value) {esz:Nat} {L:List α} {s:Sl} {j:Nat} {jj:Int} {x:α} {k:Addr→K} (hf:∀ x,(f x).length = esz) (he:0 < esz) (hr:∀ w,Holds B Γ w→RdC w s esz (L.flatMap f)) (hx:L[j]? = some x) (h:∀ t,(∀ w,RdC w s esz (L.flatMap f)→RdN w t (f x).toArray)→HG B Γ (k t)) (hj:jj = (j:Int):=by first | rfl | omega) :
  HG B Γ (Idx s jj esz k):=fun w hw=>by
 subst hj
 have hrw:=hr w hw
 have hj:j < L.length:=(List.getElem?_eq_some_iff.1 hx).1
 have hn:L.length = s.n:=by
  have:=hrw.len; rw [zAL f esz hf] at this
  exact Nat.eq_of_mul_eq_mul_right he this
 cases ha:s.a with
 | none=>have:=hrw.nil ha; omega
 | some a =>
  refine ⟨a,_,ha,by omega,by omega,rfl,h _ (fun w' hw'=>?_) w hw⟩
  simp only [Int.toNat_natCast]
  exact zJN f esz hf hw' ha hx
theorem zKF {s:Sl} {L:List TX} {Q:Bool→K} (hL:L.length < 1000000000) (hr:∀ w,Holds B Γ w→RdC w s 1 (L.map strV)) (h:HG B Γ (Q (decide (Rises L)))):HG B Γ (zCe.call s Q):=fun w hw=>by
 refine zK9 _ _ _ ?_
 have hn:s.n = L.length:=by have:=(hr w hw).len; simpa using this.symm
 refine Sep.hg hw ?_
 clear hw w
 unfold zCe
 refine zCm (α:=Int) (fun x=>∃ i:Nat,x = (i:Int)∧1 ≤ i∧i ≤ L.length + 1∧Rises (L.take i)) (fun x=>L.length + 1 - x.toNat) ⟨1,rfl,Nat.le_refl _,by omega,?_⟩ fun k' x hx hk'=>?_
 ·match L with
  | []=>exact List.Pairwise.nil
  | x::L=>exact List.pairwise_singleton _ _
 obtain ⟨i,rfl,hi1,hi,hp⟩:=hx
 unfold zCe.b1
 refine s_ite (fun hb=>?_) fun hb=>?_
 ·have hil:i < L.length:=by simp only [decide_eq_true_eq] at hb; omega
  obtain ⟨j,rfl⟩:∃ j,i = j + 1:=⟨i - 1,by omega⟩
  have g1:L[j]? = some L[j]:=List.getElem?_eq_getElem (by omega)
  have g2:L[j + 1]? = some L[j + 1]:=List.getElem?_eq_getElem hil
  have t1:L.take (j + 1) = L.take j++[L[j]]:=List.take_succ_eq_append_getElem (by omega)
  have t2:L.take (j + 1 + 1) = L.take (j + 1)++[L[j + 1]]:=List.take_succ_eq_append_getElem hil
  have hpi:Rises L→L[j] < L[j + 1]:=fun h=>(List.pairwise_iff_getElem.1 h) j (j + 1) (by omega) hil (by omega)
  generalize L[j] = x at g1 t1 hpi
  generalize L[j + 1] = y at g2 t2 hpi
  refine s_dr ?_
  refine s_ai ?_
  refine s_idxS hr g1 ?_ (by omega)
  refine s_idxS hr g2 ?_ (by omega)
  rw [zBa,zBa,zDr]
  refine s_ite (fun hc=>?_) fun hc=>?_
  ·have hxy:¬ x < y:=by simpa using hc
   rw [show decide (Rises L) = false from decide_eq_false fun h=>hxy (hpi h)] at h
   exact h
  ·have hxy:x < y:=by simpa using hc
   refine s_ai ?_
   refine hk' _ ⟨j + 2,by simp; omega,by omega,by omega,?_⟩ (by omega)
   rw [show j + 2 = j + 1 + 1 from rfl,t2]
   refine List.pairwise_append.2 ⟨hp,List.pairwise_singleton _ _,fun a ha b hb=>?_⟩
   rw [List.mem_singleton.1 hb]
   rw [t1] at ha hp
   rcases List.mem_append.1 ha with ha | ha
   ·exact List.lt_trans ((List.pairwise_append.1 hp).2.2 a ha x (by simp)) hxy
   ·rw [List.mem_singleton.1 ha]; exact hxy
 ·have hil:L.length ≤ i:=by simp only [decide_eq_false_iff_not] at hb; omega
  rw [List.take_of_length_le hil] at hp
  rw [show decide (Rises L) = true from decide_eq_true hp] at h
  exact h
theorem zTX {t:TxX} {x:OpX} {Q:Bool→K} (hr:∀ w,Holds B Γ w→txRd w t) (hl:t.reads.length < 100000000∧t.writes.length < 100000000) (hx:∀ w,Holds B Γ w→RdB w x.2 x.1.val) (h:HG B Γ (Q (opRight t x.1))):HG B Γ (zA1.call (txL t).toArray (opF x).toArray Q):=fun w hw=>by
 refine zOg _ _ _ _ ?_
 have hxl:x.2.n = x.1.val.length:=by have:=(hx w hw).len; simpa using this.symm
 refine Sep.hg hw ?_
 clear hw w
 unfold zA1
 refine s_new fun t2=>?_
 refine s_new fun o3=>?_
 have fin:HG B (blk o3 (.cells (opF x).toArray zBA (0,0))::blk t2 (.cells (txL t).toArray zAj (0,0))::Γ) (Q (opRight t x.1)):=s_end h
 generalize hR:opRight t x.1 = R at fin
 unfold opRight at hR
 have S4:∀ b,(b = true ↔ x.1.kind ≠ 6∧x.1.n ≠ 0)→(if x.1.kind ≠ 6∧x.1.n ≠ 0 then false else decide (x.1.kind = 2) || (decide (x.1.kind = 4) || decide (x.1.val.length = 0))) = R→HG B (blk o3 (.cells (opF x).toArray zBA (0,0))::blk t2 (.cells (txL t).toArray zAj (0,0))::Γ) (zA1.s4 Q ⟨o3,0,none⟩ b):=fun b hb hR=>by
  unfold zA1.s4 zA1.s5
  refine s_ite (fun hb1=>?_) fun hb1=>?_
  ·rw [if_pos (hb.1 hb1)] at hR
   rw [hR]; exact fin
  ·rw [if_neg fun h=>by rw [hb.2 h] at hb1; cases hb1] at hR
   repeat refine s_nx ?_
   refine s_ite (fun hc=>?_) fun hc=>?_
   ·rw [hc] at hR
    rw [show true = R by rw [← hR]; rfl]; exact fin
   ·repeat refine s_nx ?_
    rw [hc] at hR
    refine s_ite (fun hd=>?_) fun hd=>?_
    ·rw [hd] at hR
     rw [show true = R by rw [← hR]; rfl]; exact fin
    ·repeat refine s_nx ?_
     rw [hd] at hR
     rw [show decide ((x.2.n:Int) = 0) = R by rw [← hR,hxl]; simp only [Bool.false_or]; exact decide_eq_decide.2 (by omega)]
     exact fin
 have S3:∀ b,(b = true ↔ x.1.key ∉ t.writes∧(x.1.key ∉ t.reads∨x.1.kind = 2∨x.1.kind = 3∨x.1.kind = 6))→(if x.1.key ∉ t.writes∧(x.1.key ∉ t.reads∨x.1.kind = 2∨x.1.kind = 3∨x.1.kind = 6) then false else if x.1.kind ≠ 6∧x.1.n ≠ 0 then false else decide (x.1.kind = 2) || (decide (x.1.kind = 4) || decide (x.1.val.length = 0))) = R→HG B (blk o3 (.cells (opF x).toArray zBA (0,0))::blk t2 (.cells (txL t).toArray zAj (0,0))::Γ) (zA1.s3 Q ⟨o3,0,none⟩ b):=fun b hb hR=>by
  unfold zA1.s3
  refine s_ite (fun hb1=>?_) fun hb1=>?_
  ·rw [if_pos (hb.1 hb1)] at hR
   rw [hR]; exact fin
  ·rw [if_neg fun h=>by rw [hb.2 h] at hb1; cases hb1] at hR
   repeat refine s_nx ?_
   refine s_ite (fun hc=>?_) fun hc=>?_
   ·have hc':x.1.kind ≠ 6:=by simpa using hc
    repeat refine s_nx ?_
    exact S4 _ (by simp [hc']) hR
   ·have hc':x.1.kind = 6:=by simpa using hc
    exact S4 _ (by simp [hc']) hR
 have S1:∀ b,(b = true ↔ 32 < x.1.val.length∨x.1.kind < 1∨7 < x.1.kind)→HG B (blk o3 (.cells (opF x).toArray zBA (0,0))::blk t2 (.cells (txL t).toArray zAj (0,0))::Γ) (zA1.s1 Q ⟨t2,0,none⟩ ⟨o3,0,none⟩ b):=fun b hb=>by
  unfold zA1.s1 zA1.s2
  refine s_ite (fun hb1=>?_) fun hb1=>?_
  ·rw [if_pos (hb.1 hb1)] at hR
   rw [hR]; exact fin
  ·rw [if_neg fun h=>by rw [hb.2 h] at hb1; cases hb1] at hR
   repeat refine s_nx ?_
   refine s_ite (fun hc=>?_) fun hc=>?_
   ·have hc':x.1.kind = 7:=by simpa using hc
    rw [if_pos hc'] at hR
    repeat refine s_nx ?_
    rw [zBa]
    refine s_ite (fun hd=>?_) fun hd=>?_
    ·have hd':x.1.key = []:=by simpa using hd
     repeat refine s_nx ?_
     rw [show decide (x.1.n = 0) = R by rw [← hR,hd']; rfl]
     exact fin
    ·have hd':x.1.key ≠ []:=by simpa using hd
     rw [show false = R by rw [← hR,decide_eq_false hd']; rfl]
     exact fin
   ·have hc':x.1.kind ≠ 7:=by simpa using hc
    rw [if_neg hc'] at hR
    repeat refine s_nx ?_
    refine zJk (L:=t.writes) (key:=x.1.key) (by omega) (fun w hw=>(hr w hw.drops).2.1) ?_
    by_cases hw1:x.1.key ∈ t.writes
    ·rw [decide_eq_true hw1]
     refine s_f ?_
     exact S3 _ (by simp [hw1]) hR
    rw [decide_eq_false hw1]
    refine s_t ?_
    repeat refine s_nx ?_
    refine zJk (L:=t.reads) (key:=x.1.key) (by omega) (fun w hw=>(hr w hw.drops).1) ?_
    by_cases hr1:x.1.key ∈ t.reads
    ·rw [decide_eq_true hr1]
     refine s_f ?_
     repeat refine s_nx ?_
     refine s_ite (fun hd=>?_) fun hd=>?_
     ·exact S3 _ (by
              have:x.1.kind = 2:=by simpa using hd
              simp [hw1,this]) hR
     repeat refine s_nx ?_
     refine s_ite (fun he=>?_) fun he=>?_
     ·exact S3 _ (by
              have:x.1.kind = 3:=by simpa using he
              simp [hw1,this]) hR
     repeat refine s_nx ?_
     refine S3 _ ?_ hR
     have h2:¬ x.1.kind = 2:=by simpa using hd
     have h3:¬ x.1.kind = 3:=by simpa using he
     simp [hw1,hr1,h2,h3]
    ·rw [decide_eq_false hr1]
     refine s_t ?_
     exact S3 _ (by simp [hw1,hr1]) hR
 repeat refine s_nx ?_
 refine s_ite (fun hb=>?_) fun hb=>?_
 ·exact S1 _ (by
          have:32 < x.1.val.length:=by simp only [decide_eq_true_eq] at hb; omega
          simp [this])
 have h32:¬ 32 < x.1.val.length:=by simp only [decide_eq_false_iff_not] at hb; omega
 repeat refine s_nx ?_
 refine s_ite (fun hc=>?_) fun hc=>?_
 ·exact S1 _ (by
          have:x.1.kind < 1:=by simpa using hc
          simp [this])
 have h1:¬ x.1.kind < 1:=by simpa using hc
 repeat refine s_nx ?_
 refine S1 _ ?_
 simp [h32,h1]
theorem zP1 {t:TxX} {n:Int} {Q:Bool→K} (hr:∀ w,Holds B Γ w→txRd w t) (hl:t.reads.length < 10000000∧t.writes.length < 10000000∧t.ops.length < 10000000) (h:HG B Γ (Q (rightT n t))):HG B Γ (zAJ.call (txL t).toArray n Q):=fun w hw=>by
 refine zLm _ _ _ _ ?_
 obtain ⟨n1,n2,n3⟩:=zGT (hr w hw)
 refine Sep.hg hw ?_
 clear hw w
 unfold zAJ
 refine s_new fun t2=>?_
 have fin:HG B (blk t2 (.cells (txL t).toArray zAj (0,0))::Γ) (Q (rightT n t)):=s_end h
 generalize hR:rightT n t = R at fin
 unfold rightT at hR
 have S1:∀ b,(b = true ↔ headBad n t)→HG B (blk t2 (.cells (txL t).toArray zAj (0,0))::Γ) (zAJ.s1 Q n ⟨t2,0,none⟩ b):=fun b hb=>by
  unfold zAJ.s1
  refine s_ite (fun hb1=>?_) fun hb1=>?_
  ·rw [if_pos (hb.1 hb1)] at hR
   rw [hR]; exact fin
  rw [if_neg fun h=>by rw [hb.2 h] at hb1; cases hb1] at hR
  refine s_dr ?_
  refine s_wsD [blk t2 (.cells (txL t).toArray zAj (0,0))] ?_
  repeat refine s_nx ?_
  refine s_new fun t9=>?_
  refine s_conv (A':=SlC zBy 1 ⟨some ⟨t9,0,none⟩,0,0⟩ []) (zDk (vs:=[]) rfl (by simp)) ?_
  repeat refine s_nx ?_
  refine zBJ (s:=⟨some ⟨t9,0,none⟩,0,0⟩) (us:=t.reads.map strV) (fun w hw=>(hr w hw.drops).1) (fun v hv=>by obtain ⟨y,_,rfl⟩:=List.mem_map.1 hv; rfl) (by simp only; omega) fun a1 ha1=>?_
  repeat refine s_nx ?_
  refine zBJ (s:=a1) (us:=t.writes.map strV) (fun w hw=>(hr w hw.drops).2.1) (fun v hv=>by obtain ⟨y,_,rfl⟩:=List.mem_map.1 hv; rfl) (by simp only at ha1; omega) fun all hall=>?_
  rw [show []++t.reads.map strV++t.writes.map strV = (t.reads++t.writes).map strV by simp]
  have hln:(t.reads++t.writes).length = t.reads.length + t.writes.length:=List.length_append
  have halln:all.n = t.reads.length + t.writes.length:=by simp only at ha1; omega
  have fin2:HG B (SlS all (t.reads++t.writes)::blk t2 (.cells (txL t).toArray zAj (0,0))::Γ) (Q R):=s_end fin
  refine zCm (α:=Int) (fun x=>∃ i:Nat,x = (i:Int)∧i ≤ (t.reads++t.writes).length∧(∀ k ∈ (t.reads++t.writes).take i,1 ≤ k.length∧k.length ≤ 16)∧∀ k ∈ t.reads.take i,k ∉ t.writes) (fun x=>(t.reads++t.writes).length - x.toNat) ⟨0,rfl,Nat.zero_le _,by simp,by simp⟩ fun k1 x hx hk1=>?_
  obtain ⟨i,rfl,hi,hs1,hs2⟩:=hx
  unfold zAJ.b2
  refine s_ite (fun hc=>?_) fun hc=>?_
  ·have hil:i < (t.reads++t.writes).length:=by simp only [decide_eq_true_eq] at hc; omega
   have hge:(t.reads++t.writes)[i]? = some (t.reads++t.writes)[i]:=List.getElem?_eq_getElem hil
   have hmem:(t.reads++t.writes)[i] ∈ t.reads++t.writes:=List.getElem_mem hil
   have htk:(t.reads++t.writes).take (i + 1) = (t.reads++t.writes).take i++[(t.reads++t.writes)[i]]:=List.take_succ_eq_append_getElem hil
   have hrt:t.reads.take (i + 1) = t.reads.take i++if i < t.reads.length then [(t.reads++t.writes)[i]] else []:=by
    by_cases hir:i < t.reads.length
    ·rw [if_pos hir,List.take_succ_eq_append_getElem hir,List.getElem_append_left hir]
    ·rw [if_neg hir,List.take_of_length_le (by omega),List.take_of_length_le (by omega),List.append_nil]
   generalize (t.reads++t.writes)[i] = x at hge hmem htk hrt
   have hsz:(bs x).size = x.length:=rfl
   have S3:∀ b,(b = true ↔ (x.length < 1∨16 < x.length)∨(i < t.reads.length∧x ∈ t.writes))→HG B (SlS all (t.reads++t.writes)::blk t2 (.cells (txL t).toArray zAj (0,0))::Γ) (zAJ.s3 Q k1 n ⟨t2,0,none⟩ all (i:Int) b):=fun b hb=>by
    unfold zAJ.s3
    refine s_ite (fun hb1=>?_) fun hb1=>?_
    ·have:keysBad t:=by
      rcases hb.1 hb1 with h | ⟨h,h'⟩
      ·exact .inl ⟨x,hmem,h⟩
      ·refine .inr ⟨x,?_,h'⟩
       rw [List.getElem?_append_left h] at hge
       exact List.mem_of_getElem? hge
     rw [if_pos this] at hR
     rw [hR]; exact fin2
    ·have hnb:¬ ((x.length < 1∨16 < x.length)∨(i < t.reads.length∧x ∈ t.writes)):=fun h=>by rw [hb.2 h] at hb1; cases hb1
     refine s_ai ?_
     refine hk1 _ ⟨i + 1,by simp,hil,fun y hy=>?_,fun y hy=>?_⟩ (by omega)
     ·rw [htk] at hy
      rcases List.mem_append.1 hy with hy | hy
      ·exact hs1 y hy
      ·rw [List.mem_singleton.1 hy]; omega
     ·rw [hrt] at hy
      rcases List.mem_append.1 hy with hy | hy
      ·exact hs2 y hy
      ·split at hy
       ·rename_i hir
        rw [List.mem_singleton.1 hy]
        exact fun hxw=>hnb (.inr ⟨hir,hxw⟩)
       ·cases hy
   refine s_dr ?_
   refine s_idxS (L:=t.reads++t.writes) (fun w hw=>(own_rd (s:=all) hw).1) hge ?_
   refine s_ite (fun hd=>?_) fun hd=>?_
   ·exact S3 _ (by
            have:x.length < 1:=by simp only [decide_eq_true_eq] at hd; omega
            simp [this])
   refine s_idxS (L:=t.reads++t.writes) (fun w hw=>(own_rd (s:=all) hw).1) hge ?_
   have hd':¬ x.length < 1:=by simp only [decide_eq_false_iff_not] at hd; omega
   refine s_ite (fun he=>?_) fun he=>?_
   ·exact S3 _ (by
            have:16 < x.length:=by simp only [decide_eq_true_eq] at he; omega
            simp [this])
   have he':¬ 16 < x.length:=by simp only [decide_eq_false_iff_not] at he; omega
   repeat refine s_nx ?_
   refine s_ite (fun hf=>?_) fun hf=>?_
   ·have hir:i < t.reads.length:=by simp only [decide_eq_true_eq] at hf; omega
    refine zFs (fun x:TX=>[strV x]) (L:=t.reads++t.writes) (esz:=1) (fun _=>rfl) (by omega) (fun w hw=>by rw [zG0]; exact (own_rd (s:=all) hw).1) hge (fun t86 ht86=>?_) rfl
    repeat refine s_nx ?_
    refine s_ldA0 (cs:=[strV x]) (x:=bs x) (fun w hw=>ht86 w (by rw [zG0]; exact (own_rd (s:=all) hw).1)) rfl ?_
    refine zJk (L:=t.writes) (key:=x) (by omega) (fun w hw=>(hr w hw.drops).2.1) ?_
    exact S3 _ (by
            rw [decide_eq_true_eq]; constructor
            ·exact fun h=>.inr ⟨hir,h⟩
            ·rintro ((h | h) | h)
             ·exact absurd h hd'
             ·exact absurd h he'
             ·exact h.2)
   ·have hir:¬ i < t.reads.length:=by simp only [decide_eq_false_iff_not] at hf; omega
    exact S3 _ (by
            constructor
            ·exact fun h=>by cases h
            ·rintro ((h | h) | h)
             ·exact absurd h hd'
             ·exact absurd h he'
             ·exact absurd h.1 hir)
  have hil:i = (t.reads++t.writes).length:=by simp only [decide_eq_false_iff_not] at hc; omega
  rw [hil,List.take_length] at hs1
  rw [List.take_of_length_le (by omega)] at hs2
  rw [if_neg (by
   rintro (⟨k,hk,h⟩ | ⟨k,hk,h⟩)
   ·have:=hs1 k hk; omega
   ·exact hs2 k hk h)] at hR
  have S4:∀ b,b = R→HG B (SlS all (t.reads++t.writes)::blk t2 (.cells (txL t).toArray zAj (0,0))::Γ) (zAJ.s4 Q k1 b):=fun b hb=>by
   unfold zAJ.s4
   rw [hb]; exact fin2
  repeat refine s_nx ?_
  refine s_ite (fun hd=>?_) fun hd=>?_
  ·have hk2:t.kind = 2:=by simpa using hd
   rw [if_pos hk2] at hR
   repeat refine s_nx ?_
   refine s_ite (fun he=>?_) fun he=>?_
   rotate_left
   ·refine S4 _ ?_
    rw [← hR,show decide (t.reads.length = 0) = false from decide_eq_false (by simp only [decide_eq_false_iff_not] at he; omega)]; rfl
   rw [show decide (t.reads.length = 0) = true from decide_eq_true (by simp only [decide_eq_true_eq] at he; omega),Bool.true_and] at hR
   repeat refine s_nx ?_
   refine s_ite (fun he2=>?_) fun he2=>?_
   rotate_left
   ·refine S4 _ ?_
    rw [← hR,show decide (t.ops.length = 0) = false from decide_eq_false (by simp only [decide_eq_false_iff_not] at he2; omega)]; rfl
   rw [show decide (t.ops.length = 0) = true from decide_eq_true (by simp only [decide_eq_true_eq] at he2; omega),Bool.true_and] at hR
   repeat refine s_nx ?_
   refine s_ite (fun he3=>?_) fun he3=>?_
   rotate_left
   ·refine S4 _ ?_
    rw [← hR,show decide (t.writes.length = 1) = false from decide_eq_false (by simp only [decide_eq_false_iff_not] at he3; omega)]; rfl
   rw [show decide (t.writes.length = 1) = true from decide_eq_true (by simp only [decide_eq_true_eq] at he3; omega),Bool.true_and] at hR
   repeat refine s_nx ?_
   refine s_ite (fun he4=>?_) fun he4=>?_
   rotate_left
   ·refine S4 _ ?_
    rw [← hR,he4]; rfl
   rw [he4,Bool.true_and] at hR
   repeat refine s_nx ?_
   exact S4 _ hR
  have hk2:¬ t.kind = 2:=by simpa using hd
  rw [if_neg hk2] at hR
  have S5:∀ b,(b = true ↔ t.kind ≠ 1∨t.to ≠ 0∨16 < t.ops.length)→HG B (SlS all (t.reads++t.writes)::blk t2 (.cells (txL t).toArray zAj (0,0))::Γ) (zAJ.s5 Q k1 ⟨t2,0,none⟩ b):=fun b hb=>by
   unfold zAJ.s5
   refine s_ite (fun hb1=>?_) fun hb1=>?_
   ·rw [if_pos (hb.1 hb1)] at hR
    rw [hR]; exact fin2
   rw [if_neg fun h=>by rw [hb.2 h] at hb1; cases hb1] at hR
   refine zCm (α:=Int) (fun x=>∃ i:Nat,x = (i:Int)∧i ≤ t.ops.length∧((t.ops.take i).all fun x=>opRight t x.1) = true) (fun x=>t.ops.length - x.toNat) ⟨0,rfl,Nat.zero_le _,by simp⟩ fun k6 x hx hk6=>?_
   obtain ⟨m,rfl,hm,hs3⟩:=hx
   unfold zAJ.b6
   repeat refine s_nx ?_
   refine s_ite (fun hc6=>?_) fun hc6=>?_
   ·have hml:m < t.ops.length:=by simp only [decide_eq_true_eq] at hc6; omega
    have hge:t.ops[m]? = some t.ops[m]:=List.getElem?_eq_getElem hml
    have hmem:t.ops[m] ∈ t.ops:=List.getElem_mem hml
    have htk:t.ops.take (m + 1) = t.ops.take m++[t.ops[m]]:=List.take_succ_eq_append_getElem hml
    generalize t.ops[m] = x at hge hmem htk
    repeat refine s_nx ?_
    refine s_idxN opF zC4 (fun w hw=>(hr w hw.drops).2.2.1) hge ?_
    refine zTX (t:=t) (x:=x) (fun w hw=>hr w hw.drops) ⟨by omega,by omega⟩ (fun w hw=>(hr w hw.drops).2.2.2 x hmem) ?_
    by_cases ho:opRight t x.1 = true
    ·rw [ho]
     refine s_f ?_
     refine s_ai ?_
     refine hk6 _ ⟨m + 1,by simp,hml,?_⟩ (by omega)
     rw [htk,List.all_append,hs3]; simpa using ho
    ·have ho':opRight t x.1 = false:=by simpa using ho
     rw [ho']
     refine s_t ?_
     rw [show false = R by rw [← hR]; symm; rw [List.all_eq_false]; exact ⟨x,hmem,by simpa using ho'⟩]
     exact fin2
   ·have hml:m = t.ops.length:=by simp only [decide_eq_false_iff_not] at hc6; omega
    rw [hml,List.take_length] at hs3
    rw [show true = R by rw [← hR,hs3]]
    exact fin2
  repeat refine s_nx ?_
  refine s_ite (fun he=>?_) fun he=>?_
  ·exact S5 _ (by
           have:t.kind ≠ 1:=by simpa using he
           simp [this])
  have hk1':t.kind = 1:=by simpa using he
  repeat refine s_nx ?_
  refine s_ite (fun hf=>?_) fun hf=>?_
  ·exact S5 _ (by
           have:t.to ≠ 0:=by simpa using hf
           simp [this])
  have hto:t.to = 0:=by simpa using hf
  repeat refine s_nx ?_
  refine S5 _ ?_
  simp [hk1',hto]
  omega
 refine s_ite (fun hb=>S1 _ (by
                  have:n < 1:=by simpa using hb
                  simp [headBad,this])) fun hb=>?_
 have hn1:¬ n < 1:=by simpa using hb
 refine s_ite (fun hb=>S1 _ (by
                  have:3 < n:=by simpa using hb
                  simp [headBad,this])) fun hb=>?_
 have hn3:¬ 3 < n:=by simpa using hb
 repeat refine s_nx ?_
 refine zKF (L:=t.reads) (by omega) (fun w hw=>(hr w hw.drops).1) ?_
 by_cases hr1:Rises t.reads
 rotate_left
 ·rw [decide_eq_false hr1]
  exact s_t (S1 _ (by simp [headBad,hr1]))
 rw [decide_eq_true hr1]
 refine s_f ?_
 repeat refine s_nx ?_
 refine zKF (L:=t.writes) (by omega) (fun w hw=>(hr w hw.drops).2.1) ?_
 by_cases hr2:Rises t.writes
 rotate_left
 ·rw [decide_eq_false hr2]
  exact s_t (S1 _ (by simp [headBad,hr2]))
 rw [decide_eq_true hr2]
 refine s_f ?_
 repeat refine s_nx ?_
 refine s_ite (fun hb=>S1 _ (by
                  have:8 < t.reads.length:=by simp only [decide_eq_true_eq] at hb; omega
                  simp [headBad,this])) fun hb=>?_
 have h8:¬ 8 < t.reads.length:=by simp only [decide_eq_false_iff_not] at hb; omega
 repeat refine s_nx ?_
 refine s_ite (fun hb=>S1 _ (by
                  have:8 < t.writes.length:=by simp only [decide_eq_true_eq] at hb; omega
                  simp [headBad,this])) fun hb=>?_
 have h9:¬ 8 < t.writes.length:=by simp only [decide_eq_false_iff_not] at hb; omega
 repeat refine s_nx ?_
 refine s_ar (e':=(t.reads.length + t.writes.length:Int)) (by rw [wrap64 (by omega) (by omega)]; omega) ?_
 refine S1 _ ?_
 simp only [headBad,hn1,hn3,hr1,hr2,h8,h9,not_true,false_or,decide_eq_true_eq]
 omega
end
end Go.Proofs.YtdemfamgieonbaaGreat
namespace Go.Sep
open Go Go.RowKit
namespace Bt
structure BtT (κ:Type) where
 P:Program
 tI:Nat
 tSI:Nat
 tV:Nat
 tK:Nat
 tSK:Nat
 tN:Nat
 tT:Nat
 nv:Nat
 kz:Value
 vz:List Value
 kV:κ→Value
 cv:Value
 bsC:Sl→κ→Value→(Int→Bool→K)→K
 nsearchC:Option Addr→κ→(Int→Bool→K)→K
 nputC:Option Addr→Array Value→(Array Value→Bool→Option Addr→Option Addr→K)→K
 insIC:Sl→Int→Sl→(Sl→K)→K
 insKC:Sl→Int→Sl→(Sl→K)→K
 cloneIC:Sl→(Sl→K)→K
 cloneKC:Sl→(Sl→K)→K
section
variable {κ:Type}
def tnew (G:BtT κ)  (Q:(Option Addr)→K):K :=
 New G.tN #[(Sl.val ⟨none,0,0⟩),(Sl.val ⟨none,0,0⟩)] fun t2 =>
 New G.tT #[(.pointer (some t2)),(.int .i64 0)] fun t4 =>
 Q (some t4)
def nsearch (G:BtT κ) (n0:(Option Addr)) (key1:κ) (Q:Int→Bool→K):K :=
 Nn n0 fun t7 =>
 Ld t7 Sl.val fun t9 =>
 G.bsC t9 key1 G.cv fun t11x0 t11x1 =>
 Q t11x0 t11x1
def zPN (G:BtT κ) (Q:(Array Value)→Bool→K)  (X1:(Option Addr)→K) (key1_1:κ) (value4_1:Addr) (n6_1:(Option Addr)):K :=
 G.nsearchC n6_1 key1_1 fun t16x0 t16x1 =>
 Ite t16x1
  (Nn n6_1 fun t21 =>
  Ld t21 Sl.val fun t23 =>
  Idx t23 t16x0 (G.nv + 1) fun t25 =>
  LdN (t25.add 1) G.nv fun t27 =>
  StN value4_1 G.nv t27 <|
  LdN value4_1 G.nv fun r0 =>
  Q r0 true)
  (Nn n6_1 fun t29 =>
  Ld (t29.add 1) Sl.val fun t31 =>
  Ite (decide ((t31.n:Int) = 0))
   (LdN value4_1 G.nv fun t34 =>
   StN value4_1 G.nv t34 <|
   LdN value4_1 G.nv fun r0 =>
   Q r0 false)
   (Ld (t29.add 1) Sl.val fun t38 =>
   Idx t38 t16x0 1 fun t40 =>
   Ld t40 Value.pointer fun t41 =>
   X1 t41))
def tget (G:BtT κ) (t0:(Option Addr)) (key1:κ) (Q:(Array Value)→Bool→K):K :=
 New G.tV G.vz.toArray fun value4 =>
 Nn t0 fun t10 =>
 Ld t10 Value.pointer fun t12 =>
 LoopK (α:=(Option Addr)) (fun X x=>zPN G Q X key1 value4 x) t12
def zJm (G:BtT κ) (Q:(Array Value)→Bool→(Option Addr)→(Option Addr)→K)  (old4_2:Addr) (had5_2:Bool) (right7_2:Addr) (m12_2:Addr):K :=
 LdN old4_2 G.nv fun t153 =>
 StN old4_2 G.nv t153 <|
 LdN old4_2 G.nv fun r0 =>
 Q r0 had5_2 (some m12_2) (some right7_2)
def zHL (G:BtT κ) (Q:(Array Value)→Bool→(Option Addr)→(Option Addr)→K)  (n0_1:(Option Addr)) (old4_1:Addr) (had5_1:Bool):K :=
 Nn n0_1 fun t101 =>
 Ld t101 Sl.val fun t103 =>
 Ite (decide ((t103.n:Int) ≤ 5))
  (LdN old4_1 G.nv fun t106 =>
  StN old4_1 G.nv t106 <|
  LdN old4_1 G.nv fun r0 =>
  Q r0 had5_1 none none)
  (Ld t101 Sl.val fun t111 =>
  Idx t111 2 (G.nv + 1) fun t112 =>
  LdN t112 (G.nv + 1) fun t113 =>
  New G.tI (G.kz::G.vz).toArray fun m12 =>
  StN m12 (G.nv + 1) t113 <|
  Ld t101 Sl.val fun t117 =>
  Slc t117 3 (t117.n:Int) (t117.c:Int) (G.nv + 1) fun t118 =>
  G.cloneIC t118 fun t119 =>
  New G.tN #[(Sl.val t119),(Sl.val ⟨none,0,0⟩)] fun t121 =>
  Ld t101 Sl.val fun t126 =>
  Slc t126 0 2 2 (G.nv + 1) fun t127 =>
  St t101 (Sl.val t127) <|
  Ld (t101.add 1) Sl.val fun t133 =>
  Ite (decide ((0:Int) < (t133.n:Int)))
   (Ld (t101.add 1) Sl.val fun t140 =>
   Slc t140 3 (t140.n:Int) (t140.c:Int) 1 fun t141 =>
   G.cloneKC t141 fun t142 =>
   St (t121.add 1) (Sl.val t142) <|
   Ld (t101.add 1) Sl.val fun t149 =>
   Slc t149 0 3 3 1 fun t150 =>
   St (t101.add 1) (Sl.val t150) <|
   zJm G Q old4_1 had5_1 t121 m12)
   (zJm G Q old4_1 had5_1 t121 m12))
def nput (G:BtT κ) (n0:(Option Addr)) (x1:(Array Value)) (Q:(Array Value)→Bool→(Option Addr)→(Option Addr)→K):K :=
 New G.tI x1 fun x3 =>
 New G.tV G.vz.toArray fun old4 =>
 Ld x3 G.kV fun t16 =>
 G.nsearchC n0 t16 fun t17x0 t17x1 =>
 Ite t17x1
  (Nn n0 fun t64 =>
  Ld t64 Sl.val fun t66 =>
  Idx t66 t17x0 (G.nv + 1) fun t68 =>
  LdN (t68.add 1) G.nv fun t70 =>
  StN old4 G.nv t70 <|
  Dr <|
  Ld t64 Sl.val fun t74 =>
  LdN (x3.add 1) G.nv fun t77 =>
  Idx t74 t17x0 (G.nv + 1) fun t78 =>
  StN (t78.add 1) G.nv t77 <|
  LdN old4 G.nv fun t80 =>
  StN old4 G.nv t80 <|
  LdN old4 G.nv fun r0 =>
  Q r0 true none none)
  (Nn n0 fun t84 =>
  Ld (t84.add 1) Sl.val fun t86 =>
  Ite (decide ((t86.n:Int) = 0))
   (Dr <| WithS fun S =>
   LdS S t84 Sl.val fun t93 =>
   LdNS S x3 (G.nv + 1) fun t95 =>
   Bld (G.kz::G.vz).toArray (fun i=>some (i * (G.nv + 1),(G.nv + 1))) [(0,(.agg t95))] fun ct96 =>
   New G.tI ct96 fun t96 =>
   Sv S <|
   G.insIC t93 t17x0 (Sl.mk (some t96) 1 1) fun t97 =>
   St t84 (Sl.val t97) <|
   zHL G Q (some t84) old4 false)
   (Dr <|
   Ld (t84.add 1) Sl.val fun t24 =>
   Idx t24 t17x0 1 fun t26 =>
   Ld t26 Value.pointer fun t27 =>
   LdN x3 (G.nv + 1) fun t28 =>
   G.nputC t27 t28 fun t29x0 t29x1 t29x2 t29x3 =>
   StN old4 G.nv t29x0 <|
   Ite (!(t29x2).isNone)
    (Dr <| WithS fun S =>
    Nn t29x2 fun t43 =>
    LdS S t84 Sl.val fun t40 =>
    LdNS S t43 (G.nv + 1) fun t44 =>
    Bld (G.kz::G.vz).toArray (fun i=>some (i * (G.nv + 1),(G.nv + 1))) [(0,(.agg t44))] fun ct45 =>
    New G.tI ct45 fun t45 =>
    Sv S <|
    G.insIC t40 t17x0 (Sl.mk (some t45) 1 1) fun t46 =>
    St t84 (Sl.val t46) <|
    Ld (t84.add 1) Sl.val fun t53 =>
    Ar (IntKind.wrap .i64 (t17x0 + 1)) fun t55 =>
    New G.tK #[(.pointer t29x3)] fun t57 =>
    G.insKC t53 t55 (Sl.mk (some t57) 1 1) fun t58 =>
    St (t84.add 1) (Sl.val t58) <|
    zHL G Q (some t84) old4 t29x1)
    (zHL G Q (some t84) old4 t29x1)))
def zJn (G:BtT κ) (Q:(Array Value)→Bool→K)  (t6_3:Addr) (old8_3:Addr) (had9_3:Bool):K :=
 LdN old8_3 G.nv fun t51 =>
 StN t6_3 G.nv t51 <|
 LdN t6_3 G.nv fun r0 =>
 Q r0 had9_3
def zHM (G:BtT κ) (Q:(Array Value)→Bool→K)  (t0_2:(Option Addr)) (t6_2:Addr) (old8_2:Addr) (had9_2:Bool):K :=
 Ite (!had9_2)
  (Nn t0_2 fun t45 =>
  Ld (t45.add 1) (Value.int .i64) fun t47 =>
  Ar (IntKind.wrap .i64 (t47 + 1)) fun t48 =>
  St (t45.add 1) (.int .i64 t48) <|
  zJn G Q t6_2 old8_2 had9_2)
  (zJn G Q t6_2 old8_2 had9_2)
def zGU (G:BtT κ) (Q:(Array Value)→Bool→K)  (t0_1:(Option Addr)) (t6_1:Addr) (old8_1:Addr) (had9_1:Bool) (mid10_1:(Option Addr)) (right11_1:(Option Addr)):K :=
 Ite (!(mid10_1).isNone)
  (Dr <| WithS fun S =>
  Nn mid10_1 fun t29 =>
  Nn t0_1 fun t33 =>
  LdNS S t29 (G.nv + 1) fun t30 =>
  LdS S t33 Value.pointer fun t35 =>
  All [
   (Bld (G.kz::G.vz).toArray (fun i=>some (i * (G.nv + 1),(G.nv + 1))) [(0,(.agg t30))] fun ct31 =>
   New G.tI ct31 fun t31 =>
   Sv S <|
   New G.tK #[(.pointer t35),(.pointer right11_1)] fun t37 =>
   Sv S <|
   New G.tN #[(Sl.val (Sl.mk (some t31) 1 1)),(Sl.val (Sl.mk (some t37) 2 2))] fun t39 =>
   St t33 (.pointer (some t39)) <|
   zHM G Q (some t33) t6_1 old8_1 had9_1),
   (New G.tK #[(.pointer t35),(.pointer right11_1)] fun t37 =>
   Sv S <|
   Bld (G.kz::G.vz).toArray (fun i=>some (i * (G.nv + 1),(G.nv + 1))) [(0,(.agg t30))] fun ct31 =>
   New G.tI ct31 fun t31 =>
   Sv S <|
   New G.tN #[(Sl.val (Sl.mk (some t31) 1 1)),(Sl.val (Sl.mk (some t37) 2 2))] fun t39 =>
   St t33 (.pointer (some t39)) <|
   zHM G Q (some t33) t6_1 old8_1 had9_1)
   ])
  (zHM G Q t0_1 t6_1 old8_1 had9_1)
def tput (G:BtT κ) (t0:(Option Addr)) (key1:κ) (value2:(Array Value)) (Q:(Array Value)→Bool→K):K :=
 New G.tV value2 fun value5 =>
 New G.tV G.vz.toArray fun t6 =>
 Dr <| WithS fun S =>
 Nn t0 fun t14 =>
 LdS S t14 Value.pointer fun t16 =>
 LdNS S value5 G.nv fun t18 =>
 Bld (G.kz::G.vz).toArray ([(0,1),(1,G.nv)][·]?) [(0,(G.kV key1)),(1,(.agg t18))] fun t19 =>
 All [
  (G.nputC t16 t19 fun t20x0 t20x1 t20x2 t20x3 =>
  New G.tV G.vz.toArray fun old8 =>
  StN old8 G.nv t20x0 <|
  zGU G Q (some t14) t6 old8 t20x1 t20x2 t20x3),
  (New G.tV G.vz.toArray fun old8 =>
  Sv S <|
  G.nputC t16 t19 fun t20x0 t20x1 t20x2 t20x3 =>
  StN old8 G.nv t20x0 <|
  zGU G Q (some t14) t6 old8 t20x1 t20x2 t20x3)
  ]
end
abbrev Cel (n:Nat):={l:List Value // l.length = n∧l.all flatV = true}
section
variable {κ:Type} (G:BtT κ)
abbrev BtT.It:=κ×Cel G.nv
def BtT.f (x:G.It):List Value:=G.kV x.1::x.2.1
abbrev BtT.z0 (h:G.vz.length = G.nv∧G.vz.all flatV = true):Cel G.nv:=⟨G.vz,h⟩
theorem BtT.f_len (x:G.It):(G.f x).length = G.nv + 1:=by simp [BtT.f,x.2.2.1]
structure BtOk (c:κ→κ→Int):Prop where
 kf:∀ k,flatV (G.kV k) = true
 kzf:flatV G.kz = true
 vz:G.vz.length = G.nv∧G.vz.all flatV = true
 TI:appT G.P G.tSI G.tSI G.tI (G.nv + 1) = true
 ZI:apZT G.P G.tSI 3 G.tI (G.nv + 1) = true
 TK:appT G.P G.tSK G.tSK G.tK 1 = true
 ZK:apZT G.P G.tSK 3 G.tK 1 = true
 tr:∀ {a b d},c a b < 0→c b d < 0→c a d < 0
 eq:∀ {a b},c a b = 0 ↔ a = b
 sw:∀ {a b},c a b < 0 ↔ 0 < c b a
 cmp:∀ {B:World} {Γ:List HProp} (a b:κ) (vs:List Value) (q:Int→K),vs.length = G.nv→HG B Γ (q (c a b))→HG B Γ (CallV G.P G.cv [(.agg (G.kV a::vs).toArray),G.kV b] (Ans1 (fun (t:Int)=>(Value.int .i64) t) q))
 bs:∀ s k Q w,bsK G.P (G.nv + 1) s (G.kV k) G.cv Q w→G.bsC s k G.cv Q w
 search:∀ n k Q w,nsearch G n k Q w→G.nsearchC n k Q w
 put:∀ n x Q w,nput G n x Q w→G.nputC n x Q w
 insI:∃ R rot,∀ s i v Q w,insK G.P G.tSI 3 R (G.nv + 1) rot s i v Q w→G.insIC s i v Q w
 insK:∃ R rot,∀ s i v Q w,insK G.P G.tSK 3 R 1 rot s i v Q w→G.insKC s i v Q w
 cloneI:∀ s Q w,cloneK G.P G.tI G.tSI s Q w→G.cloneIC s Q w
 cloneK:∀ s Q w,cloneK G.P G.tK G.tSK s Q w→G.cloneKC s Q w
end
section
variable {κ:Type} {G:BtT κ} {c:κ→κ→Int} {B:World} {Γ Δ:List HProp}
def Srt (c:κ→κ→Int) {ν:Type} (L:List (κ×ν)):Prop:=L.Pairwise fun x y=>c x.1 y.1 < 0
theorem f_flat (ok:BtOk G c) (x:G.It):∀ v ∈ G.f x,flatV v = true:=fun v hv=>by
 rcases List.mem_cons.1 hv with rfl | hv
 ·exact ok.kf _
 ·exact List.all_eq_true.1 x.2.2.2 v hv
theorem zEq (ok:BtOk G c) (L:List G.It):∀ v ∈ L.flatMap G.f,flatV v = true:=fun v hv=>by
 obtain ⟨x,_,hx⟩:=List.mem_flatMap.1 hv
 exact f_flat ok x v hx
theorem zFt (ok:BtOk G c) {b:Nat} {s kd:Sl} {its:List G.It} {k:κ} {Q:Int→Bool→K} [p:Own b Γ (blk b (.cells [s.val,kd.val].toArray G.tN (0,0))) Δ] {Δ2:List HProp} [q:OwnS s Γ (SlC G.tI (G.nv + 1) s (its.flatMap G.f)) Δ2]
  (hs:Srt c its) (hl:its.length ≤ 1000) (hfound:∀ A v C,its = A++(k,v)::C→HG B Γ (Q A.length true)) (hnot:∀ A C,its = A++C→(∀ x ∈ A,c x.1 k < 0)→(∀ x ∈ C,c k x.1 < 0)→HG B Γ (Q A.length false)) :
  HG B Γ (G.nsearchC (some ⟨b,0,none⟩) k Q):=by
 refine fun w hw=>ok.search _ _ _ _ ?_
 refine hg hw ?_
 clear hw w
 unfold nsearch
 refine s_nn ?_
 refine s_ld (b:=b) (x:=s) ?_
 refine fun w hw=>ok.bs _ _ _ _ ?_
 refine hg hw ?_
 clear hw w
 obtain ⟨A,C,hAC,hA,hC⟩:∃ A C,its = A++C∧(∀ x ∈ A,c x.1 k < 0)∧∀ x ∈ C,0 ≤ c x.1 k:=by
  clear hfound hnot q hl
  induction its with
  | nil=>exact ⟨[],[],rfl,by simp,by simp⟩
  | cons x L ih =>
   have hs':=List.pairwise_cons.1 hs
   by_cases h:c x.1 k < 0
   ·obtain ⟨A,C,h1,h2,h3⟩:=ih hs'.2
    exact ⟨x::A,C,by rw [h1]; rfl,List.forall_mem_cons.2 ⟨h,h2⟩,h3⟩
   ·refine ⟨[],x::L,rfl,by simp,fun y hy=>?_⟩
    rcases List.mem_cons.1 hy with rfl | hy
    ·omega
    ·have h1:=hs'.1 y hy
     refine Int.not_lt.1 fun h2=>h (ok.tr h1 h2)
 subst hAC
 have hlen:(A++C).length = A.length + C.length:=List.length_append
 refine s_bs (s:=s) (L:=A++C) (f:=G.f) (c:=fun x=>c x.1 k) (p:=A.length) G.f_len (by omega) (fun i x hx hi=>?_) (fun i x hx hi=>?_) (by omega) (fun x hx q hq=>ok.cmp _ _ _ _ x.2.2.1 hq) ?_ (by omega)
 ·rw [List.getElem?_append_left hi] at hx
  exact hA x (List.mem_of_getElem? hx)
 ·rw [List.getElem?_append_right hi] at hx
  exact hC x (List.mem_of_getElem? hx)
 ·have e:(A++C)[A.length]? = C.head?:=by rw [List.getElem?_append_right (Nat.le_refl _),Nat.sub_self,List.head?_eq_getElem?]
  rw [e]
  cases C with
  | nil=>simpa using hnot A [] rfl hA (by simp)
  | cons x C =>
   have hs2:=(List.pairwise_append.1 hs).2.1
   by_cases h0:c x.1 k = 0
   ·have:=ok.eq.1 h0
    obtain ⟨xk,v⟩:=x
    simp only at this; subst this
    simpa [h0] using hfound A v C rfl
   ·have h1:0 < c x.1 k:=by have:=hC x List.mem_cons_self; omega
    have:=hnot A (x::C) rfl hA (fun y hy=>by
     rcases List.mem_cons.1 hy with rfl | hy
     ·exact ok.sw.2 h1
     ·exact ok.tr (ok.sw.2 h1) ((List.pairwise_cons.1 hs2).1 y hy))
    simpa [h0] using this
end
end Bt
end Go.Sep
namespace Go.Sep
open Go Go.RowKit
namespace Bt
section
variable {κ:Type} {G:BtT κ} {c:κ→κ→Int} {B:World} {Γ Δ:List HProp}
theorem zEb {α:Type} {f:α→List Value} {esz:Nat} (hf:∀ x,(f x).length = esz):∀ (L:List α) (i:Nat),(L.flatMap f).drop (i * esz) = (L.drop i).flatMap f
 | L,0=>by simp
 | [],i + 1=>by simp
 | x::L,i + 1=>by
  rw [List.flatMap_cons,List.drop_succ_cons,← zEb hf L i,Nat.add_mul,Nat.one_mul,Nat.add_comm,← List.drop_drop,← hf x,List.drop_left]
theorem zEc {α:Type} {f:α→List Value} {esz:Nat} (hf:∀ x,(f x).length = esz):∀ (L:List α) (i:Nat),(L.flatMap f).take (i * esz) = (L.take i).flatMap f
 | L,0=>by simp
 | [],i + 1=>by simp
 | x::L,i + 1=>by
  rw [List.flatMap_cons,List.take_succ_cons,List.flatMap_cons,← zEc hf L i,Nat.add_mul,Nat.one_mul,Nat.add_comm,← hf x,List.take_length_add_append]
theorem s_ldEl {α:Type} {f:α→List Value} {esz E:Nat} {s:Sl} {L:List α} {i:Nat} {x:α} {k:Array Value→K} (hf:∀ x,(f x).length = esz) (hx:L[i]? = some x) (h:HG B Γ (k (f x).toArray)) [o:OwnS s Γ (SlC E esz s (L.flatMap f)) Δ]:HG B Γ (LdN (elA s i esz) esz k):=by
 rw [← add0 (elA s i esz)]
 exact s_ldEN (s:=s) (by simpa using zHq hf hx) (hf x) h
abbrev nodeB (G:BtT κ) (b:Nat) (s kd:Sl):HProp:=blk b (.cells [s.val,kd.val].toArray G.tN (0,0))
abbrev itsR (G:BtT κ) (s:Sl) (its:List G.It):HProp:=SlC G.tI (G.nv + 1) s (its.flatMap G.f)
abbrev kpsR (G:BtT κ) (s:Sl) (kp:List (Option Addr)):HProp:=SlC G.tK 1 s (kp.map Value.pointer)
abbrev valB (G:BtT κ) (b:Nat) (v:Cel G.nv):HProp:=blk b (.cells v.1.toArray G.tV (0,0))
theorem s_ret3 {o:Nat} {v:Cel G.nv} {k:Array Value→K} (h:HG B Γ (k v.1.toArray)) [p:Own o Γ (valB G o v) Δ]:HG B Γ (LdN ⟨o,0,none⟩ G.nv fun t=>StN ⟨o,0,none⟩ G.nv t <| LdN ⟨o,0,none⟩ G.nv k):=by
 have e:(v.1.drop 0).take G.nv = v.1:=by rw [List.drop_zero,List.take_of_length_le (Nat.le_of_eq v.2.1)]
 refine fun w hw=>?_
 refine hg (hw.perm p.perm) ?_
 refine s_ldN (b:=o) ?_ e v.2.1
 refine s_stN (b:=o) ?_ v.2.1 v.2.1 v.2.2
 refine s_ldN (b:=o) ?_ e v.2.1
 exact fun w hw=>h w (hw.perm p.perm.symm)
theorem zGV (kp:List (Option Addr)):∀ v ∈ kp.map Value.pointer,flatV v = true:=fun v hv=>by obtain ⟨a,_,rfl⟩:=List.mem_map.1 hv; rfl
theorem kp_len (kp:List (Option Addr)):(kp.map Value.pointer).length = kp.length * 1:=by simp
theorem s_s1 (ok:BtOk G c) {o b:Nat} {old:Cel G.nv} {had:Bool} {s kd:Sl} {its:List G.It} {kp:List (Option Addr)} {Q:Array Value→Bool→Option Addr→Option Addr→K} (hs:its.length ≤ 6) (hk:kp = []∨kp.length = its.length + 1)
  (h1:its.length ≤ 5→HG B (nodeB G b s kd::itsR G s its::kpsR G kd kp::Γ) (Q old.1.toArray had none none))
  (h2:∀ x,its.length = 6→its = its.take 2++x::its.drop 3→∀ s1 c1 r s2 c2 mb,HG B (blk mb (.cells (G.f x).toArray G.tI (0,0))::nodeB G b s1 c1::itsR G s1 (its.take 2)::kpsR G c1 (kp.take 3)::nodeB G r s2 c2::itsR G s2 (its.drop 3)::kpsR G c2 (kp.drop 3)::Γ) (Q old.1.toArray had (some ⟨mb,0,none⟩) (some ⟨r,0,none⟩))) :
  HG B (valB G o old::nodeB G b s kd::itsR G s its::kpsR G kd kp::Γ) (zHL G Q (some ⟨b,0,none⟩) ⟨o,0,none⟩ had):=by
 refine s_cap s fun l1 l2 l3 l4=>?_
 refine s_cap kd fun m1 m2 m3 m4=>?_
 rw [zAL G.f _ G.f_len] at l1
 have hn:s.n = its.length:=(Nat.eq_of_mul_eq_mul_right (by omega) l1).symm
 have hkn:kd.n = kp.length:=by rw [kp_len] at m1; omega
 unfold zHL
 refine s_nn ?_
 refine s_ld (b:=b) (x:=s) ?_
 refine s_ite (fun hb=>?_) fun hb=>?_
 ·refine s_ret3 ?_
  exact s_end (h1 (by simp only [decide_eq_true_eq] at hb; omega))
 have h6:its.length = 6:=by simp only [decide_eq_false_iff_not] at hb; omega
 obtain ⟨x,hx⟩:∃ x,its[2]? = some x:=⟨_,List.getElem?_eq_getElem (by omega)⟩
 have hsplit:its = its.take 2++x::its.drop 3:=by
  have:=List.drop_eq_getElem_cons (l:=its) (i:=2) (by omega)
  rw [List.getElem?_eq_getElem (by omega),Option.some.injEq] at hx
  rw [hx] at this
  rw [← this,List.take_append_drop]
 refine s_ld (b:=b) (x:=s) ?_
 refine s_idx (s:=s) (i:=2) ?_
 refine s_ldEl (s:=s) G.f_len hx ?_
 refine s_new fun mb=>?_
 refine s_stN (b:=mb) ?_ (by simp [ok.vz.1]) (G.f_len x) (List.all_eq_true.2 (f_flat ok x))
 refine s_ld (b:=b) (x:=s) ?_
 refine s_slc (lo:=3) (hi:=s.n) (mx:=s.c) ?_
 refine fun w hw=>ok.cloneI _ _ _ ?_
 refine hg hw ?_
 clear hw w
 have hfl:=zEq ok its
 refine zNd (s:=⟨cutA s.a 3 s.c (G.nv + 1),s.n - 3,s.c - 3⟩) (us:=(its.drop 3).flatMap G.f) (esz:=G.nv + 1) (fun w hw=>?_) (zEq ok _) (by simp only; omega) (fun s2 hs2=>?_) ok.TI
 ·rw [← zEb G.f_len]
  exact (own_rd (s:=s) hw).1.drop (by omega) l2 l3
 refine s_new fun r=>?_
 refine s_ld (b:=b) (x:=s) ?_
 refine s_slc (lo:=0) (hi:=2) (mx:=2) ?_
 rw [cut0 l3]
 refine s_st (b:=b) ?_
 refine zD6 (s:=s) (m:=2) (c':=2) (by omega) (by omega) (by omega) ?_
 rw [zEc G.f_len]
 refine s_ld (b:=b) (x:=kd) ?_
 refine s_ite (fun hb2=>?_) fun hb2=>?_
 ·have hk7:kp.length = 7:=by
   simp only [decide_eq_true_eq] at hb2
   rcases hk with rfl | hk
   ·simp only [List.length_nil] at hkn; omega
   ·omega
  refine s_ld (b:=b) (x:=kd) ?_
  refine s_slc (lo:=3) (hi:=kd.n) (mx:=kd.c) ?_
  refine fun w hw=>ok.cloneK _ _ _ ?_
  refine hg hw ?_
  clear hw w
  refine zNd (s:=⟨cutA kd.a 3 kd.c 1,kd.n - 3,kd.c - 3⟩) (us:=(kp.drop 3).map Value.pointer) (esz:=1) (fun w hw=>?_) (zGV _) (by simp only; omega) (fun c2 hc2=>?_) ok.TK
  ·have:=(own_rd (s:=kd) hw).1.drop (l:=3) (c:=kd.c) (by omega) m2 m3
   simpa using this
  refine s_st (b:=r) ?_
  refine s_ld (b:=b) (x:=kd) ?_
  refine s_slc (lo:=0) (hi:=3) (mx:=3) ?_
  rw [cut0 m3]
  refine s_st (b:=b) ?_
  refine zD6 (s:=kd) (m:=3) (c':=3) (by omega) (by omega) (by omega) ?_
  rw [show (kp.map Value.pointer).take (3 * 1) = (kp.take 3).map Value.pointer by simp]
  unfold zJm
  refine s_ret3 ?_
  exact s_end (h2 x h6 hsplit ⟨s.a,2,2⟩ ⟨kd.a,3,3⟩ r s2 c2 mb)
 ·have hk0:kp = []:=by
   simp only [decide_eq_false_iff_not] at hb2
   rcases hk with rfl | hk
   ·rfl
   ·omega
  have e1:kp.take 3 = kp:=by rw [hk0]; rfl
  have e2:kp.drop 3 = []:=by rw [hk0]; rfl
  simp only [e1,e2] at h2
  unfold zJm
  refine s_ret3 ?_
  refine fun w hw=>?_
  refine hg (show Holds B (kpsR G ⟨none,0,0⟩ []::_) w from hw.nilSl G.tK 1) ?_
  exact s_end (h2 x h6 hsplit ⟨s.a,2,2⟩ kd r s2 ⟨none,0,0⟩ mb)
end
end Bt
end Go.Sep
namespace Go.Sep
open Go Go.RowKit
namespace Bt
section
variable {κ:Type} {G:BtT κ} {c:κ→κ→Int} {B:World} {Γ Δ:List HProp}
abbrev Kid (G:BtT κ):=Nat×List G.It
def ptr (q:Kid G):Option Addr:=some ⟨q.1,0,none⟩
def psL (q0:Kid G) (ps:List (G.It×Kid G)):List G.It:=q0.2++ps.flatMap fun p=>p.1::p.2.2
def preL (l:List (Kid G×G.It)):List G.It:=l.flatMap fun p=>p.1.2++[p.2]
def postL (r:List (G.It×Kid G)):List G.It:=r.flatMap fun p=>p.1::p.2.2
theorem zfwd:∀ (i:Nat) (q0:Kid G) (ps:List (G.It×Kid G)),i ≤ ps.length→∃ l q r,l.length = i∧ps.map Prod.fst = l.map Prod.snd++r.map Prod.fst∧q0::ps.map Prod.snd = l.map Prod.fst++q::r.map Prod.snd∧psL q0 ps = preL l++q.2++postL r
 | 0,q0,ps,_=>⟨[],q0,ps,rfl,rfl,rfl,by simp [psL,preL,postL]⟩
 | i + 1,q0,[],h=>by simp at h
 | i + 1,q0,(x,q1)::ps,h=>by
  obtain ⟨l,q,r,h1,h2,h3,h4⟩:=zfwd i q1 ps (by simpa using h)
  refine ⟨(q0,x)::l,q,r,by simp [h1],by simp [h2],by simp only [List.map_cons,List.cons_append,← h3],?_⟩
  have:psL q0 ((x,q1)::ps) = q0.2++x::psL q1 ps:=by simp [psL]
  rw [this,h4]
  simp [preL]
theorem zback:∀ (l:List (Kid G×G.It)) (q:Kid G) (r:List (G.It×Kid G)),∃ q0 ps,ps.length = l.length + r.length∧ps.map Prod.fst = l.map Prod.snd++r.map Prod.fst∧q0::ps.map Prod.snd = l.map Prod.fst++q::r.map Prod.snd∧psL q0 ps = preL l++q.2++postL r
 | [],q,r=>⟨q,r,by simp,rfl,rfl,by simp [psL,preL,postL]⟩
 | (p,x)::l,q,r=>by
  obtain ⟨q0,ps,h1,h2,h3,h4⟩:=zback l q r
  refine ⟨p,(x,q0)::ps,by simp [h1]; omega,by simp [h2],by simp only [List.map_cons,List.cons_append,← h3],?_⟩
  have:psL p ((x,q0)::ps) = p.2++x::psL q0 ps:=by simp [psL]
  rw [this,h4]
  simp [preL]
theorem Srt.sub {ν:Type} {L M:List (κ×ν)} (h:Srt c L) (hs:M.Sublist L):Srt c M:=List.Pairwise.sublist hs h
theorem pre_lt (ok:BtOk G c) {k:κ}:∀ (l:List (Kid G×G.It)),Srt c (preL l)→(∀ x ∈ l.map Prod.snd,c x.1 k < 0)→∀ y ∈ preL l,c y.1 k < 0
 | [],_,_,y,hy=>by simp [preL] at hy
 | (p,x)::l,hs,h,y,hy=>by
  have e:preL ((p,x)::l) = (p.2++[x])++preL l:=rfl
  rw [e] at hs hy
  have hx:c x.1 k < 0:=h x (by simp)
  rcases List.mem_append.1 hy with hy | hy
  ·rcases List.mem_append.1 hy with hy | hy
   ·have h1:=(List.pairwise_append.1 (List.pairwise_append.1 hs).1).2.2 y hy x (by simp)
    exact ok.tr h1 hx
   ·rw [List.mem_singleton.1 hy]; exact hx
  ·exact pre_lt ok l (List.pairwise_append.1 hs).2.1 (fun z hz=>h z (by simp at hz ⊢; exact .inr hz)) y hy
theorem zJo (ok:BtOk G c) {k:κ}:∀ (r:List (G.It×Kid G)),Srt c (postL r)→(∀ x ∈ r.map Prod.fst,c k x.1 < 0)→∀ y ∈ postL r,c k y.1 < 0
 | [],_,_,y,hy=>by simp [postL] at hy
 | (x,q)::r,hs,h,y,hy=>by
  have e:postL ((x,q)::r) = (x::q.2)++postL r:=rfl
  rw [e] at hs hy
  have hx:c k x.1 < 0:=h x (by simp)
  rcases List.mem_append.1 hy with hy | hy
  ·rcases List.mem_cons.1 hy with rfl | hy
   ·exact hx
   ·exact ok.tr hx ((List.pairwise_cons.1 (List.pairwise_append.1 hs).1).1 y hy)
  ·exact zJo ok r (List.pairwise_append.1 hs).2.1 (fun z hz=>h z (by simp at hz ⊢; exact .inr hz)) y hy
theorem zHN (q0:Kid G):∀ (ps:List (G.It×Kid G)),(ps.map Prod.fst).Sublist (psL q0 ps)
 | []=>by simp
 | (x,q)::ps=>by
  have:psL q0 ((x,q)::ps) = q0.2++x::psL q ps:=by simp [psL]
  rw [this,List.map_cons]
  exact ((zHN q ps).cons_cons x).trans (List.sublist_append_right _ _)
def PutR (c:κ→κ→Int) {ν:Type} (z:ν) (L:List (κ×ν)) (k:κ) (v:ν) (L':List (κ×ν)) (old:ν) (had:Bool):Prop :=
 (∃ A C,L = A++(k,old)::C∧L' = A++(k,v)::C∧had = true)∨(∃ A C,L = A++C∧(∀ x ∈ A,c x.1 k < 0)∧(∀ x ∈ C,c k x.1 < 0)∧L' = A++(k,v)::C∧old = z∧had = false)
theorem PutR.mid {ν:Type} {z v old:ν} {A C L L':List (κ×ν)} {k:κ} {had:Bool} (hA:∀ x ∈ A,c x.1 k < 0) (hC:∀ x ∈ C,c k x.1 < 0) (h:PutR c z L k v L' old had):PutR c z (A++L++C) k v (A++L'++C) old had:=by
 rcases h with ⟨A',C',rfl,rfl,rfl⟩ | ⟨A',C',rfl,h1,h2,rfl,rfl,rfl⟩
 ·exact .inl ⟨A++A',C'++C,by simp,by simp,rfl⟩
 ·refine .inr ⟨A++A',C'++C,by simp,fun x hx=>?_,fun x hx=>?_,by simp,rfl,rfl⟩
  ·rcases List.mem_append.1 hx with hx | hx
   ·exact hA x hx
   ·exact h1 x hx
  ·rcases List.mem_append.1 hx with hx | hx
   ·exact h2 x hx
   ·exact hC x hx
def NodeR (G:BtT κ):Nat→Nat→Nat→List G.It→HProp
 | 0,m,b,L=>ex fun s=>ex fun kd=>Sep.stars [pur ((m = 2→L ≠ [])∧L.length ≤ 5),nodeB G b s kd,itsR G s L,kpsR G kd []]
 | d + 1,m,b,L=>ex fun s=>ex fun kd=>ex fun q0:Kid G=>ex fun ps:List (G.It×Kid G)=>Sep.stars [pur ((1 ≤ m→ps ≠ [])∧ps.length ≤ 5∧L = psL q0 ps),nodeB G b s kd,itsR G s (ps.map Prod.fst),kpsR G kd ((q0::ps.map Prod.snd).map ptr),
   Sep.stars ((q0::ps.map Prod.snd).map fun q=>NodeR G d 2 q.1 q.2)]
instance (priority:=high) zUW {d m b:Nat} {L:List G.It}:Own b (NodeR G d m b L::Γ) (NodeR G d m b L) Γ:=⟨.refl _⟩
theorem zHO {m b:Nat} {L:List G.It} {k:K} (h:∀ s kd,(m = 2→L ≠ [])→L.length ≤ 5→HG B (nodeB G b s kd::itsR G s L::kpsR G kd []::Γ) k):HG B (NodeR G 0 m b L::Γ) k :=
 s_conv (A':=ex fun s=>ex fun kd=>Sep.stars [pur ((m = 2→L ≠ [])∧L.length ≤ 5),nodeB G b s kd,itsR G s L,kpsR G kd []]) (fun _ h=>h) <| s_ex fun s=>s_ex fun kd=>s_flat <| s_pur fun ⟨h1,h2⟩=>h s kd h1 h2
theorem s_mk0 {m b:Nat} {L:List G.It} {k:K} {s kd:Sl} (h1:m = 2→L ≠ []) (h2:L.length ≤ 5) (h:HG B (NodeR G 0 m b L::Γ) k):HG B (nodeB G b s kd::itsR G s L::kpsR G kd []::Γ) k :=
 zTG (p:=(m = 2→L ≠ [])∧L.length ≤ 5) ⟨h1,h2⟩ <| zFj (Δ:=[pur ((m = 2→L ≠ [])∧L.length ≤ 5),nodeB G b s kd,itsR G s L,kpsR G kd []]) <| s_toEx (F:=fun kd=>Sep.stars [pur ((m = 2→L ≠ [])∧L.length ≤ 5),nodeB G b s kd,itsR G s L,kpsR G kd []]) kd <|
  s_toEx (F:=fun s=>ex fun kd=>Sep.stars [pur ((m = 2→L ≠ [])∧L.length ≤ 5),nodeB G b s kd,itsR G s L,kpsR G kd []]) s <| s_conv (fun _ h=>h) h
abbrev kidsR (G:BtT κ) (d:Nat) (ks:List (Kid G)):HProp:=Sep.stars (ks.map fun q=>NodeR G d 2 q.1 q.2)
theorem zJp {d m b:Nat} {L:List G.It} {k:K} (h:∀ s kd q0 ps,(1 ≤ m→ps ≠ [])→ps.length ≤ 5→L = psL q0 ps→HG B (nodeB G b s kd::itsR G s (ps.map Prod.fst)::kpsR G kd ((q0::ps.map Prod.snd).map ptr)::kidsR G d (q0::ps.map Prod.snd)::Γ) k):HG B (NodeR G (d + 1) m b L::Γ) k :=
 s_conv (A':=ex fun s=>ex fun kd=>ex fun q0:Kid G=>ex fun ps:List (G.It×Kid G)=>Sep.stars [pur ((1 ≤ m→ps ≠ [])∧ps.length ≤ 5∧L = psL q0 ps),nodeB G b s kd,itsR G s (ps.map Prod.fst),kpsR G kd ((q0::ps.map Prod.snd).map ptr),kidsR G d (q0::ps.map Prod.snd)]) (fun _ h=>h) <|
  s_ex fun s=>s_ex fun kd=>s_ex fun q0=>s_ex fun ps=>s_flat <| s_pur fun ⟨h1,h2,h3⟩=>h s kd q0 ps h1 h2 h3
theorem s_mkS {d m b:Nat} {q0:Kid G} {ps:List (G.It×Kid G)} {k:K} {s kd:Sl} (h1:1 ≤ m→ps ≠ []) (h2:ps.length ≤ 5) (h:HG B (NodeR G (d + 1) m b (psL q0 ps)::Γ) k) :
  HG B (nodeB G b s kd::itsR G s (ps.map Prod.fst)::kpsR G kd ((q0::ps.map Prod.snd).map ptr)::kidsR G d (q0::ps.map Prod.snd)::Γ) k:=fun w hw=>by
 refine h w ?_
 have h3:Holds B (Sep.stars [pur ((1 ≤ m→ps ≠ [])∧ps.length ≤ 5∧psL q0 ps = psL q0 ps),nodeB G b s kd,itsR G s (ps.map Prod.fst),kpsR G kd ((q0::ps.map Prod.snd).map ptr),kidsR G d (q0::ps.map Prod.snd)]::Γ) w:=Holds.flat.2 (Holds.pur.2 ⟨⟨h1,h2,rfl⟩,hw⟩)
 exact h3.imp fun g hg=>⟨s,kd,q0,ps,hg⟩
theorem zNw {d:Nat} {A C:List (Kid G)} {q:Kid G}:(((A++q::C).map fun q=>NodeR G d 2 q.1 q.2)++Γ).Perm (((A++C).map fun q=>NodeR G d 2 q.1 q.2)++NodeR G d 2 q.1 q.2::Γ):=by
 have h2:((A++q::C).map fun q=>NodeR G d 2 q.1 q.2).Perm (NodeR G d 2 q.1 q.2::(A++C).map fun q=>NodeR G d 2 q.1 q.2):=(List.perm_middle (a:=q) (l₁:=A) (l₂:=C)).map _
 refine (h2.append_right Γ).trans ?_
 exact (List.perm_middle (a:=NodeR G d 2 q.1 q.2) (l₁:=(A++C).map fun q=>NodeR G d 2 q.1 q.2) (l₂:=Γ)).symm
theorem s_kid {d:Nat} {A C:List (Kid G)} {q:Kid G} {k:K} (h:HG B (NodeR G d 2 q.1 q.2::kidsR G d (A++C)::Γ) k):HG B (kidsR G d (A++q::C)::Γ) k:=fun w hw =>
 h w (Holds.flat.2 ((Holds.flat.1 hw).perm zNw)).swap
theorem zEL {d:Nat} {A C:List (Kid G)} {q:Kid G} {k:K} (h:HG B (kidsR G d (A++q::C)::Γ) k):HG B (NodeR G d 2 q.1 q.2::kidsR G d (A++C)::Γ) k:=fun w hw =>
 h w (Holds.flat.2 ((Holds.flat.1 hw.swap).perm zNw.symm))
end
end Bt
end Go.Sep
namespace Go.Sep
open Go Go.RowKit
namespace Bt
section
variable {κ:Type} {G:BtT κ} {c:κ→κ→Int} {B:World} {Γ Δ:List HProp}
theorem at_mid {α:Type} {A C:List α} {x:α}:(A++x::C)[A.length]? = some x:=by simp
theorem zPO {A C:List G.It} {k:κ} {v0 v:Cel G.nv}:layAt ((A++(k,v0)::C).flatMap G.f) (A.length * (G.nv + 1) + 1) v.1 = (A++(k,v)::C).flatMap G.f:=by
 have e1:(A++(k,v0)::C).flatMap G.f = (A.flatMap G.f++[G.kV k])++(v0.1++C.flatMap G.f):=by simp [BtT.f]
 have e2:(A++(k,v)::C).flatMap G.f = (A.flatMap G.f++[G.kV k])++(v.1++C.flatMap G.f):=by simp [BtT.f]
 rw [e1,e2,zEX (by simp [zAL G.f _ G.f_len]) (by rw [v0.2.1,v.2.1])]
theorem zFu {A C:List G.It} {k:κ} {v0:Cel G.nv}:(((A++(k,v0)::C).flatMap G.f).drop (A.length * (G.nv + 1) + 1)).take G.nv = v0.1:=by
 have e1:(A++(k,v0)::C).flatMap G.f = (A.flatMap G.f++[G.kV k])++(v0.1++C.flatMap G.f):=by simp [BtT.f]
 rw [e1,show A.length * (G.nv + 1) + 1 = (A.flatMap G.f++[G.kV k]).length by simp [zAL G.f _ G.f_len],List.drop_left,List.take_left' v0.2.1]
theorem zMY {A C:List G.It} {x:G.It}:((A++C).flatMap G.f).take (A.length * (G.nv + 1))++G.f x++((A++C).flatMap G.f).drop (A.length * (G.nv + 1)) = (A++x::C).flatMap G.f:=by
 rw [zEc G.f_len,zEb G.f_len,List.take_left,List.drop_left]
 simp
theorem zSD {A C:List (Option Addr)} {x:Option Addr}:((A++C).map Value.pointer).take (A.length * 1)++[Value.pointer x]++((A++C).map Value.pointer).drop (A.length * 1) = (A++x::C).map Value.pointer:=by
 rw [Nat.mul_one,← List.map_take,← List.map_drop,List.take_left,List.drop_left]
 simp
theorem zI4 {d:Nat} {A C:List (Kid G)} {k:K} (h:HG B (kidsR G d A::kidsR G d C::Γ) k):HG B (kidsR G d (A++C)::Γ) k:=fun w hw=>by
 have h1:=Holds.flat.1 hw
 rw [List.map_append,List.append_assoc] at h1
 have h2:Holds B ((C.map fun q=>NodeR G d 2 q.1 q.2)++kidsR G d A::Γ) w:=(Holds.flat.2 h1).perm List.perm_middle.symm
 exact h w (Holds.flat.2 h2).swap
theorem zip_of {q0:Kid G} {ps:List (G.It×Kid G)} {A C:List G.It} (e:ps.map Prod.fst = A++C):∃ l q r,A = l.map Prod.snd∧C = r.map Prod.fst∧q0::ps.map Prod.snd = l.map Prod.fst++q::r.map Prod.snd∧psL q0 ps = preL l++q.2++postL r∧ps.length = l.length + r.length:=by
 have hl:=congrArg List.length e
 simp only [List.length_map,List.length_append] at hl
 obtain ⟨l,q,r,h1,h2,h3,h4⟩:=zfwd A.length q0 ps (by omega)
 rw [e] at h2
 obtain ⟨h5,h6⟩:=List.append_inj h2 (by simp [h1])
 refine ⟨l,q,r,h5,h6,h3,h4,?_⟩
 rw [hl,h6,h1,List.length_map]
theorem zMZ (ok:BtOk G c):∀ (d:Nat) {m b:Nat} {M:List G.It} {k:κ} {v:Cel G.nv} {Γ:List HProp} {Q:Array Value→Bool→Option Addr→Option Addr→K},1 ≤ m→Srt c M →
  (∀ M' old had,PutR c (G.z0 ok.vz) M k v M' old had→HG B (NodeR G d 2 b M'::Γ) (Q old.1.toArray had none none)) →
  (∀ M1 x M2 old had r mb,PutR c (G.z0 ok.vz) M k v (M1++x::M2) old had→HG B (blk mb (.cells (G.f x).toArray G.tI (0,0))::NodeR G d 2 b M1::NodeR G d 2 r M2::Γ) (Q old.1.toArray had (some ⟨mb,0,none⟩) (some ⟨r,0,none⟩))) →
  HG B (NodeR G d m b M::Γ) (G.nputC (some ⟨b,0,none⟩) (G.f (k,v)).toArray Q):=by
 intro d
 induction d with
 | zero =>
  intro m b M k v Γ Q hm hs h1 h2
  refine fun w hw=>ok.put _ _ _ _ ?_
  refine hg hw ?_
  clear hw w
  refine zHO fun s kd _ hl=>?_
  refine s_cap kd fun m1 m2 m3 m4=>?_
  unfold nput
  refine s_new fun x3=>?_
  refine s_new fun o=>?_
  refine s_ld (b:=x3) (x:=k) ?_
  refine zFt ok (s:=s) (kd:=kd) hs (by omega) (fun A v0 C e=>?_) fun A C e hA hC=>?_
  ·subst e
   refine s_t ?_
   refine s_nn ?_
   refine s_cap s fun l1 l2 l3 l4=>?_
   rw [zAL G.f _ G.f_len] at l1
   have hn:s.n = (A++(k,v0)::C).length:=(Nat.eq_of_mul_eq_mul_right (by omega) l1).symm
   have hlen:(A++(k,v0)::C).length = A.length + (C.length + 1):=List.length_append
   refine s_ld (b:=b) (x:=s) ?_
   refine s_idx (s:=s) (i:=A.length) ?_
   refine s_ldEN (s:=s) (l':=v0.1) zFu v0.2.1 ?_
   refine s_stN (b:=o) ?_ ok.vz.1 v0.2.1 v0.2.2
   refine s_dr ?_
   refine s_ld (b:=b) (x:=s) ?_
   refine s_ldN (b:=x3) (off:=0 + 1) (l:=G.f (k,v)) (l':=v.1) ?_ (List.take_of_length_le (Nat.le_of_eq v.2.1)) v.2.1
   refine s_idx (s:=s) (i:=A.length) ?_
   refine s_stEN (s:=s) ?_ v.2.1 ?_ v.2.2
   rotate_left
   ·rw [zAL G.f _ G.f_len,hlen,Nat.add_mul,Nat.add_mul]; omega
   rw [zPO]
   refine s_ret3 (v:=v0) ?_
   refine s_end (Δ:=nodeB G b s kd::itsR G s (A++(k,v)::C)::kpsR G kd []::Γ) ?_
   refine s_mk0 (m:=2) (by simp) (by simpa using hl) (h1 _ _ _ (.inl ⟨A,C,rfl,rfl,rfl⟩))
  ·subst e
   refine s_f ?_
   refine s_nn ?_
   refine s_ld (b:=b) (x:=kd) ?_
   refine s_t ?_ (by simpa using m1.symm)
   refine s_dr ?_
   refine s_ws ?_
   refine s_ldS (b:=b) (x:=s) ?_
   refine s_ldNS (b:=x3) (l':=G.f (k,v)) ?_ (List.take_of_length_le (by simp [G.f_len])) (G.f_len _)
   refine s_bld1 ?_ (by simp [ok.vz.1]) (G.f_len _)
   refine s_new fun t=>?_
   refine s_sv ?_
   obtain ⟨R,rot,hins⟩:=ok.insI
   refine s_cap s fun l1 l2 l3 l4=>?_
   rw [zAL G.f _ G.f_len] at l1
   have hn:s.n = (A++C).length:=(Nat.eq_of_mul_eq_mul_right (by omega) l1).symm
   have hlen:(A++C).length = A.length + C.length:=List.length_append
   refine fun w hw=>hins _ _ _ _ _ ?_
   refine hg hw ?_
   clear hw w
   refine s_ins (s:=s) (i:=A.length) (t:=t) (by omega) (by omega) (G.f_len _) (by omega) (zEq ok _) (f_flat ok _) (fun s' hs'=>?_) ok.TI ok.ZI
   rw [zMY]
   refine s_st (b:=b) ?_
   refine s_end (Δ:=valB G o (G.z0 ok.vz)::nodeB G b s' kd::itsR G s' (A++(k,v)::C)::kpsR G kd []::Γ) ?_
   have hput:PutR c (G.z0 ok.vz) (A++C) k v (A++(k,v)::C) (G.z0 ok.vz) false:=.inr ⟨A,C,rfl,hA,hC,rfl,rfl,rfl⟩
   refine s_s1 ok (by simp; omega) (.inl rfl) (fun h5=>?_) fun x h6 hx s1 c1 r s2 c2 mb=>?_
   ·refine s_mk0 (m:=2) (by simp) h5 (h1 _ _ _ hput)
   ·have h7:=h2 ((A++(k,v)::C).take 2) x ((A++(k,v)::C).drop 3) _ _ r mb (by rw [← hx]; exact hput)
    simp only [List.take_nil,List.drop_nil]
    refine s_end (Δ:=nodeB G b s1 c1::itsR G s1 ((A++(k,v)::C).take 2)::kpsR G c1 []::nodeB G r s2 c2::itsR G s2 ((A++(k,v)::C).drop 3)::kpsR G c2 []::blk mb (.cells (G.f x).toArray G.tI (0,0))::Γ) ?_
    refine s_mk0 (m:=2) (fun _ h=>?_) (by rw [List.length_take]; omega) ?_
    ·have:=congrArg List.length h; simp only [List.length_take,List.length_nil] at this; omega
    refine s_end (Δ:=nodeB G r s2 c2::itsR G s2 ((A++(k,v)::C).drop 3)::kpsR G c2 []::blk mb (.cells (G.f x).toArray G.tI (0,0))::NodeR G 0 2 b ((A++(k,v)::C).take 2)::Γ) ?_
    refine s_mk0 (m:=2) (fun _ h=>?_) (by rw [List.length_drop]; omega) ?_
    ·have:=congrArg List.length h; simp only [List.length_drop,List.length_nil] at this; omega
    exact s_end h7
 | succ d ih =>
  intro m b M k v Γ Q hm hs h1 h2
  refine fun w hw=>ok.put _ _ _ _ ?_
  refine hg hw ?_
  clear hw w
  refine zJp fun s kd q0 ps hne hl hM=>?_
  subst hM
  unfold nput
  refine s_new fun x3=>?_
  refine s_new fun o=>?_
  refine s_ld (b:=x3) (x:=k) ?_
  refine zFt ok (s:=s) (kd:=kd) (hs.sub (zHN q0 ps)) (by simp; omega) (fun A v0 C e=>?_) fun A C e hA hC=>?_
  ·obtain ⟨l,q,r,hA,hC,hK,hL,hlen⟩:=zip_of (q0:=q0) e
   rw [e,hK]
   rw [hL] at hs h1 h2
   obtain ⟨⟨xx,q1⟩,r,rfl,hxx,hC'⟩:=List.map_eq_cons_iff.1 hC.symm
   simp only at hxx
   subst hxx
   subst hA
   subst hC'
   refine s_t ?_
   refine s_nn ?_
   refine s_cap s fun l1 l2 l3 l4=>?_
   rw [zAL G.f _ G.f_len] at l1
   have hil:(l.map Prod.snd++(k,v0)::r.map Prod.fst).length = (l.map Prod.snd).length + (r.length + 1):=by simp
   have hn:s.n = (l.map Prod.snd).length + (r.length + 1):=by rw [← hil]; exact (Nat.eq_of_mul_eq_mul_right (by omega) l1).symm
   refine s_ld (b:=b) (x:=s) ?_
   refine s_idx (s:=s) (i:=(l.map Prod.snd).length) ?_
   refine s_ldEN (s:=s) (l':=v0.1) zFu v0.2.1 ?_
   refine s_stN (b:=o) ?_ ok.vz.1 v0.2.1 v0.2.2
   refine s_dr ?_
   refine s_ld (b:=b) (x:=s) ?_
   refine s_ldN (b:=x3) (off:=0 + 1) (l:=G.f (k,v)) (l':=v.1) ?_ (List.take_of_length_le (Nat.le_of_eq v.2.1)) v.2.1
   refine s_idx (s:=s) (i:=(l.map Prod.snd).length) ?_
   refine s_stEN (s:=s) ?_ v.2.1 ?_ v.2.2
   rotate_left
   ·rw [zAL G.f _ G.f_len,hil,Nat.add_mul,Nat.add_mul]; omega
   rw [zPO]
   refine s_ret3 (v:=v0) ?_
   obtain ⟨q0',ps',e1,e2,e3,e4⟩:=zback l q (((k,v),q1)::r)
   have e5:l.map Prod.fst++q::(((k,v0),q1)::r).map Prod.snd = q0'::ps'.map Prod.snd:=e3.symm
   have e6:l.map Prod.snd++(k,v)::r.map Prod.fst = ps'.map Prod.fst:=e2.symm
   rw [e5,e6]
   refine s_end (Δ:=nodeB G b s kd::itsR G s (ps'.map Prod.fst)::kpsR G kd ((q0'::ps'.map Prod.snd).map ptr)::kidsR G d (q0'::ps'.map Prod.snd)::Γ) ?_
   simp only [List.length_cons] at hlen e1
   refine s_mkS (m:=2) (fun _ h=>?_) (by omega) ?_
   ·rw [h,List.length_nil] at e1; omega
   refine h1 _ _ _ (.inl ⟨preL l++q.2,q1.2++postL r,?_,?_,rfl⟩)
   ·simp [postL]
   ·rw [e4]; simp [postL]
  ·obtain ⟨l,q,r,rfl,rfl,hK,hL,hlen⟩:=zip_of (q0:=q0) e
   rw [e,hK]
   rw [hL] at hs h1 h2
   refine s_f ?_
   refine s_nn ?_
   have hkl:((l.map Prod.fst++q::r.map Prod.snd).map ptr).length = l.length + r.length + 1:=by simp; omega
   refine s_cap kd fun m1 m2 m3 m4=>?_
   rw [kp_len,hkl] at m1
   refine s_cap s fun l1 l2 l3 l4=>?_
   rw [zAL G.f _ G.f_len] at l1
   have hil:(l.map Prod.snd++r.map Prod.fst).length = l.length + r.length:=by simp
   have hn:s.n = l.length + r.length:=by rw [← hil]; exact (Nat.eq_of_mul_eq_mul_right (by omega) l1).symm
   refine s_ld (b:=b) (x:=kd) ?_
   refine s_f ?_ (by simp; omega)
   refine s_dr ?_
   refine s_ld (b:=b) (x:=kd) ?_
   refine s_idx (s:=kd) (i:=l.length) ?_ (by simp)
   refine s_ldE0 (s:=kd) (x:=ptr q) (by simp) ?_
   refine s_ldN (b:=x3) (l':=G.f (k,v)) ?_ (List.take_of_length_le (by simp [G.f_len])) (G.f_len _)
   refine s_pick (kidsR G d (l.map Prod.fst++q::r.map Prod.snd)) ?_
   refine s_kid ?_
   have hs1:=List.pairwise_append.1 hs
   have hs2:=List.pairwise_append.1 hs1.1
   have hpre:=pre_lt ok l hs2.1 hA
   have hpost:=zJo ok r hs1.2.1 hC
   refine ih (m:=2) (by omega) hs2.2.1 (fun M' old had hp=>?_) fun M1 x M2 old had rb mb hp=>?_
   ·refine s_stN (b:=o) ?_ ok.vz.1 old.2.1 old.2.2
    refine s_f ?_
    refine s_end (Δ:=valB G o old::nodeB G b s kd::itsR G s (l.map Prod.snd++r.map Prod.fst)::kpsR G kd ((l.map Prod.fst++q::r.map Prod.snd).map ptr)::NodeR G d 2 q.1 M'::kidsR G d (l.map Prod.fst++r.map Prod.snd)::Γ) ?_
    refine s_s1 ok (by omega) (.inr (by omega)) (fun h5=>?_) fun x h6 hx s1 c1 r s2 c2 mb=>(by omega)
    obtain ⟨q0',ps',e1,e2,e3,e4⟩:=zback l (q.1,M') r
    refine s_end (Δ:=NodeR G d 2 q.1 M'::kidsR G d (l.map Prod.fst++r.map Prod.snd)::nodeB G b s kd::itsR G s (l.map Prod.snd++r.map Prod.fst)::kpsR G kd ((l.map Prod.fst++q::r.map Prod.snd).map ptr)::Γ) ?_
    refine zEL (q:=(q.1,M')) ?_
    have e5:(l.map Prod.fst++q::r.map Prod.snd).map ptr = (l.map Prod.fst++(q.1,M')::r.map Prod.snd).map ptr:=by simp [ptr]
    rw [e5,← e2,← e3]
    refine s_end (Δ:=nodeB G b s kd::itsR G s (ps'.map Prod.fst)::kpsR G kd ((q0'::ps'.map Prod.snd).map ptr)::kidsR G d (q0'::ps'.map Prod.snd)::Γ) ?_
    refine s_mkS (m:=2) (fun _ h=>?_) (by omega) ?_
    ·rw [h] at e1; rw [List.length_nil] at e1
     exact hne hm (List.length_eq_zero_iff.1 (by omega))
    rw [e4]
    exact h1 _ _ _ (hp.mid hpre hpost)
   ·refine s_stN (b:=o) ?_ ok.vz.1 old.2.1 old.2.2
    refine s_t ?_
    refine s_dr ?_
    refine s_ws ?_
    refine s_nn ?_
    refine s_ldS (b:=b) (x:=s) ?_
    refine s_ldNS (b:=mb) (l':=G.f x) ?_ (List.take_of_length_le (by simp [G.f_len])) (G.f_len _)
    refine s_bld1 ?_ (by simp [ok.vz.1]) (G.f_len _)
    refine s_new fun t=>?_
    refine s_sv ?_
    obtain ⟨R,rot,hins⟩:=ok.insI
    refine fun w hw=>hins _ _ _ _ _ ?_
    refine hg hw ?_
    clear hw w
    refine s_ins (s:=s) (i:=(l.map Prod.snd).length) (t:=t) (by simp; omega) (by omega) (G.f_len _) (by omega) (zEq ok _) (f_flat ok _) (fun s' hs'=>?_) ok.TI ok.ZI
    rw [zMY]
    refine s_st (b:=b) ?_
    refine s_ld (b:=b) (x:=kd) ?_
    refine s_ai ?_ (by simp; omega) (by simp; omega)
    refine s_new fun t2=>?_
    have hkp:(l.map Prod.fst++q::r.map Prod.snd).map ptr = (l.map Prod.fst++[q]).map ptr++(r.map Prod.snd).map ptr:=by simp
    rw [hkp]
    have hkA:((l.map Prod.fst++[q]).map ptr).length = l.length + 1:=by simp
    obtain ⟨R2,rot2,hins2⟩:=ok.insK
    refine fun w hw=>hins2 _ _ _ _ _ ?_
    refine hg hw ?_
    clear hw w
    rw [show (((l.map Prod.snd).length:Nat):Int) + 1 = (((l.map Prod.fst++[q]).map ptr).length:Nat) by rw [hkA]; simp]
    refine s_ins (s:=kd) (i:=((l.map Prod.fst++[q]).map ptr).length) (t:=t2) (us:=[Value.pointer (some ⟨rb,0,none⟩)]) (by omega) (by omega) rfl (by omega) (zGV _) (by simp [flatV]) (fun kd' hkd'=>?_) ok.TK ok.ZK
    rw [zSD]
    refine s_st (b:=b) ?_
    obtain ⟨q0',ps',e1,e2,e3,e4⟩:=zback l (q.1,M1) ((x,(rb,M2))::r)
    simp only [List.length_cons] at e1
    have e5:(l.map Prod.fst++[q]).map ptr++some ⟨rb,0,none⟩::(r.map Prod.snd).map ptr = (q0'::ps'.map Prod.snd).map ptr:=by rw [e3]; simp [ptr]
    have e6:l.map Prod.snd++x::r.map Prod.fst = ps'.map Prod.fst:=e2.symm
    rw [e5,e6]
    refine s_end (Δ:=NodeR G d 2 rb M2::kidsR G d (l.map Prod.fst++r.map Prod.snd)::NodeR G d 2 q.1 M1::valB G o old::nodeB G b s' kd'::itsR G s' (ps'.map Prod.fst)::kpsR G kd' ((q0'::ps'.map Prod.snd).map ptr)::Γ) ?_
    refine zEL (q:=(rb,M2)) ?_
    refine s_swap ?_
    refine zEL (q:=(q.1,M1)) ?_
    rw [show l.map Prod.fst++(q.1,M1)::(rb,M2)::r.map Prod.snd = q0'::ps'.map Prod.snd from e3.symm]
    have hput:PutR c (G.z0 ok.vz) (preL l++q.2++postL r) k v (psL q0' ps') old had:=by
     rw [e4]
     have:=hp.mid hpre hpost
     simpa [postL] using this
    refine s_end (Δ:=valB G o old::nodeB G b s' kd'::itsR G s' (ps'.map Prod.fst)::kpsR G kd' ((q0'::ps'.map Prod.snd).map ptr)::kidsR G d (q0'::ps'.map Prod.snd)::Γ) ?_
    refine s_s1 ok (by simp; omega) (.inr (by simp)) (fun h5=>?_) fun y h6 hy s1 c1 r2 s2 c2 mb2=>?_
    ·rw [List.length_map] at h5
     refine s_end (Δ:=nodeB G b s' kd'::itsR G s' (ps'.map Prod.fst)::kpsR G kd' ((q0'::ps'.map Prod.snd).map ptr)::kidsR G d (q0'::ps'.map Prod.snd)::Γ) ?_
     refine s_mkS (m:=2) (fun _ h=>?_) h5 (h1 _ _ _ hput)
     rw [h,List.length_nil] at e1; omega
    ·rw [List.length_map] at h6
     obtain ⟨P,p3,R,hP,e7⟩:∃ P p3 R,P.length = 2∧ps' = P++p3::R:=⟨ps'.take 2,ps'[2],ps'.drop 3,by rw [List.length_take]; omega,by rw [← List.drop_eq_getElem_cons,List.take_append_drop]⟩
     have hRl:R.length = 3:=by have:=congrArg List.length e7; simp only [List.length_append,List.length_cons] at this; omega
     have t1:(ps'.map Prod.fst).take 2 = P.map Prod.fst:=by rw [e7,List.map_append]; exact List.take_left' (by simp [hP])
     have t2:(ps'.map Prod.fst).drop 3 = R.map Prod.fst:=by rw [e7,show P++p3::R = (P++[p3])++R by simp,List.map_append]; exact List.drop_left' (by simp [hP])
     have t3:q0'::ps'.map Prod.snd = (q0'::P.map Prod.snd)++(p3.2::R.map Prod.snd):=by rw [e7]; simp
     have t4:((q0'::ps'.map Prod.snd).map ptr).take 3 = (q0'::P.map Prod.snd).map ptr:=by rw [t3,List.map_append]; exact List.take_left' (by simp [hP])
     have t5:((q0'::ps'.map Prod.snd).map ptr).drop 3 = (p3.2::R.map Prod.snd).map ptr:=by rw [t3,List.map_append]; exact List.drop_left' (by simp [hP])
     have t6:psL q0' ps' = psL q0' P++p3.1::psL p3.2 R:=by rw [e7]; simp [psL]
     have t7:y = p3.1:=by
      rw [t1,t2,e7] at hy
      simp only [List.map_append,List.map_cons,List.append_cancel_left_eq,List.cons.injEq] at hy
      exact hy.1.symm
     rw [t4,t5,t1,t2,t3,t7]
     refine s_pick (kidsR G d ((q0'::P.map Prod.snd)++(p3.2::R.map Prod.snd))) ?_
     refine zI4 ?_
     refine s_end (Δ:=nodeB G b s1 c1::itsR G s1 (P.map Prod.fst)::kpsR G c1 ((q0'::P.map Prod.snd).map ptr)::kidsR G d (q0'::P.map Prod.snd)::nodeB G r2 s2 c2::itsR G s2 (R.map Prod.fst)::kpsR G c2 ((p3.2::R.map Prod.snd).map ptr)::kidsR G d (p3.2::R.map Prod.snd)::blk mb2 (.cells (G.f p3.1).toArray G.tI (0,0))::Γ) ?_
     refine s_mkS (m:=2) (fun _ h=>by rw [h] at hP; cases hP) (by omega) ?_
     refine s_end (Δ:=nodeB G r2 s2 c2::itsR G s2 (R.map Prod.fst)::kpsR G c2 ((p3.2::R.map Prod.snd).map ptr)::kidsR G d (p3.2::R.map Prod.snd)::blk mb2 (.cells (G.f p3.1).toArray G.tI (0,0))::NodeR G (d + 1) 2 b (psL q0' P)::Γ) ?_
     refine s_mkS (m:=2) (fun _ h=>by rw [h] at hRl; cases hRl) (by omega) ?_
     exact s_end (h2 _ _ _ _ _ r2 mb2 (t6 ▸ hput))
end
end Bt
end Go.Sep
namespace Go.Sep
open Go Go.RowKit
namespace Bt
section
variable {κ:Type} {G:BtT κ} {c:κ→κ→Int} {B:World} {Γ Δ:List HProp}
def TreeR (G:BtT κ) (c:κ→κ→Int) (t:Nat) (L:List G.It):HProp:=ex fun d=>ex fun b=>Sep.stars [pur (Srt c L),blk t (.cells [.pointer (some ⟨b,0,none⟩),.int .i64 L.length].toArray G.tT (0,0)),NodeR G d 1 b L]
instance (priority:=high) zUX {t:Nat} {L:List G.It}:Own t (TreeR G c t L::Γ) (TreeR G c t L) Γ:=⟨.refl _⟩
theorem s_tree {t:Nat} {L:List G.It} {k:K} (h:∀ d b,Srt c L→HG B (blk t (.cells [.pointer (some ⟨b,0,none⟩),.int .i64 L.length].toArray G.tT (0,0))::NodeR G d 1 b L::Γ) k):HG B (TreeR G c t L::Γ) k :=
 s_ex fun d=>s_ex fun b=>s_flat <| s_pur fun h1=>h d b h1
theorem zTY {t d b:Nat} {L:List G.It} {w:World} (h1:Srt c L) (hw:Holds B (blk t (.cells [.pointer (some ⟨b,0,none⟩),.int .i64 L.length].toArray G.tT (0,0))::NodeR G d 1 b L::Γ) w):Holds B (TreeR G c t L::Γ) w:=by
 have h3:Holds B (Sep.stars [pur (Srt c L),blk t (.cells [.pointer (some ⟨b,0,none⟩),.int .i64 L.length].toArray G.tT (0,0)),NodeR G d 1 b L]::Γ) w:=Holds.flat.2 (Holds.pur.2 ⟨h1,hw⟩)
 exact h3.imp fun g hg=>⟨d,b,hg⟩
theorem zFC {t d b:Nat} {L:List G.It} {k:K} (h1:Srt c L) (h:HG B (TreeR G c t L::Γ) k):HG B (blk t (.cells [.pointer (some ⟨b,0,none⟩),.int .i64 L.length].toArray G.tT (0,0))::NodeR G d 1 b L::Γ) k:=fun w hw=>h w (zTY h1 hw)
theorem zKW {t:Nat} {L:List G.It} {k:K} (h:Srt c L→HG B (TreeR G c t L::Γ) k):HG B (TreeR G c t L::Γ) k:=s_tree fun d b h1=>zFC h1 (h h1)
theorem zQp {Q:Option Addr→K} (h:∀ t,HG B (TreeR G c t []::Γ) (Q (some ⟨t,0,none⟩))):HG B Γ (tnew G Q):=by
 unfold tnew
 refine s_new fun b=>?_
 refine s_new fun t=>?_
 refine fun w hw=>?_
 refine hg (show Holds B (SlC G.tI (G.nv + 1) ⟨none,0,0⟩ []::_) w from hw.nilSl G.tI (G.nv + 1)) ?_
 refine fun w hw=>?_
 refine hg (show Holds B (SlC G.tK 1 ⟨none,0,0⟩ []::_) w from hw.nilSl G.tK 1) ?_
 refine s_end (Δ:=nodeB G b ⟨none,0,0⟩ ⟨none,0,0⟩::SlC G.tI (G.nv + 1) ⟨none,0,0⟩ []::SlC G.tK 1 ⟨none,0,0⟩ []::blk t (.cells [.pointer (some ⟨b,0,none⟩),.int .i64 0].toArray G.tT (0,0))::Γ) ?_
 refine s_mk0 (m:=1) (L:=[]) (by simp) (by simp) ?_
 refine s_swap ?_
 exact zFC (L:=[]) List.Pairwise.nil (h t)
theorem NodeR.weak {d m m' b:Nat} {L:List G.It} (hm:m' = 2→m = 2) (hm':1 ≤ m'→1 ≤ m):∀ h,NodeR G d m b L h→NodeR G d m' b L h:=fun h hh=>by
 cases d with
 | zero =>
  obtain ⟨s,kd,hh⟩:=hh
  exact ⟨s,kd,zD9 (fun g hg=>⟨fun h2=>hg.1 (hm h2),hg.2⟩) (fun _ h=>h) hh⟩
 | succ d =>
  obtain ⟨s,kd,q0,ps,hh⟩:=hh
  exact ⟨s,kd,q0,ps,zD9 (fun g hg=>⟨fun h2=>hg.1 (hm' h2),hg.2⟩) (fun _ h=>h) hh⟩
theorem PutR.srt (ok:BtOk G c) {ν:Type} {z v old:ν} {L L':List (κ×ν)} {k:κ} {had:Bool} (h:PutR c z L k v L' old had) (hs:Srt c L):Srt c L':=by
 rcases h with ⟨A,C,rfl,rfl,rfl⟩ | ⟨A,C,rfl,h1,h2,rfl,rfl,rfl⟩
 ·obtain ⟨a1,a2,a3⟩:=List.pairwise_append.1 hs
  obtain ⟨b1,b2⟩:=List.pairwise_cons.1 a2
  refine List.pairwise_append.2 ⟨a1,List.pairwise_cons.2 ⟨fun y hy=>b1 y hy,b2⟩,fun x hx y hy=>?_⟩
  rcases List.mem_cons.1 hy with rfl | hy
  ·exact a3 x hx (k,old) List.mem_cons_self
  ·exact a3 x hx y (List.mem_cons_of_mem _ hy)
 ·obtain ⟨a1,a2,a3⟩:=List.pairwise_append.1 hs
  refine List.pairwise_append.2 ⟨a1,List.pairwise_cons.2 ⟨fun y hy=>h2 y hy,a2⟩,fun x hx y hy=>?_⟩
  rcases List.mem_cons.1 hy with rfl | hy
  ·exact h1 x hx
  ·exact a3 x hx y hy
theorem PutR.len {ν:Type} {z v old:ν} {L L':List (κ×ν)} {k:κ} {had:Bool} (h:PutR c z L k v L' old had):L'.length = L.length + (if had then 0 else 1):=by
 rcases h with ⟨A,C,rfl,rfl,rfl⟩ | ⟨A,C,rfl,h1,h2,rfl,rfl,rfl⟩
 ·simp
 ·simp; omega
theorem zTZ {kz a:Value} {vz us:List Value} {n:Nat} (ha:flatV a = true) (hz:vz.length = n) (hu:us.length = n):Instr.fill ([(0,1),(1,n)][·]?) (kz::vz).toArray [(0,a),(1,.agg us.toArray)] = some (a::us).toArray:=by
 have h0:a.cells = #[a]:=by cases a <;> first | rfl | (simp [flatV] at ha)
 have h1:(Value.agg us.toArray).cells = us.toArray:=rfl
 have e0:([(0,1),(1,n)]:List (Nat×Nat))[0]? = some (0,1):=rfl
 have e1:([(0,1),(1,n)]:List (Nat×Nat))[1]? = some (1,n):=rfl
 simp only [Instr.fill,h0,h1,e0,e1]
 have h2:=zE3 us [a] vz (by simp; omega)
 simp [hu,hz]
 refine ⟨by omega,?_⟩
 rw [show [a].length = 1 from rfl,List.zipIdx_eq_map_add,List.foldl_map] at h2
 simpa [Nat.add_comm] using h2
theorem zPP (ok:BtOk G c) {o t6:Nat} {old:Cel G.nv} {v6:Cel G.nv} {had:Bool} {Q:Array Value→Bool→K} (h:HG B Γ (Q old.1.toArray had)):HG B (valB G o old::valB G t6 v6::Γ) (zJn G Q ⟨t6,0,none⟩ ⟨o,0,none⟩ had):=by
 unfold zJn
 have e:(old.1.drop 0).take G.nv = old.1:=by rw [List.drop_zero,List.take_of_length_le (Nat.le_of_eq old.2.1)]
 refine s_ldN (b:=o) ?_ e old.2.1
 refine s_stN (b:=t6) ?_ v6.2.1 old.2.1 old.2.2
 refine s_ldN (b:=t6) ?_ e old.2.1
 exact s_end h
theorem zLp (ok:BtOk G c) {o t t6 d b n:Nat} {L L':List G.It} {k:κ} {v old v6:Cel G.nv} {had:Bool} {Q:Array Value→Bool→K} (hs:Srt c L) (hL:L.length < 1000000000) (hp:PutR c (G.z0 ok.vz) L k v L' old had)
  (h:HG B (TreeR G c t L'::Γ) (Q old.1.toArray had)) :
  HG B (valB G o old::valB G t6 v6::blk t (.cells [.pointer (some ⟨b,0,none⟩),.int .i64 L.length].toArray G.tT (0,0))::NodeR G d 1 b L'::Γ) (zHM G Q (some ⟨t,0,none⟩) ⟨t6,0,none⟩ ⟨o,0,none⟩ had):=by
 unfold zHM
 have hlen:=hp.len
 refine s_ite (fun hb=>?_) fun hb=>?_
 ·have h0:had = false:=by simpa using hb
  refine s_nn ?_
  refine s_ld (b:=t) (x:=(L.length:Int)) ?_
  refine s_ai ?_
  refine s_st (b:=t) ?_
  rw [show ((L.length:Nat):Int) + 1 = ((L'.length:Nat):Int) by rw [hlen,h0]; simp]
  refine s_end (Δ:=valB G o old::valB G t6 v6::blk t (.cells [.pointer (some ⟨b,0,none⟩),.int .i64 L'.length].toArray G.tT (0,0))::NodeR G d 1 b L'::Γ) ?_
  refine zPP ok ?_
  exact zFC (hp.srt ok hs) h
 ·have h0:had = true:=by simpa using hb
  rw [show ((L.length:Nat):Int) = ((L'.length:Nat):Int) by rw [hlen,h0]; simp]
  refine zPP ok ?_
  exact zFC (hp.srt ok hs) h
theorem zPQ (ok:BtOk G c) {o t t6 d b n:Nat} {L L':List G.It} {k:κ} {v old v6:Cel G.nv} {had:Bool} {Q:Array Value→Bool→K} (hs:Srt c L) (hL:L.length < 1000000000) (hp:PutR c (G.z0 ok.vz) L k v L' old had)
  (h:HG B (TreeR G c t L'::Γ) (Q old.1.toArray had)) :
  HG B (valB G o old::valB G t6 v6::blk t (.cells [.pointer (some ⟨b,0,none⟩),.int .i64 L.length].toArray G.tT (0,0))::NodeR G d 2 b L'::Γ) (zGU G Q (some ⟨t,0,none⟩) ⟨t6,0,none⟩ ⟨o,0,none⟩ had none none):=by
 unfold zGU
 refine s_f ?_
 refine s_own b ?_
 refine s_conv (NodeR.weak (m':=1) (by simp) (by simp)) ?_
 refine s_end (Δ:=valB G o old::valB G t6 v6::blk t (.cells [.pointer (some ⟨b,0,none⟩),.int .i64 L.length].toArray G.tT (0,0))::NodeR G d 1 b L'::Γ) ?_
 exact zLp ok (n:=n) hs hL hp h
theorem s_root {b r b2 t1 t2 d:Nat} {M1 M2:List G.It} {x:G.It} {k:K} (h:HG B (NodeR G (d + 1) 1 b2 (M1++x::M2)::Γ) k) :
  HG B (nodeB G b2 ⟨some ⟨t1,0,none⟩,1,1⟩ ⟨some ⟨t2,0,none⟩,2,2⟩::blk t1 (.cells (G.f x).toArray G.tI (0,0))::blk t2 (.cells [.pointer (some ⟨b,0,none⟩),.pointer (some ⟨r,0,none⟩)].toArray G.tK (0,0))::NodeR G d 2 b M1::NodeR G d 2 r M2::Γ) k:=by
 refine s_own t1 ?_
 refine s_conv (A':=itsR G ⟨some ⟨t1,0,none⟩,1,1⟩ [x]) (zDk (vs:=[x].flatMap G.f) (by simp) (by simp [G.f_len])) ?_
 refine s_own t2 ?_
 refine s_conv (A':=kpsR G ⟨some ⟨t2,0,none⟩,2,2⟩ [some ⟨b,0,none⟩,some ⟨r,0,none⟩]) (zDk (vs:=[Value.pointer (some ⟨b,0,none⟩),Value.pointer (some ⟨r,0,none⟩)]) (by simp) (by simp)) ?_
 refine fun w hw=>?_
 refine hg (show Holds B (kidsR G d []::_) w from Holds.flat.2 hw) ?_
 refine s_end (Δ:=NodeR G d 2 r M2::kidsR G d []::NodeR G d 2 b M1::nodeB G b2 ⟨some ⟨t1,0,none⟩,1,1⟩ ⟨some ⟨t2,0,none⟩,2,2⟩::itsR G ⟨some ⟨t1,0,none⟩,1,1⟩ [x]::kpsR G ⟨some ⟨t2,0,none⟩,2,2⟩ [some ⟨b,0,none⟩,some ⟨r,0,none⟩]::Γ) ?_
 show HG B (_::kidsR G d ([]++[])::_) k
 refine zEL (A:=[]) (C:=[]) (q:=(r,M2)) ?_
 refine s_swap ?_
 refine zEL (A:=[]) (C:=[(r,M2)]) (q:=(b,M1)) ?_
 show HG B (kidsR G d (((b,M1):Kid G)::[(x,((r,M2):Kid G))].map Prod.snd)::_::itsR G ⟨some ⟨t1,0,none⟩,1,1⟩ ([(x,((r,M2):Kid G))].map Prod.fst)::kpsR G ⟨some ⟨t2,0,none⟩,2,2⟩ ((((b,M1):Kid G)::[(x,((r,M2):Kid G))].map Prod.snd).map ptr)::_) k
 refine s_end (Δ:=nodeB G b2 ⟨some ⟨t1,0,none⟩,1,1⟩ ⟨some ⟨t2,0,none⟩,2,2⟩::itsR G ⟨some ⟨t1,0,none⟩,1,1⟩ ([(x,((r,M2):Kid G))].map Prod.fst)::kpsR G ⟨some ⟨t2,0,none⟩,2,2⟩ ((((b,M1):Kid G)::[(x,((r,M2):Kid G))].map Prod.snd).map ptr)::kidsR G d (((b,M1):Kid G)::[(x,((r,M2):Kid G))].map Prod.snd)::Γ) ?_
 refine s_mkS (m:=1) (by simp) (by simp) ?_
 have e:psL ((b,M1):Kid G) [(x,(r,M2))] = M1++x::M2:=by simp [psL]
 rw [e]; exact h
theorem zNx (ok:BtOk G c) {o t t6 d b n r mb:Nat} {L M1 M2:List G.It} {x:G.It} {k:κ} {v old v6:Cel G.nv} {had:Bool} {Q:Array Value→Bool→K} (hs:Srt c L) (hL:L.length < 1000000000) (hp:PutR c (G.z0 ok.vz) L k v (M1++x::M2) old had)
  (h:HG B (TreeR G c t (M1++x::M2)::Γ) (Q old.1.toArray had)) :
  HG B (valB G o old::valB G t6 v6::blk t (.cells [.pointer (some ⟨b,0,none⟩),.int .i64 L.length].toArray G.tT (0,0))::blk mb (.cells (G.f x).toArray G.tI (0,0))::NodeR G d 2 b M1::NodeR G d 2 r M2::Γ) (zGU G Q (some ⟨t,0,none⟩) ⟨t6,0,none⟩ ⟨o,0,none⟩ had (some ⟨mb,0,none⟩) (some ⟨r,0,none⟩)):=by
 unfold zGU
 refine s_t ?_
 refine s_dr ?_
 refine s_ws ?_
 refine s_nn ?_
 refine s_nn ?_
 refine s_ldNS (b:=mb) (l':=G.f x) ?_ (List.take_of_length_le (by simp [G.f_len])) (G.f_len _)
 refine s_ldS (b:=t) (x:=some ⟨b,0,none⟩) ?_
 refine s_all2 ?_ ?_
 ·refine s_bld1 ?_ (by simp [ok.vz.1]) (G.f_len _)
  refine s_new fun t1=>?_
  refine s_sv ?_
  refine s_new fun t2=>?_
  refine s_sv ?_
  refine s_new fun b2=>?_
  refine s_st (b:=t) ?_
  refine s_end (Δ:=nodeB G b2 ⟨some ⟨t1,0,none⟩,1,1⟩ ⟨some ⟨t2,0,none⟩,2,2⟩::blk t1 (.cells (G.f x).toArray G.tI (0,0))::blk t2 (.cells [.pointer (some ⟨b,0,none⟩),.pointer (some ⟨r,0,none⟩)].toArray G.tK (0,0))::NodeR G d 2 b M1::NodeR G d 2 r M2::valB G o old::valB G t6 v6::blk t (.cells [.pointer (some ⟨b2,0,none⟩),.int .i64 L.length].toArray G.tT (0,0))::Γ) ?_
  refine s_root ?_
  refine s_end (Δ:=valB G o old::valB G t6 v6::blk t (.cells [.pointer (some ⟨b2,0,none⟩),.int .i64 L.length].toArray G.tT (0,0))::NodeR G (d + 1) 1 b2 (M1++x::M2)::Γ) ?_
  exact zLp ok (n:=n) hs hL hp h
 ·refine s_new fun t2=>?_
  refine s_sv ?_
  refine s_bld1 ?_ (by simp [ok.vz.1]) (G.f_len _)
  refine s_new fun t1=>?_
  refine s_sv ?_
  refine s_new fun b2=>?_
  refine s_st (b:=t) ?_
  refine s_end (Δ:=nodeB G b2 ⟨some ⟨t1,0,none⟩,1,1⟩ ⟨some ⟨t2,0,none⟩,2,2⟩::blk t1 (.cells (G.f x).toArray G.tI (0,0))::blk t2 (.cells [.pointer (some ⟨b,0,none⟩),.pointer (some ⟨r,0,none⟩)].toArray G.tK (0,0))::NodeR G d 2 b M1::NodeR G d 2 r M2::valB G o old::valB G t6 v6::blk t (.cells [.pointer (some ⟨b2,0,none⟩),.int .i64 L.length].toArray G.tT (0,0))::Γ) ?_
  refine s_root ?_
  refine s_end (Δ:=valB G o old::valB G t6 v6::blk t (.cells [.pointer (some ⟨b2,0,none⟩),.int .i64 L.length].toArray G.tT (0,0))::NodeR G (d + 1) 1 b2 (M1++x::M2)::Γ) ?_
  exact zLp ok (n:=n) hs hL hp h
theorem zQq (ok:BtOk G c) {t:Nat} {L:List G.It} {k:κ} {v:Cel G.nv} {Q:Array Value→Bool→K} (hL:L.length < 1000000000) (h:∀ L' old had,PutR c (G.z0 ok.vz) L k v L' old had→HG B (TreeR G c t L'::Γ) (Q old.1.toArray had)) :
  HG B (TreeR G c t L::Γ) (tput G (some ⟨t,0,none⟩) k v.1.toArray Q):=by
 refine s_tree fun d b hs=>?_
 unfold tput
 refine s_new fun v5=>?_
 refine s_new fun t6=>?_
 refine s_dr ?_
 refine s_ws ?_
 refine s_nn ?_
 refine s_ldS (b:=t) (x:=some ⟨b,0,none⟩) ?_
 refine s_ldNS (b:=v5) (off:=0) (l:=v.1) (l':=v.1) ?_ (List.take_of_length_le (Nat.le_of_eq v.2.1)) v.2.1
 refine s_bld (cs:=G.f (k,v)) ?_ (zTZ (ok.kf k) ok.vz.1 v.2.1)
 refine s_all2 ?_ ?_
 ·refine s_end (Δ:=NodeR G d 1 b L::blk t (.cells [.pointer (some ⟨b,0,none⟩),.int .i64 L.length].toArray G.tT (0,0))::valB G t6 (G.z0 ok.vz)::Γ) ?_
  refine zMZ ok d (m:=1) (Nat.le_refl _) hs (fun M' old had hp=>?_) fun M1 x M2 old had r mb hp=>?_
  ·refine s_new fun o=>?_
   refine s_stN (b:=o) ?_ ok.vz.1 old.2.1 old.2.2
   refine s_end (Δ:=valB G o old::valB G t6 (G.z0 ok.vz)::blk t (.cells [.pointer (some ⟨b,0,none⟩),.int .i64 L.length].toArray G.tT (0,0))::NodeR G d 2 b M'::Γ) ?_
   exact zPQ ok (n:=0) hs hL hp (h _ _ _ hp)
  ·refine s_new fun o=>?_
   refine s_stN (b:=o) ?_ ok.vz.1 old.2.1 old.2.2
   refine s_end (Δ:=valB G o old::valB G t6 (G.z0 ok.vz)::blk t (.cells [.pointer (some ⟨b,0,none⟩),.int .i64 L.length].toArray G.tT (0,0))::blk mb (.cells (G.f x).toArray G.tI (0,0))::NodeR G d 2 b M1::NodeR G d 2 r M2::Γ) ?_
   exact zNx ok (n:=0) hs hL hp (h _ _ _ hp)
 ·refine s_new fun o=>?_
  refine s_sv ?_
  refine s_end (Δ:=NodeR G d 1 b L::blk t (.cells [.pointer (some ⟨b,0,none⟩),.int .i64 L.length].toArray G.tT (0,0))::valB G t6 (G.z0 ok.vz)::valB G o (G.z0 ok.vz)::Γ) ?_
  refine zMZ ok d (m:=1) (Nat.le_refl _) hs (fun M' old had hp=>?_) fun M1 x M2 old had r mb hp=>?_
  ·refine s_stN (b:=o) ?_ ok.vz.1 old.2.1 old.2.2
   refine s_end (Δ:=valB G o old::valB G t6 (G.z0 ok.vz)::blk t (.cells [.pointer (some ⟨b,0,none⟩),.int .i64 L.length].toArray G.tT (0,0))::NodeR G d 2 b M'::Γ) ?_
   exact zPQ ok (n:=0) hs hL hp (h _ _ _ hp)
  ·refine s_stN (b:=o) ?_ ok.vz.1 old.2.1 old.2.2
   refine s_end (Δ:=valB G o old::valB G t6 (G.z0 ok.vz)::blk t (.cells [.pointer (some ⟨b,0,none⟩),.int .i64 L.length].toArray G.tT (0,0))::blk mb (.cells (G.f x).toArray G.tI (0,0))::NodeR G d 2 b M1::NodeR G d 2 r M2::Γ) ?_
   exact zNx ok (n:=0) hs hL hp (h _ _ _ hp)
structure At (G:BtT κ) where
 d:Nat
 m:Nat
 b:Nat
 M:List G.It
 W:List HProp
 A:List G.It
 C:List G.It
theorem zQr (ok:BtOk G c) {t:Nat} {L:List G.It} {k:κ} {Q:Array Value→Bool→K} (hfound:∀ A v C,L = A++(k,v)::C→HG B (TreeR G c t L::Γ) (Q v.1.toArray true)) (hnot:(∀ A C,L = A++C→(∀ x ∈ A,c x.1 k < 0)→(∀ x ∈ C,c k x.1 < 0)→HG B (TreeR G c t L::Γ) (Q G.vz.toArray false))) :
  HG B (TreeR G c t L::Γ) (tget G (some ⟨t,0,none⟩) k Q):=by
 refine s_tree fun d b hs=>?_
 unfold tget
 refine s_new fun o=>?_
 refine s_nn ?_
 refine s_ld (b:=t) (x:=some ⟨b,0,none⟩) ?_
 let W0:List HProp:=blk t (.cells [.pointer (some ⟨b,0,none⟩),.int .i64 L.length].toArray G.tT (0,0))::Γ
 refine s_end (Δ:=NodeR G d 1 b L::valB G o (G.z0 ok.vz)::W0) ?_
 refine s_loop (ι:=At G) (fun x i=>x = some ⟨i.b,0,none⟩∧L = i.A++i.M++i.C∧(∀ x ∈ i.A,c x.1 k < 0)∧(∀ x ∈ i.C,c k x.1 < 0)∧∀ k',HG B (TreeR G c t L::Γ) k'→HG B (NodeR G i.d i.m i.b i.M::i.W) k')
  (fun x i=>NodeR G i.d i.m i.b i.M::valB G o (G.z0 ok.vz)::i.W) (fun x i=>i.d) (⟨d,1,b,L,W0,[],[]⟩:At G) ⟨rfl,by simp,by simp,by simp,fun k' hk=>?_⟩ ?_
 ·refine s_end (Δ:=blk t (.cells [.pointer (some ⟨b,0,none⟩),.int .i64 L.length].toArray G.tT (0,0))::NodeR G d 1 b L::Γ) ?_
  exact zFC hs hk
 clear d b W0
 rintro k' _ ⟨d,m,b,M,W,A,C⟩ ⟨rfl,hL,hA,hC,cl⟩ hk
 simp only at hL hA hC cl hk ⊢
 have hsM:Srt c M:=by rw [hL] at hs; exact (List.pairwise_append.1 (List.pairwise_append.1 hs).1).2.1
 unfold zPN
 cases d with
 | zero =>
  refine zHO fun s kd hm hl=>?_
  refine zFt ok (s:=s) (kd:=kd) hsM (by omega) (fun A' v C' e=>?_) fun A' C' e hA' hC'=>?_
  ·subst e
   refine s_t ?_
   refine s_nn ?_
   refine s_cap s fun l1 l2 l3 l4=>?_
   rw [zAL G.f _ G.f_len] at l1
   have hn:s.n = (A'++(k,v)::C').length:=(Nat.eq_of_mul_eq_mul_right (by omega) l1).symm
   have hlen:(A'++(k,v)::C').length = A'.length + (C'.length + 1):=List.length_append
   refine s_ld (b:=b) (x:=s) ?_
   refine s_idx (s:=s) (i:=A'.length) ?_
   refine s_ldEN (s:=s) (l':=v.1) zFu v.2.1 ?_
   refine s_stN (b:=o) ?_ ok.vz.1 v.2.1 v.2.2
   refine s_ldN (b:=o) (off:=0) (l:=v.1) (l':=v.1) ?_ (List.take_of_length_le (Nat.le_of_eq v.2.1)) v.2.1
   refine s_end (Δ:=nodeB G b s kd::itsR G s (A'++(k,v)::C')::kpsR G kd []::W) ?_
   refine s_mk0 hm hl (cl _ (hfound (A++A') v (C'++C) ?_))
   rw [hL]; simp
  ·subst e
   refine s_f ?_
   refine s_nn ?_
   refine s_cap kd fun m1 m2 m3 m4=>?_
   refine s_ld (b:=b) (x:=kd) ?_
   refine s_t ?_ (by simpa using m1.symm)
   refine s_ret3 (v:=G.z0 ok.vz) ?_
   refine s_end (Δ:=nodeB G b s kd::itsR G s (A'++C')::kpsR G kd []::W) ?_
   refine s_mk0 hm hl (cl _ (hnot (A++A') (C'++C) ?_ (fun x hx=>?_) fun x hx=>?_))
   ·rw [hL]; simp
   ·rcases List.mem_append.1 hx with hx | hx
    ·exact hA x hx
    ·exact hA' x hx
   ·rcases List.mem_append.1 hx with hx | hx
    ·exact hC' x hx
    ·exact hC x hx
 | succ d =>
  refine zJp fun s kd q0 ps hne hl hM=>?_
  subst hM
  refine zFt ok (s:=s) (kd:=kd) (hsM.sub (zHN q0 ps)) (by simp; omega) (fun A' v C' e=>?_) fun A' C' e hA' hC'=>?_
  ·rw [e]
   refine s_t ?_
   refine s_nn ?_
   refine s_cap s fun l1 l2 l3 l4=>?_
   rw [zAL G.f _ G.f_len] at l1
   have hn:s.n = (A'++(k,v)::C').length:=(Nat.eq_of_mul_eq_mul_right (by omega) l1).symm
   have hlen:(A'++(k,v)::C').length = A'.length + (C'.length + 1):=List.length_append
   refine s_ld (b:=b) (x:=s) ?_
   refine s_idx (s:=s) (i:=A'.length) ?_
   refine s_ldEN (s:=s) (l':=v.1) zFu v.2.1 ?_
   refine s_stN (b:=o) ?_ ok.vz.1 v.2.1 v.2.2
   refine s_ldN (b:=o) (off:=0) (l:=v.1) (l':=v.1) ?_ (List.take_of_length_le (Nat.le_of_eq v.2.1)) v.2.1
   rw [← e]
   refine s_end (Δ:=nodeB G b s kd::itsR G s (ps.map Prod.fst)::kpsR G kd ((q0::ps.map Prod.snd).map ptr)::kidsR G d (q0::ps.map Prod.snd)::W) ?_
   obtain ⟨A2,C2,e2⟩:∃ A2 C2,psL q0 ps = A2++(k,v)::C2:=List.append_of_mem ((zHN q0 ps).subset (by rw [e]; simp))
   refine s_mkS hne hl (cl _ (hfound (A++A2) v (C2++C) ?_))
   rw [hL,e2]; simp
  ·obtain ⟨l,q,r,rfl,rfl,hK,hL2,hlen⟩:=zip_of (q0:=q0) e
   rw [hK]
   rw [hL2] at hsM hL
   refine s_f ?_
   refine s_nn ?_
   have hkl:((l.map Prod.fst++q::r.map Prod.snd).map ptr).length = l.length + r.length + 1:=by simp; omega
   refine s_cap kd fun m1 m2 m3 m4=>?_
   rw [kp_len,hkl] at m1
   refine s_ld (b:=b) (x:=kd) ?_
   refine s_f ?_ (by simp; omega)
   refine s_ld (b:=b) (x:=kd) ?_
   refine s_idx (s:=kd) (i:=l.length) ?_ (by simp)
   refine s_ldE0 (s:=kd) (x:=ptr q) (by simp) ?_
   refine s_pick (kidsR G d (l.map Prod.fst++q::r.map Prod.snd)) ?_
   refine s_kid ?_
   have hs1:=List.pairwise_append.1 hsM
   have hs2:=List.pairwise_append.1 hs1.1
   have hpre:=pre_lt ok l hs2.1 hA'
   have hpost:=zJo ok r hs1.2.1 hC'
   refine s_end (Δ:=NodeR G d 2 q.1 q.2::valB G o (G.z0 ok.vz)::kidsR G d (l.map Prod.fst++r.map Prod.snd)::nodeB G b s kd::itsR G s (ps.map Prod.fst)::kpsR G kd ((l.map Prod.fst++q::r.map Prod.snd).map ptr)::W) ?_
   refine hk _ (⟨d,2,q.1,q.2,kidsR G d (l.map Prod.fst++r.map Prod.snd)::nodeB G b s kd::itsR G s (ps.map Prod.fst)::kpsR G kd ((l.map Prod.fst++q::r.map Prod.snd).map ptr)::W,A++preL l,postL r++C⟩:At G) ⟨rfl,?_,fun x hx=>?_,fun x hx=>?_,fun k' hk'=>?_⟩ (Nat.lt_succ_self _)
   ·rw [hL]; simp
   ·rcases List.mem_append.1 hx with hx | hx
    ·exact hA x hx
    ·exact hpre x hx
   ·rcases List.mem_append.1 hx with hx | hx
    ·exact hpost x hx
    ·exact hC x hx
   ·refine zEL ?_
    rw [← hK]
    refine s_end (Δ:=nodeB G b s kd::itsR G s (ps.map Prod.fst)::kpsR G kd ((q0::ps.map Prod.snd).map ptr)::kidsR G d (q0::ps.map Prod.snd)::W) ?_
    exact s_mkS hne hl (cl k' hk')
end
end Bt
end Go.Sep
namespace Go.Proofs.YtdemfamgieonbaaGreat
open Go Go.Sep
set_option maxRecDepth 100000
set_option maxHeartbeats 4000000
attribute [local irreducible] G Gp Cx Tx Ex Sx Dx Ox Ax Lx Rx Fx Bx Bj Al Do Ld LdN St StN New CallF Ar DoU Rd Rd2 Pu Cd Ite Fv CallV CallY Ans0 Ans1 Ans2 Ans3 Ans4 Ans5 Ext Dead Dr WithS Sv LdS LdNS RdS Rd2S Nn Idx IdxA IdxS Fld Bld Slc SlcS Cat All LoopK RangeF RangeJ TakeD
namespace F_IRBtree
instance at_331:AT Tryz.prog 331 5:=⟨by kernel_rfl⟩
instance at_87:AT Tryz.prog 87 4:=⟨by kernel_rfl⟩
instance cb_164:CB Tryz.prog 164:=⟨by kernel_rfl⟩
instance cb_201:CB Tryz.prog 201:=⟨by kernel_rfl⟩
instance cb_230:CB Tryz.prog 230:=⟨by kernel_rfl⟩
instance cb_232:CB Tryz.prog 232:=⟨by kernel_rfl⟩
instance cb_245:CB Tryz.prog 245:=⟨by kernel_rfl⟩
instance cb_246:CB Tryz.prog 246:=⟨by kernel_rfl⟩
instance cb_247:CB Tryz.prog 247:=⟨by kernel_rfl⟩
instance cb_248:CB Tryz.prog 248:=⟨by kernel_rfl⟩
instance cb_249:CB Tryz.prog 249:=⟨by kernel_rfl⟩
instance cb_250:CB Tryz.prog 250:=⟨by kernel_rfl⟩
instance cb_251:CB Tryz.prog 251:=⟨by kernel_rfl⟩
instance cb_252:CB Tryz.prog 252:=⟨by kernel_rfl⟩
instance cb_253:CB Tryz.prog 253:=⟨by kernel_rfl⟩
instance cb_254:CB Tryz.prog 254:=⟨by kernel_rfl⟩
instance ct_191:CT Tryz.prog 191:=⟨by kernel_rfl⟩
instance ct_256:CT Tryz.prog 256:=⟨by kernel_rfl⟩
instance ct_257:CT Tryz.prog 257:=⟨by kernel_rfl⟩
instance ct_258:CT Tryz.prog 258:=⟨by kernel_rfl⟩
instance ct_3:CT Tryz.prog 3:=⟨by kernel_rfl⟩
instance ct_9:CT Tryz.prog 9:=⟨by kernel_rfl⟩
instance zUY:FT Tryz.prog 260 0 0 1:=⟨by kernel_rfl⟩
instance zUZ:FT Tryz.prog 260 1 1 1:=⟨by kernel_rfl⟩
instance zUa:FT Tryz.prog 262 0 0 1:=⟨by kernel_rfl⟩
instance zUb:FT Tryz.prog 262 1 1 1:=⟨by kernel_rfl⟩
instance zUc:FT Tryz.prog 331 0 0 1:=⟨by kernel_rfl⟩
instance zUd:FT Tryz.prog 331 1 1 4:=⟨by kernel_rfl⟩
instance mx:MX Tryz.prog:=⟨mixed⟩
instance pl_260:PLT Tryz.prog 260 [(0,1),(1,1)]:=⟨_,Tryz.underlying260,by kernel_rfl⟩
instance pl_262:PLT Tryz.prog 262 [(0,1),(1,1)]:=⟨_,Tryz.underlying262,by kernel_rfl⟩
instance pl_331:PLT Tryz.prog 331 [(0,1),(1,4)]:=⟨_,Tryz.underlying331,by kernel_rfl⟩
instance sl_257:SLT Tryz.prog 257 331 5:=⟨by kernel_rfl⟩
instance sl_258:SLT Tryz.prog 258 256 1:=⟨by kernel_rfl⟩
instance sz_256:SZ Tryz.prog 256 1:=⟨by kernel_rfl⟩
instance sz_257:SZ Tryz.prog 257 1:=⟨by kernel_rfl⟩
instance sz_258:SZ Tryz.prog 258 1:=⟨by kernel_rfl⟩
instance sz_3:SZ Tryz.prog 3 1:=⟨by kernel_rfl⟩
instance sz_331:SZ Tryz.prog 331 5:=⟨by kernel_rfl⟩
instance sz_87:SZ Tryz.prog 87 4:=⟨by kernel_rfl⟩
instance un_332:UN Tryz.prog 332 (.pointer 9):=⟨Tryz.underlying332⟩
instance un_360:UN Tryz.prog 360 (.pointer 331):=⟨Tryz.underlying360⟩
instance zt_256:ZT Tryz.prog 256 (.pointer none):=⟨Tryz.t256,by kernel_rfl,by kernel_rfl⟩
instance zt_260:ZT Tryz.prog 260 (.agg #[(Sl.val ⟨none,0,0⟩),(Sl.val ⟨none,0,0⟩)]):=⟨Tryz.t260,by kernel_rfl,by kernel_rfl⟩
instance zt_262:ZT Tryz.prog 262 (.agg #[(.pointer none),(.int .i64 0)]):=⟨Tryz.t262,by kernel_rfl,by kernel_rfl⟩
instance zt_331:ZT Tryz.prog 331 (.agg #[(.string ⟨#[]⟩),(.bool false),(Sl.val ⟨none,0,0⟩),(.int .i64 0),(.int .u64 0)]):=⟨Tryz.t331,by kernel_rfl,by kernel_rfl⟩
instance zt_87:ZT Tryz.prog 87 (.agg #[(.bool false),(Sl.val ⟨none,0,0⟩),(.int .i64 0),(.int .u64 0)]):=⟨Tryz.t87,by kernel_rfl,by kernel_rfl⟩
end F_IRBtree
def zCB  (Q:(Option Addr)→K):K :=
 New 260 #[(Sl.val ⟨none,0,0⟩),(Sl.val ⟨none,0,0⟩)] fun t2 =>
 New 262 #[(.pointer (some t2)),(.int .i64 0)] fun t4 =>
 Q (some t4)
theorem zFe  (Q:(Option Addr)→K) (w:World) (h:zCB  Q w):zCB.call  Q w:=by
 exact g_walk 5 h Tryz.func85
def zDo (t0:(Option Addr)) (Q:Value→K):K :=
 New 191 #[(.pointer t0)] fun t1 =>
 Q (.func (.func 163) #[] #[(.pointer (some t1))])
def zBD.b1 (Q:(Array Value)→Bool→K)  (X1:(Option Addr)→K) (key1_1:ByteArray) (value4_1:Addr) (n6_1:(Option Addr)):K :=
 zA2.call n6_1 key1_1 fun t16x0 t16x1 =>
 Ite t16x1
  (Nn n6_1 fun t21 =>
  Ld t21 Sl.val fun t23 =>
  Idx t23 t16x0 5 fun t25 =>
  LdN (t25.add 1) 4 fun t27 =>
  StN value4_1 4 t27 <|
  LdN value4_1 4 fun r0 =>
  Q r0 true)
  (Nn n6_1 fun t29 =>
  Ld (t29.add 1) Sl.val fun t31 =>
  Ite (decide ((t31.n:Int) = 0))
   (LdN value4_1 4 fun t34 =>
   StN value4_1 4 t34 <|
   LdN value4_1 4 fun r0 =>
   Q r0 false)
   (Ld (t29.add 1) Sl.val fun t38 =>
   Idx t38 t16x0 1 fun t40 =>
   Ld t40 Value.pointer fun t41 =>
   X1 t41))
def zBD (t0:(Option Addr)) (key1:ByteArray) (Q:(Array Value)→Bool→K):K :=
 New 87 #[(.bool false),(Sl.val ⟨none,0,0⟩),(.int .i64 0),(.int .u64 0)] fun value4 =>
 Nn t0 fun t10 =>
 Ld t10 Value.pointer fun t12 =>
 LoopK (α:=(Option Addr)) (fun X x=>zBD.b1 Q X key1 value4 x) t12
theorem zEr (t0:(Option Addr)) (key1:ByteArray) (Q:(Array Value)→Bool→K) (w:World) (h:zBD t0 key1 Q w):zBD.call t0 key1 Q w:=by
 have hL2:∀ (key1_1:ByteArray) (value4_1:Addr),LH 2 (fun x:(Option Addr)=>[(1,(.string key1_1)),(4,(.pointer (some value4_1))),(6,(.pointer x))]) (fun X x=>zBD.b1 Q X key1_1 value4_1 x):=by intros; exact ⟨⟩
 exact g_walk 42 h Tryz.func161
def zEv (yield0:Value) (t1:Addr) (Q:K):K :=
 Ld t1 Value.pointer fun t3 =>
 Nn t3 fun t4 =>
 Ld t4 Value.pointer fun t6 =>
 zAU.call t6 none yield0 fun t8 =>
 Q
def zAU.s4 (Q:Bool→K) (X2:(Option Addr)→Int→K) (n0_4:Addr) (yield2_4:Value) (i7_4:Int) (t74_4:Bool):K :=
 Ite t74_4
  (Q false)
  (Ar (IntKind.wrap .i64 (i7_4 + 1)) fun t26 =>
  X2 none t26)
def zAU.s3 (Q:Bool→K) (X2:(Option Addr)→Int→K) (n0_3:Addr) (yield2_3:Value) (i7_3:Int) (t46_3:Bool):K :=
 Ite t46_3
  (Q false)
  (Dr <|
  Ld n0_3 Sl.val fun t51 =>
  Ite (decide (i7_3 < (t51.n:Int)))
   (Ld n0_3 Sl.val fun t59 =>
   Idx t59 i7_3 5 fun t61 =>
   Ld t61 Value.string fun t63 =>
   Ld n0_3 Sl.val fun t67 =>
   Idx t67 i7_3 5 fun t69 =>
   LdN (t69.add 1) 4 fun t71 =>
   CallY Tryz.prog yield2_3 [(.string t63),(.agg t71)] <| Ans1 (fun (t72:Bool)=>Value.bool t72) fun t72 =>
   zAU.s4 Q X2 n0_3 yield2_3 i7_3 (!t72))
   (zAU.s4 Q X2 n0_3 yield2_3 i7_3 false))
def zAU.b2 (Q:Bool→K)  (X2:(Option Addr)→Int→K) (n0_2:(Option Addr)) (yield2_2:Value) (from1_2:(Option Addr)) (i7_2:Int):K :=
 Nn n0_2 fun t20 =>
 Ld t20 Sl.val fun t22 =>
 Ite (decide (i7_2 ≤ (t22.n:Int)))
  (Ld (t20.add 1) Sl.val fun t31 =>
  Ite (decide (i7_2 < (t31.n:Int)))
   (Ld (t20.add 1) Sl.val fun t38 =>
   Idx t38 i7_2 1 fun t40 =>
   Ld t40 Value.pointer fun t41 =>
   zAU.call t41 from1_2 yield2_2 fun t44 =>
   zAU.s3 Q X2 t20 yield2_2 i7_2 (!t44))
   (zAU.s3 Q X2 t20 yield2_2 i7_2 false))
  (Q true)
def zAU.s1 (Q:Bool→K)  (n0_1:(Option Addr)) (from1_1:(Option Addr)) (yield2_1:Value) (i7_1:Int):K :=
 LoopK (α:=(Option Addr)×Int) (fun X x=>zAU.b2 Q (fun from1_2 i7_2=>X (from1_2,i7_2)) n0_1 yield2_1 x.1 x.2) (from1_1,i7_1)
def zAU (n0:(Option Addr)) (from1:(Option Addr)) (yield2:Value) (Q:Bool→K):K :=
 Ite (!(from1).isNone)
  (Nn from1 fun t13 =>
  Ld t13 Value.string fun t14 =>
  zA2.call n0 t14 fun t15x0 t15x1 =>
  zAU.s1 Q n0 (some t13) yield2 t15x0)
  (zAU.s1 Q n0 from1 yield2 0)
def zA2 (n0:(Option Addr)) (key1:ByteArray) (Q:Int→Bool→K):K :=
 Nn n0 fun t7 =>
 Ld t7 Sl.val fun t9 =>
 zAA.call t9 key1 (.func (.func 231) #[] #[]) fun t11x0 t11x1 =>
 Q t11x0 t11x1
theorem zEQ (n0:(Option Addr)) (key1:ByteArray) (Q:Int→Bool→K) (w:World) (h:zA2 n0 key1 Q w):zA2.call n0 key1 Q w:=by
 exact g_walk 14 h Tryz.func201
def zBx (x0:(Array Value)) (k1:ByteArray) (Q:Int→K):K :=
 New 331 x0 fun x2 =>
 Ld x2 Value.string fun t6 =>
 zC7.call t6 k1 fun t8 =>
 Q t8
theorem zEH (x0:(Array Value)) (k1:ByteArray) (Q:Int→K) (w:World) (h:zBx x0 k1 Q w):zBx.call x0 k1 Q w:=by
 exact g_walk 9 h Tryz.func231
def zAD.s2 (Q:(Array Value)→Bool→K)  (value4_2:Addr) (ok5_2:Bool):K :=
 LdN value4_2 4 fun t55 =>
 StN value4_2 4 t55 <|
 LdN value4_2 4 fun r0 =>
 Q r0 ok5_2
def zAD.s1 (Q:(Array Value)→Bool→K)  (t0_1:Addr) (value4_1:Addr) (ok5_1:Bool):K :=
 Ite ok5_1
  (Ld (t0_1.add 1) (Value.int .i64) fun t51 =>
  Ar (IntKind.wrap .i64 (t51 - 1)) fun t52 =>
  St (t0_1.add 1) (.int .i64 t52) <|
  zAD.s2 Q value4_1 ok5_1)
  (zAD.s2 Q value4_1 ok5_1)
def zAD.s3 (Q:(Array Value)→Bool→K)  (t0_3:Addr) (value4_3:Addr) (ok5_3:Bool) (t34_3:Bool):K :=
 Ite t34_3
  (Ld t0_3 Value.pointer fun t39 =>
  Nn t39 fun t40 =>
  Ld (t40.add 1) Sl.val fun t42 =>
  Idx t42 0 1 fun t43 =>
  Ld t43 Value.pointer fun t44 =>
  St t0_3 (.pointer t44) <|
  zAD.s1 Q t0_3 value4_3 ok5_3)
  (zAD.s1 Q t0_3 value4_3 ok5_3)
def zAD (t0:(Option Addr)) (key1:ByteArray) (Q:(Array Value)→Bool→K):K :=
 New 87 #[(.bool false),(Sl.val ⟨none,0,0⟩),(.int .i64 0),(.int .u64 0)] fun value4 =>
 Nn t0 fun t8 =>
 Ld t8 Value.pointer fun t10 =>
 zAV.call t10 key1 fun t12x0 t12x1 =>
 StN value4 4 t12x0 <|
 Ld t8 Value.pointer fun t18 =>
 Nn t18 fun t19 =>
 Ld t19 Sl.val fun t21 =>
 Ite (decide ((t21.n:Int) = 0))
  (Ld t8 Value.pointer fun t28 =>
  Nn t28 fun t29 =>
  Ld (t29.add 1) Sl.val fun t31 =>
  zAD.s3 Q t8 value4 t12x1 (decide ((t31.n:Int) = 1)))
  (zAD.s3 Q t8 value4 t12x1 false)
theorem zER (t0:(Option Addr)) (key1:ByteArray) (Q:(Array Value)→Bool→K) (w:World) (h:zAD t0 key1 Q w):zAD.call t0 key1 Q w:=by
 have hJ6:JH 6 fun D=>∃ (value4_2:Addr),D [(4,(.pointer (some value4_2)))] (fun C=>∀ (ok5_2:Bool),C [(4,(.pointer (some value4_2))),(5,(.bool ok5_2))] (zAD.s2 Q value4_2 ok5_2)):=by intros; exact ⟨fun _ ⟨_,h⟩=>⟨_,_,h⟩⟩
 have hJ4:JH 4 fun D=>∃ (t0_1:Addr) (value4_1:Addr),D [(0,(.pointer (some t0_1))),(4,(.pointer (some value4_1)))] (fun C=>∀ (ok5_1:Bool),C [(0,(.pointer (some t0_1))),(4,(.pointer (some value4_1))),(5,(.bool ok5_1))] (zAD.s1 Q t0_1 value4_1 ok5_1)):=by intros; exact ⟨fun _ ⟨_,_,h⟩=>⟨_,_,h⟩⟩
 have hJ3:JH 3 fun D=>∃ (t0_3:Addr) (value4_3:Addr),D [(0,(.pointer (some t0_3))),(4,(.pointer (some value4_3)))] (fun C=>∀ (ok5_3:Bool) (t34_3:Bool),C [(0,(.pointer (some t0_3))),(4,(.pointer (some value4_3))),(5,(.bool ok5_3)),(34,(.bool t34_3))] (zAD.s3 Q t0_3 value4_3 ok5_3 t34_3)):=by intros; exact ⟨fun _ ⟨_,_,h⟩=>⟨_,_,h⟩⟩
 exact g_walk 57 h Tryz.func242
def zAE.s3 (Q:(Array Value)→Bool→K)  (t6_3:Addr) (old8_3:Addr) (had9_3:Bool):K :=
 LdN old8_3 4 fun t51 =>
 StN t6_3 4 t51 <|
 LdN t6_3 4 fun r0 =>
 Q r0 had9_3
def zAE.s2 (Q:(Array Value)→Bool→K)  (t0_2:(Option Addr)) (t6_2:Addr) (old8_2:Addr) (had9_2:Bool):K :=
 Ite (!had9_2)
  (Nn t0_2 fun t45 =>
  Ld (t45.add 1) (Value.int .i64) fun t47 =>
  Ar (IntKind.wrap .i64 (t47 + 1)) fun t48 =>
  St (t45.add 1) (.int .i64 t48) <|
  zAE.s3 Q t6_2 old8_2 had9_2)
  (zAE.s3 Q t6_2 old8_2 had9_2)
def zAE.s1 (Q:(Array Value)→Bool→K)  (t0_1:(Option Addr)) (t6_1:Addr) (old8_1:Addr) (had9_1:Bool) (mid10_1:(Option Addr)) (right11_1:(Option Addr)):K :=
 Ite (!(mid10_1).isNone)
  (Dr <| WithS fun S =>
  Nn mid10_1 fun t29 =>
  Nn t0_1 fun t33 =>
  LdNS S t29 5 fun t30 =>
  LdS S t33 Value.pointer fun t35 =>
  All [
   (Bld #[(.string ⟨#[]⟩),(.bool false),(Sl.val ⟨none,0,0⟩),(.int .i64 0),(.int .u64 0)] (fun i=>some (i * 5,5)) [(0,(.agg t30))] fun ct31 =>
   New 331 ct31 fun t31 =>
   Sv S <|
   New 256 #[(.pointer t35),(.pointer right11_1)] fun t37 =>
   Sv S <|
   New 260 #[(Sl.val (Sl.mk (some t31) 1 1)),(Sl.val (Sl.mk (some t37) 2 2))] fun t39 =>
   St t33 (.pointer (some t39)) <|
   zAE.s2 Q (some t33) t6_1 old8_1 had9_1),
   (New 256 #[(.pointer t35),(.pointer right11_1)] fun t37 =>
   Sv S <|
   Bld #[(.string ⟨#[]⟩),(.bool false),(Sl.val ⟨none,0,0⟩),(.int .i64 0),(.int .u64 0)] (fun i=>some (i * 5,5)) [(0,(.agg t30))] fun ct31 =>
   New 331 ct31 fun t31 =>
   Sv S <|
   New 260 #[(Sl.val (Sl.mk (some t31) 1 1)),(Sl.val (Sl.mk (some t37) 2 2))] fun t39 =>
   St t33 (.pointer (some t39)) <|
   zAE.s2 Q (some t33) t6_1 old8_1 had9_1)
   ])
  (zAE.s2 Q t0_1 t6_1 old8_1 had9_1)
def zAE (t0:(Option Addr)) (key1:ByteArray) (value2:(Array Value)) (Q:(Array Value)→Bool→K):K :=
 New 87 value2 fun value5 =>
 New 87 #[(.bool false),(Sl.val ⟨none,0,0⟩),(.int .i64 0),(.int .u64 0)] fun t6 =>
 Dr <| WithS fun S =>
 Nn t0 fun t14 =>
 LdS S t14 Value.pointer fun t16 =>
 LdNS S value5 4 fun t18 =>
 Bld #[(.string ⟨#[]⟩),(.bool false),(Sl.val ⟨none,0,0⟩),(.int .i64 0),(.int .u64 0)] ([(0,1),(1,4)][·]?) [(0,(.string key1)),(1,(.agg t18))] fun t19 =>
 All [
  (zAN.call t16 t19 fun t20x0 t20x1 t20x2 t20x3 =>
  New 87 #[(.bool false),(Sl.val ⟨none,0,0⟩),(.int .i64 0),(.int .u64 0)] fun old8 =>
  StN old8 4 t20x0 <|
  zAE.s1 Q (some t14) t6 old8 t20x1 t20x2 t20x3),
  (New 87 #[(.bool false),(Sl.val ⟨none,0,0⟩),(.int .i64 0),(.int .u64 0)] fun old8 =>
  Sv S <|
  zAN.call t16 t19 fun t20x0 t20x1 t20x2 t20x3 =>
  StN old8 4 t20x0 <|
  zAE.s1 Q (some t14) t6 old8 t20x1 t20x2 t20x3)
  ]
theorem zEs (t0:(Option Addr)) (key1:ByteArray) (value2:(Array Value)) (Q:(Array Value)→Bool→K) (w:World) (h:zAE t0 key1 value2 Q w):zAE.call t0 key1 value2 Q w:=by
 have hJ6:JH 6 fun D=>∃ (t6_3:Addr) (old8_3:Addr),D [(6,(.pointer (some t6_3))),(8,(.pointer (some old8_3)))] (fun C=>∀ (had9_3:Bool),C [(6,(.pointer (some t6_3))),(8,(.pointer (some old8_3))),(9,(.bool had9_3))] (zAE.s3 Q t6_3 old8_3 had9_3)):=by intros; exact ⟨fun _ ⟨_,_,h⟩=>⟨_,_,h⟩⟩
 have hJ4:JH 4 fun D=>∃ (t0_2:(Option Addr)) (t6_2:Addr) (old8_2:Addr),D [(0,(.pointer t0_2)),(6,(.pointer (some t6_2))),(8,(.pointer (some old8_2)))] (fun C=>∀ (had9_2:Bool),C [(0,(.pointer t0_2)),(6,(.pointer (some t6_2))),(8,(.pointer (some old8_2))),(9,(.bool had9_2))] (zAE.s2 Q t0_2 t6_2 old8_2 had9_2)):=by intros; exact ⟨fun _ ⟨_,_,_,h⟩=>⟨_,_,h⟩⟩
 have hD3:DH 3 2 [12,15] (.s [0,1,2,5,6,7,9,3,8] (.a [(4,1,.a [(10,1,.s [11] (.a [(12,0,.s [13,14] (.a [(15,0,.e)]))]))]),(10,1,.a [(4,1,.s [11] (.a [(12,0,.s [13,14] (.a [(15,0,.e)]))]))])])):=by intros; exact ⟨⟩
 have hJ2:JH 2 fun D=>∃ (t0_1:(Option Addr)) (t6_1:Addr),D [(0,(.pointer t0_1)),(6,(.pointer (some t6_1)))] (fun C=>∀ (old8_1:Addr) (had9_1:Bool) (mid10_1:(Option Addr)) (right11_1:(Option Addr)),C [(0,(.pointer t0_1)),(6,(.pointer (some t6_1))),(8,(.pointer (some old8_1))),(9,(.bool had9_1)),(10,(.pointer mid10_1)),(11,(.pointer right11_1))] (zAE.s1 Q t0_1 t6_1 old8_1 had9_1 mid10_1 right11_1)):=by intros; exact ⟨fun _ ⟨_,_,h⟩=>⟨_,_,h⟩⟩
 have hD1:DH 1 2 [7,14] (.s [0,1,2,4,3,5,6] (.a [(7,0,.s [8,9,10,11,12] (.a [(13,0,.a [(14,0,.s [15,16,17] .e)])])),(13,1,.a [(7,0,.s [8,9,10,11,12] (.a [(14,0,.s [15,16,17] .e)]))])])):=by intros; exact ⟨⟩
 exact g_walk 53 h Tryz.func243
def zAV.s1 (Q:(Array Value)→Bool→K)  (value4_1:Addr) (ok5_1:Bool):K :=
 LdN value4_1 4 fun t94 =>
 StN value4_1 4 t94 <|
 LdN value4_1 4 fun r0 =>
 Q r0 ok5_1
def zAV.s2 (Q:(Array Value)→Bool→K)  (n0_2:(Option Addr)) (key1_2:ByteArray) (value4_2:Addr) (i6_2:Int) (found7_2:Bool) (t14_2:Bool):K :=
 Ite t14_2
  (Nn n0_2 fun t25 =>
  Ld t25 Sl.val fun t27 =>
  Idx t27 i6_2 5 fun t29 =>
  LdN (t29.add 1) 4 fun t31 =>
  StN value4_2 4 t31 <|
  Ld t25 Sl.val fun t36 =>
  Ar (IntKind.wrap .i64 (i6_2 + 1)) fun t39 =>
  zAH.call t36 i6_2 t39 fun t40 =>
  St t25 (Sl.val t40) <|
  LdN value4_2 4 fun t43 =>
  StN value4_2 4 t43 <|
  LdN value4_2 4 fun r0 =>
  Q r0 true)
  (Ite found7_2
   (Nn n0_2 fun t47 =>
   Ld t47 Sl.val fun t49 =>
   Idx t49 i6_2 5 fun t51 =>
   LdN (t51.add 1) 4 fun t53 =>
   StN value4_2 4 t53 <|
   Dr <| WithS fun S =>
   LdS S t47 Sl.val fun t57 =>
   LdS S (t47.add 1) Sl.val fun t62 =>
   Idx t62 i6_2 1 fun t64 =>
   LdS S t64 Value.pointer fun t65 =>
   zBW.call t65 fun t66 =>
   Sv S <|
   Idx t57 i6_2 5 fun t67 =>
   StN t67 5 t66 <|
   zAP.call (some t47) i6_2 <|
   LdN value4_2 4 fun t71 =>
   StN value4_2 4 t71 <|
   LdN value4_2 4 fun r0 =>
   Q r0 true)
   (Nn n0_2 fun t74 =>
   Ld (t74.add 1) Sl.val fun t76 =>
   Ite (decide ((0:Int) < (t76.n:Int)))
    (Ld (t74.add 1) Sl.val fun t83 =>
    Idx t83 i6_2 1 fun t85 =>
    Ld t85 Value.pointer fun t86 =>
    zAV.call t86 key1_2 fun t88x0 t88x1 =>
    StN value4_2 4 t88x0 <|
    zAP.call (some t74) i6_2 <|
    zAV.s1 Q value4_2 t88x1)
    (zAV.s1 Q value4_2 false)))
def zAV (n0:(Option Addr)) (key1:ByteArray) (Q:(Array Value)→Bool→K):K :=
 New 87 #[(.bool false),(Sl.val ⟨none,0,0⟩),(.int .i64 0),(.int .u64 0)] fun value4 =>
 zA2.call n0 key1 fun t11x0 t11x1 =>
 Ite t11x1
  (Nn n0 fun t18 =>
  Ld (t18.add 1) Sl.val fun t20 =>
  zAV.s2 Q (some t18) key1 value4 t11x0 true (decide ((t20.n:Int) = 0)))
  (zAV.s2 Q n0 key1 value4 t11x0 false false)
theorem zEd (n0:(Option Addr)) (key1:ByteArray) (Q:(Array Value)→Bool→K) (w:World) (h:zAV n0 key1 Q w):zAV.call n0 key1 Q w:=by
 have hJ14:JH 14 fun D=>∃ (value4_1:Addr),D [(4,(.pointer (some value4_1)))] (fun C=>∀ (ok5_1:Bool),C [(4,(.pointer (some value4_1))),(5,(.bool ok5_1))] (zAV.s1 Q value4_1 ok5_1)):=by intros; exact ⟨fun _ ⟨_,h⟩=>⟨_,_,h⟩⟩
 have hD8:DH 8 2 [14] (.s [0,1,2,4,5,6,7,9,3,8,10,11] (.a [(12,1,.s [13] (.a [(14,0,.e)]))])):=by intros; exact ⟨⟩
 have hJ3:JH 3 fun D=>∃ (n0_2:(Option Addr)) (key1_2:ByteArray) (value4_2:Addr) (i6_2:Int),D [(0,(.pointer n0_2)),(1,(.string key1_2)),(4,(.pointer (some value4_2))),(6,(.int .i64 i6_2))] (fun C=>∀ (found7_2:Bool) (t14_2:Bool),C [(0,(.pointer n0_2)),(1,(.string key1_2)),(4,(.pointer (some value4_2))),(5,(.bool false)),(6,(.int .i64 i6_2)),(7,(.bool found7_2)),(14,(.bool t14_2))] (zAV.s2 Q n0_2 key1_2 value4_2 i6_2 found7_2 t14_2)):=by intros; exact ⟨fun _ ⟨_,_,_,_,h⟩=>⟨_,_,h⟩⟩
 exact g_walk 96 h Tryz.func245
def zAN.s2 (Q:(Array Value)→Bool→(Option Addr)→(Option Addr)→K)  (old4_2:Addr) (had5_2:Bool) (right7_2:Addr) (m12_2:Addr):K :=
 LdN old4_2 4 fun t153 =>
 StN old4_2 4 t153 <|
 LdN old4_2 4 fun r0 =>
 Q r0 had5_2 (some m12_2) (some right7_2)
def zAN.s1 (Q:(Array Value)→Bool→(Option Addr)→(Option Addr)→K)  (n0_1:(Option Addr)) (old4_1:Addr) (had5_1:Bool):K :=
 Nn n0_1 fun t101 =>
 Ld t101 Sl.val fun t103 =>
 Ite (decide ((t103.n:Int) ≤ 5))
  (LdN old4_1 4 fun t106 =>
  StN old4_1 4 t106 <|
  LdN old4_1 4 fun r0 =>
  Q r0 had5_1 none none)
  (Ld t101 Sl.val fun t111 =>
  Idx t111 2 5 fun t112 =>
  LdN t112 5 fun t113 =>
  New 331 #[(.string ⟨#[]⟩),(.bool false),(Sl.val ⟨none,0,0⟩),(.int .i64 0),(.int .u64 0)] fun m12 =>
  StN m12 5 t113 <|
  Ld t101 Sl.val fun t117 =>
  Slc t117 3 (t117.n:Int) (t117.c:Int) 5 fun t118 =>
  zAf.call t118 fun t119 =>
  New 260 #[(Sl.val t119),(Sl.val ⟨none,0,0⟩)] fun t121 =>
  Ld t101 Sl.val fun t126 =>
  Slc t126 0 2 2 5 fun t127 =>
  St t101 (Sl.val t127) <|
  Ld (t101.add 1) Sl.val fun t133 =>
  Ite (decide ((0:Int) < (t133.n:Int)))
   (Ld (t101.add 1) Sl.val fun t140 =>
   Slc t140 3 (t140.n:Int) (t140.c:Int) 1 fun t141 =>
   zAg.call t141 fun t142 =>
   St (t121.add 1) (Sl.val t142) <|
   Ld (t101.add 1) Sl.val fun t149 =>
   Slc t149 0 3 3 1 fun t150 =>
   St (t101.add 1) (Sl.val t150) <|
   zAN.s2 Q old4_1 had5_1 t121 m12)
   (zAN.s2 Q old4_1 had5_1 t121 m12))
def zAN (n0:(Option Addr)) (x1:(Array Value)) (Q:(Array Value)→Bool→(Option Addr)→(Option Addr)→K):K :=
 New 331 x1 fun x3 =>
 New 87 #[(.bool false),(Sl.val ⟨none,0,0⟩),(.int .i64 0),(.int .u64 0)] fun old4 =>
 Ld x3 Value.string fun t16 =>
 zA2.call n0 t16 fun t17x0 t17x1 =>
 Ite t17x1
  (Nn n0 fun t64 =>
  Ld t64 Sl.val fun t66 =>
  Idx t66 t17x0 5 fun t68 =>
  LdN (t68.add 1) 4 fun t70 =>
  StN old4 4 t70 <|
  Dr <|
  Ld t64 Sl.val fun t74 =>
  LdN (x3.add 1) 4 fun t77 =>
  Idx t74 t17x0 5 fun t78 =>
  StN (t78.add 1) 4 t77 <|
  LdN old4 4 fun t80 =>
  StN old4 4 t80 <|
  LdN old4 4 fun r0 =>
  Q r0 true none none)
  (Nn n0 fun t84 =>
  Ld (t84.add 1) Sl.val fun t86 =>
  Ite (decide ((t86.n:Int) = 0))
   (Dr <| WithS fun S =>
   LdS S t84 Sl.val fun t93 =>
   LdNS S x3 5 fun t95 =>
   Bld #[(.string ⟨#[]⟩),(.bool false),(Sl.val ⟨none,0,0⟩),(.int .i64 0),(.int .u64 0)] (fun i=>some (i * 5,5)) [(0,(.agg t95))] fun ct96 =>
   New 331 ct96 fun t96 =>
   Sv S <|
   zAI.call t93 t17x0 (Sl.mk (some t96) 1 1) fun t97 =>
   St t84 (Sl.val t97) <|
   zAN.s1 Q (some t84) old4 false)
   (Dr <|
   Ld (t84.add 1) Sl.val fun t24 =>
   Idx t24 t17x0 1 fun t26 =>
   Ld t26 Value.pointer fun t27 =>
   LdN x3 5 fun t28 =>
   zAN.call t27 t28 fun t29x0 t29x1 t29x2 t29x3 =>
   StN old4 4 t29x0 <|
   Ite (!(t29x2).isNone)
    (Dr <| WithS fun S =>
    Nn t29x2 fun t43 =>
    LdS S t84 Sl.val fun t40 =>
    LdNS S t43 5 fun t44 =>
    Bld #[(.string ⟨#[]⟩),(.bool false),(Sl.val ⟨none,0,0⟩),(.int .i64 0),(.int .u64 0)] (fun i=>some (i * 5,5)) [(0,(.agg t44))] fun ct45 =>
    New 331 ct45 fun t45 =>
    Sv S <|
    zAI.call t40 t17x0 (Sl.mk (some t45) 1 1) fun t46 =>
    St t84 (Sl.val t46) <|
    Ld (t84.add 1) Sl.val fun t53 =>
    Ar (IntKind.wrap .i64 (t17x0 + 1)) fun t55 =>
    New 256 #[(.pointer t29x3)] fun t57 =>
    zAS.call t53 t55 (Sl.mk (some t57) 1 1) fun t58 =>
    St (t84.add 1) (Sl.val t58) <|
    zAN.s1 Q (some t84) old4 t29x1)
    (zAN.s1 Q (some t84) old4 t29x1)))
theorem zEt (n0:(Option Addr)) (x1:(Array Value)) (Q:(Array Value)→Bool→(Option Addr)→(Option Addr)→K) (w:World) (h:zAN n0 x1 Q w):zAN.call n0 x1 Q w:=by
 have hJ22:JH 22 fun D=>∃ (old4_2:Addr) (right7_2:Addr) (m12_2:Addr),D [(4,(.pointer (some old4_2))),(7,(.pointer (some right7_2))),(12,(.pointer (some m12_2)))] (fun C=>∀ (had5_2:Bool),C [(4,(.pointer (some old4_2))),(5,(.bool had5_2)),(7,(.pointer (some right7_2))),(12,(.pointer (some m12_2)))] (zAN.s2 Q old4_2 had5_2 right7_2 m12_2)):=by intros; exact ⟨fun _ ⟨_,_,_,h⟩=>⟨_,_,h⟩⟩
 have hJ14:JH 14 fun D=>∃ (n0_1:(Option Addr)) (old4_1:Addr),D [(0,(.pointer n0_1)),(4,(.pointer (some old4_1)))] (fun C=>∀ (had5_1:Bool),C [(0,(.pointer n0_1)),(4,(.pointer (some old4_1))),(5,(.bool had5_1))] (zAN.s1 Q n0_1 old4_1 had5_1)):=by intros; exact ⟨fun _ ⟨_,_,h⟩=>⟨_,_,h⟩⟩
 have hD10:DH 10 1 [9] (.s [0,1,2,4,5,3,6,7,8] (.a [(9,0,.e)])):=by intros; exact ⟨⟩
 have hD13:DH 13 2 [8,11] (.s [0,1,2,3,5,4,6] (.a [(7,1,.a [(8,0,.s [9,10] (.a [(11,0,.e)]))])])):=by intros; exact ⟨⟩
 have hD6:DH 6 2 [10,13] (.s [0,1,2,3,5,6,7,4,8] (.a [(9,1,.a [(10,0,.s [11,12] (.a [(13,0,.e)]))])])):=by intros; exact ⟨⟩
 have hD4:DH 4 1 [8,14] (.s [0,1,2,4,3,5,6,7] (.a [(8,0,.s [9,10,11,12,13] (.a [(14,0,.s [15,16,17] .e)]))])):=by intros; exact ⟨⟩
 exact g_walk 156 h Tryz.func246
def zBW (n0:(Option Addr)) (Q:(Array Value)→K):K :=
 New 331 #[(.string ⟨#[]⟩),(.bool false),(Sl.val ⟨none,0,0⟩),(.int .i64 0),(.int .u64 0)] fun t2 =>
 Nn n0 fun t7 =>
 Ld (t7.add 1) Sl.val fun t9 =>
 Ar (IntKind.wrap .i64 ((t9.n:Int) - 1)) fun t11 =>
 Ite (decide ((0:Int) ≤ t11))
  (Ld (t7.add 1) Sl.val fun t17 =>
  Idx t17 t11 1 fun t19 =>
  Ld t19 Value.pointer fun t20 =>
  zBW.call t20 fun t21 =>
  New 331 #[(.string ⟨#[]⟩),(.bool false),(Sl.val ⟨none,0,0⟩),(.int .i64 0),(.int .u64 0)] fun x4 =>
  StN x4 5 t21 <|
  zAP.call (some t7) t11 <|
  LdN x4 5 fun t25 =>
  StN t2 5 t25 <|
  LdN t2 5 fun r0 =>
  Q r0)
  (Dr <| WithS fun S =>
  LdS S t7 Sl.val fun t29 =>
  LdS S t7 Sl.val fun t33 =>
  Ar (IntKind.wrap .i64 ((t33.n:Int) - 1)) fun t35 =>
  Idx t29 t35 5 fun t36 =>
  LdNS S t36 5 fun t37 =>
  New 331 #[(.string ⟨#[]⟩),(.bool false),(Sl.val ⟨none,0,0⟩),(.int .i64 0),(.int .u64 0)] fun x5 =>
  Sv S <|
  StN x5 5 t37 <|
  Dr <|
  Ld t7 Sl.val fun t42 =>
  Ld t7 Sl.val fun t46 =>
  Ar (IntKind.wrap .i64 ((t46.n:Int) - 1)) fun t48 =>
  Slc t42 0 t48 (t42.c:Int) 5 fun t49 =>
  St t7 (Sl.val t49) <|
  LdN x5 5 fun t52 =>
  StN t2 5 t52 <|
  LdN t2 5 fun r0 =>
  Q r0)
theorem zEe (n0:(Option Addr)) (Q:(Array Value)→K) (w:World) (h:zBW n0 Q w):zBW.call n0 Q w:=by
 have hD7:DH 7 1 [14] (.s [0,1,2,3,5,6,7,4,8,9,10,11,12,13] (.a [(14,0,.e)])):=by intros; exact ⟨⟩
 have hD6:DH 6 2 [13] (.s [0,1,2,4,5,6,3,7,8,9,10,11] (.a [(12,1,.a [(13,0,.e)])])):=by intros; exact ⟨⟩
 exact g_walk 53 h Tryz.func248
def zAP.s2 (Q:K)  (n0_2:Addr) (i1_2:Int) (kid4_2:Addr) (t202_2:Bool):K :=
 Ite t202_2
  (Ld (n0_2.add 1) Sl.val fun t229 =>
  Ar (IntKind.wrap .i64 (i1_2 + 1)) fun t231 =>
  Idx t229 t231 1 fun t232 =>
  Ld t232 Value.pointer fun t233 =>
  Dr <| WithS fun S =>
  LdS S kid4_2 Sl.val fun t238 =>
  LdS S n0_2 Sl.val fun t242 =>
  Idx t242 i1_2 5 fun t244 =>
  LdNS S t244 5 fun t245 =>
  Bld #[(.string ⟨#[]⟩),(.bool false),(Sl.val ⟨none,0,0⟩),(.int .i64 0),(.int .u64 0)] (fun i=>some (i * 5,5)) [(0,(.agg t245))] fun ct246 =>
  New 331 ct246 fun t246 =>
  Sv S <|
  Do Tryz.prog (Builtin.append_ #[257,257] 257 #[(Sl.val t238),(Sl.val (Sl.mk (some t246) 1 1))]) Sl.val fun t247 =>
  St kid4_2 (Sl.val t247) <|
  Dr <|
  Nn t233 fun t256 =>
  Ld n0_2 Sl.val fun t253 =>
  Ld t256 Sl.val fun t258 =>
  Idx t258 0 5 fun t259 =>
  LdN t259 5 fun t260 =>
  Idx t253 i1_2 5 fun t261 =>
  StN t261 5 t260 <|
  Ld t256 Sl.val fun t266 =>
  zAH.call t266 0 1 fun t267 =>
  St t256 (Sl.val t267) <|
  Ld (t256.add 1) Sl.val fun t273 =>
  Ite (decide ((0:Int) < (t273.n:Int)))
   (Dr <| WithS fun S =>
   LdS S (kid4_2.add 1) Sl.val fun t280 =>
   LdS S (t256.add 1) Sl.val fun t284 =>
   Idx t284 0 1 fun t285 =>
   LdS S t285 Value.pointer fun t286 =>
   New 256 #[(.pointer t286)] fun t287 =>
   Sv S <|
   Do Tryz.prog (Builtin.append_ #[258,258] 258 #[(Sl.val t280),(Sl.val (Sl.mk (some t287) 1 1))]) Sl.val fun t288 =>
   St (kid4_2.add 1) (Sl.val t288) <|
   Ld (t256.add 1) Sl.val fun t295 =>
   zAT.call t295 0 1 fun t296 =>
   St (t256.add 1) (Sl.val t296) <|
   Q)
   (Q))
  (Ar (if (1:Int) > i1_2 then 1 else i1_2) fun t18 =>
  Dr <|
  Ld (n0_2.add 1) Sl.val fun t22 =>
  Ar (IntKind.wrap .i64 (t18 - 1)) fun t24 =>
  Idx t22 t24 1 fun t25 =>
  Ld t25 Value.pointer fun t26 =>
  Ld (n0_2.add 1) Sl.val fun t30 =>
  Idx t30 t18 1 fun t32 =>
  Ld t32 Value.pointer fun t33 =>
  Dr <| WithS fun S =>
  Nn t26 fun t36 =>
  Ar (IntKind.wrap .i64 (t18 - 1)) fun t44 =>
  Nn t33 fun t50 =>
  LdS S t36 Sl.val fun t38 =>
  LdS S n0_2 Sl.val fun t42 =>
  Idx t42 t44 5 fun t45 =>
  LdNS S t45 5 fun t46 =>
  LdS S t50 Sl.val fun t52 =>
  Bld #[(.string ⟨#[]⟩),(.bool false),(Sl.val ⟨none,0,0⟩),(.int .i64 0),(.int .u64 0)] (fun i=>some (i * 5,5)) [(0,(.agg t46))] fun ct47 =>
  New 331 ct47 fun t47 =>
  Sv S <|
  Do Tryz.prog (Builtin.append_ #[257,257] 257 #[(Sl.val t38),(Sl.val (Sl.mk (some t47) 1 1))]) Sl.val fun t48 =>
  Sv S <|
  Do Tryz.prog (Builtin.append_ #[257,257] 257 #[(Sl.val t48),(Sl.val t52)]) Sl.val fun t53 =>
  St t36 (Sl.val t53) <|
  Dr <|
  Ld (t36.add 1) Sl.val fun t60 =>
  Ld (t50.add 1) Sl.val fun t64 =>
  Do Tryz.prog (Builtin.append_ #[258,258] 258 #[(Sl.val t60),(Sl.val t64)]) Sl.val fun t65 =>
  St (t36.add 1) (Sl.val t65) <|
  Ld n0_2 Sl.val fun t72 =>
  Ar (IntKind.wrap .i64 (t18 - 1)) fun t74 =>
  zAH.call t72 t74 t18 fun t76 =>
  St n0_2 (Sl.val t76) <|
  Ld (n0_2.add 1) Sl.val fun t83 =>
  Ar (IntKind.wrap .i64 (t18 + 1)) fun t86 =>
  zAT.call t83 t18 t86 fun t87 =>
  St (n0_2.add 1) (Sl.val t87) <|
  Q)
def zAP.s1 (Q:K)  (n0_1:Addr) (i1_1:Int) (kid4_1:Addr) (t97_1:Bool):K :=
 Ite t97_1
  (Ld (n0_1.add 1) Sl.val fun t118 =>
  Ar (IntKind.wrap .i64 (i1_1 - 1)) fun t120 =>
  Idx t118 t120 1 fun t121 =>
  Ld t121 Value.pointer fun t122 =>
  Nn t122 fun t124 =>
  Ld t124 Sl.val fun t126 =>
  Ar (IntKind.wrap .i64 ((t126.n:Int) - 1)) fun t128 =>
  Dr <| WithS fun S =>
  Ar (IntKind.wrap .i64 (i1_1 - 1)) fun t139 =>
  LdS S kid4_1 Sl.val fun t133 =>
  LdS S n0_1 Sl.val fun t137 =>
  Idx t137 t139 5 fun t140 =>
  LdNS S t140 5 fun t141 =>
  Bld #[(.string ⟨#[]⟩),(.bool false),(Sl.val ⟨none,0,0⟩),(.int .i64 0),(.int .u64 0)] (fun i=>some (i * 5,5)) [(0,(.agg t141))] fun ct142 =>
  New 331 ct142 fun t142 =>
  Sv S <|
  zAI.call t133 0 (Sl.mk (some t142) 1 1) fun t143 =>
  St kid4_1 (Sl.val t143) <|
  Dr <|
  Ar (IntKind.wrap .i64 (i1_1 - 1)) fun t151 =>
  Ld n0_1 Sl.val fun t149 =>
  Ld t124 Sl.val fun t155 =>
  Idx t155 t128 5 fun t157 =>
  LdN t157 5 fun t158 =>
  Idx t149 t151 5 fun t159 =>
  StN t159 5 t158 <|
  Ld t124 Sl.val fun t164 =>
  Slc t164 0 t128 (t164.c:Int) 5 fun t166 =>
  St t124 (Sl.val t166) <|
  Ld (t124.add 1) Sl.val fun t172 =>
  Ite (decide ((0:Int) < (t172.n:Int)))
   (Dr <| WithS fun S =>
   Ar (IntKind.wrap .i64 (t128 + 1)) fun t185 =>
   LdS S (kid4_1.add 1) Sl.val fun t179 =>
   LdS S (t124.add 1) Sl.val fun t183 =>
   Idx t183 t185 1 fun t186 =>
   LdS S t186 Value.pointer fun t187 =>
   New 256 #[(.pointer t187)] fun t188 =>
   Sv S <|
   zAS.call t179 0 (Sl.mk (some t188) 1 1) fun t189 =>
   St (kid4_1.add 1) (Sl.val t189) <|
   Ld (t124.add 1) Sl.val fun t196 =>
   Ar (IntKind.wrap .i64 (t128 + 1)) fun t198 =>
   Slc t196 0 t198 (t196.c:Int) 1 fun t199 =>
   St (t124.add 1) (Sl.val t199) <|
   Q)
   (Q))
  (Ar (IntKind.wrap .i64 (i1_1 + 1)) fun t204 =>
  Ld (n0_1.add 1) Sl.val fun t208 =>
  Ite (decide (t204 < (t208.n:Int)))
   (Ld (n0_1.add 1) Sl.val fun t215 =>
   Ar (IntKind.wrap .i64 (i1_1 + 1)) fun t217 =>
   Idx t215 t217 1 fun t218 =>
   Ld t218 Value.pointer fun t219 =>
   Nn t219 fun t220 =>
   Ld t220 Sl.val fun t222 =>
   zAP.s2 Q n0_1 i1_1 kid4_1 (decide ((2:Int) < (t222.n:Int))))
   (zAP.s2 Q n0_1 i1_1 kid4_1 false))
def zAP (n0:(Option Addr)) (i1:Int) (Q:K):K :=
 Nn n0 fun t11 =>
 Ld (t11.add 1) Sl.val fun t13 =>
 Idx t13 i1 1 fun t15 =>
 Ld t15 Value.pointer fun t16 =>
 Nn t16 fun t92 =>
 Ld t92 Sl.val fun t94 =>
 Ite (decide ((2:Int) ≤ (t94.n:Int)))
  (Q)
  (Ite (decide ((0:Int) < i1))
   (Ld (t11.add 1) Sl.val fun t104 =>
   Ar (IntKind.wrap .i64 (i1 - 1)) fun t106 =>
   Idx t104 t106 1 fun t107 =>
   Ld t107 Value.pointer fun t108 =>
   Nn t108 fun t109 =>
   Ld t109 Sl.val fun t111 =>
   zAP.s1 Q t11 i1 t92 (decide ((2:Int) < (t111.n:Int))))
   (zAP.s1 Q t11 i1 t92 false))
theorem zEf (n0:(Option Addr)) (i1:Int) (Q:K) (w:World) (h:zAP n0 i1 Q w):zAP.call n0 i1 Q w:=by
 have hD15:DH 15 2 [14,17] (.s [0,1,2,3,5,6,7,9,10,4,8,11,12] (.a [(13,1,.a [(14,0,.s [15,16] (.a [(17,0,.e)]))])])):=by intros; exact ⟨⟩
 have hD12:DH 12 1 [14] (.s [0,1,2,4,5,6,7,8,10,3,9,11,12,13] (.a [(14,0,.e)])):=by intros; exact ⟨⟩
 have hD11:DH 11 2 [14,17] (.s [0,1,2,3,5,6,7,9,10,4,8,11,12] (.a [(13,1,.a [(14,0,.s [15,16] (.a [(17,0,.e)]))])])):=by intros; exact ⟨⟩
 have hD23:DH 23 2 [12,15] (.s [0,1,2,3,5,6,7,4,8,9,10] (.a [(11,1,.a [(12,0,.s [13,14] (.a [(15,0,.e)]))])])):=by intros; exact ⟨⟩
 have hD20:DH 20 1 [12] (.s [0,1,2,4,5,6,7,3,8,9,10,11] (.a [(12,0,.e)])):=by intros; exact ⟨⟩
 have hD19:DH 19 2 [13,16] (.s [0,1,2,3,5,6,7,9,4,8,10,11] (.a [(12,1,.a [(13,0,.s [14,15] (.a [(16,0,.e)]))])])):=by intros; exact ⟨⟩
 have hD4:DH 4 1 [9,12] (.s [0,1,2,3,5,6,7,4,8] (.a [(9,0,.s [10,11] (.a [(12,0,.e)]))])):=by intros; exact ⟨⟩
 have hD3:DH 3 2 [19,22] (.s [0,1,2,3,5,6,7,9,10,15,16,17,4,8,11,12,18] (.a [(13,1,.a [(14,1,.a [(19,0,.s [20,21] (.a [(22,0,.e)]))])])])):=by intros; exact ⟨⟩
 have hJ18:JH 18 fun D=>∃ (n0_2:Addr) (i1_2:Int) (kid4_2:Addr),D [(0,(.pointer (some n0_2))),(1,(.int .i64 i1_2)),(4,(.pointer (some kid4_2)))] (fun C=>∀ (t202_2:Bool),C [(0,(.pointer (some n0_2))),(1,(.int .i64 i1_2)),(4,(.pointer (some kid4_2))),(202,(.bool t202_2))] (zAP.s2 Q n0_2 i1_2 kid4_2 t202_2)):=by intros; exact ⟨fun _ ⟨_,_,_,h⟩=>⟨_,_,h⟩⟩
 have hJ9:JH 9 fun D=>∃ (n0_1:Addr) (i1_1:Int) (kid4_1:Addr),D [(0,(.pointer (some n0_1))),(1,(.int .i64 i1_1)),(4,(.pointer (some kid4_1)))] (fun C=>∀ (t97_1:Bool),C [(0,(.pointer (some n0_1))),(1,(.int .i64 i1_1)),(4,(.pointer (some kid4_1))),(97,(.bool t97_1))] (zAP.s1 Q n0_1 i1_1 kid4_1 t97_1)):=by intros; exact ⟨fun _ ⟨_,_,_,h⟩=>⟨_,_,h⟩⟩
 exact g_walk 299 h Tryz.func249
end Go.Proofs.YtdemfamgieonbaaGreat
namespace Go.Proofs.YtdemfamgieonbaaGreat
open Go Go.Sep
set_option maxRecDepth 100000
set_option maxHeartbeats 4000000
attribute [local irreducible] G Gp Cx Tx Ex Sx Dx Ox Ax Lx Rx Fx Bx Bj Al Do Ld LdN St StN New CallF Ar DoU Rd Rd2 Pu Cd Ite Fv CallV CallY Ans0 Ans1 Ans2 Ans3 Ans4 Ans5 Ext Dead Dr WithS Sv LdS LdNS RdS Rd2S Nn Idx IdxA IdxS Fld Bld Slc SlcS Cat All LoopK RangeF RangeJ TakeD
namespace F_IRLibBtree
instance at_331:AT Tryz.prog 331 5:=⟨by kernel_rfl⟩
instance cb_256:CB Tryz.prog 256:=⟨by kernel_rfl⟩
instance cb_258:CB Tryz.prog 258:=⟨by kernel_rfl⟩
instance cb_259:CB Tryz.prog 259:=⟨by kernel_rfl⟩
instance cb_260:CB Tryz.prog 260:=⟨by kernel_rfl⟩
instance cb_261:CB Tryz.prog 261:=⟨by kernel_rfl⟩
instance cb_262:CB Tryz.prog 262:=⟨by kernel_rfl⟩
instance ct_256:CT Tryz.prog 256:=⟨by kernel_rfl⟩
instance zVT:EXT Tryz.prog 255 (Extern.SlicesOverlaps.overlaps #[257,257] #[4]):=ext_of Tryz.func255 (by kernel_rfl) (by kernel_rfl) (by kernel_rfl) (by kernel_rfl)
instance zVU:EXT Tryz.prog 257 (Extern.SlicesOverlaps.overlaps #[258,258] #[4]):=ext_of Tryz.func257 (by kernel_rfl) (by kernel_rfl) (by kernel_rfl) (by kernel_rfl)
instance in_204:INT Tryz.prog 204 .u64:=⟨by kernel_rfl⟩
instance in_3:INT Tryz.prog 3 .i64:=⟨by kernel_rfl⟩
instance mx:MX Tryz.prog:=⟨mixed⟩
instance sl_257:SLT Tryz.prog 257 331 5:=⟨by kernel_rfl⟩
instance sl_258:SLT Tryz.prog 258 256 1:=⟨by kernel_rfl⟩
instance sz_256:SZ Tryz.prog 256 1:=⟨by kernel_rfl⟩
instance sz_331:SZ Tryz.prog 331 5:=⟨by kernel_rfl⟩
instance un_257:UN Tryz.prog 257 (.slice 331):=⟨Tryz.underlying257⟩
instance un_258:UN Tryz.prog 258 (.slice 256):=⟨Tryz.underlying258⟩
instance zt_256:ZT Tryz.prog 256 (.pointer none):=⟨Tryz.t256,by kernel_rfl,by kernel_rfl⟩
instance zt_331:ZT Tryz.prog 331 (.agg #[(.string ⟨#[]⟩),(.bool false),(Sl.val ⟨none,0,0⟩),(.int .i64 0),(.int .u64 0)]):=⟨Tryz.t331,by kernel_rfl,by kernel_rfl⟩
end F_IRLibBtree
def zAA.s2 (Q:Int→Bool→K) (X1:Int→Int→K) (t6_2:Int) (t7_2:Bool):K :=
 Q t6_2 t7_2
def zAA.b1 (Q:Int→Bool→K)  (X1:Int→Int→K) (x0_1:Sl) (target1_1:ByteArray) (cmp2_1:Value) (n8_1:Int) (i9_1:Int) (j10_1:Int):K :=
 Ite (decide (i9_1 < j10_1))
  (Ar (IntKind.wrap .i64 (i9_1 + j10_1)) fun t20 =>
  Ar (IntKind.wrap .u64 t20) fun t21 =>
  Cd (0 ≤ (1:Int)) <|
  Ar (shrOf .u64 t21 1) fun t22 =>
  Ar (IntKind.wrap .i64 t22) fun t23 =>
  Idx x0_1 t23 5 fun t27 =>
  LdN t27 5 fun t28 =>
  CallV Tryz.prog cmp2_1 [(.agg t28),(.string target1_1)] <| Ans1 (fun (t30:Int)=>(Value.int .i64) t30) fun t30 =>
  Ite (decide (t30 < 0))
   (Ar (IntKind.wrap .i64 (t23 + 1)) fun t33 =>
   X1 t33 j10_1)
   (X1 i9_1 t23))
  (Ite (decide (i9_1 < n8_1))
   (Idx x0_1 i9_1 5 fun t43 =>
   LdN t43 5 fun t44 =>
   CallV Tryz.prog cmp2_1 [(.agg t44),(.string target1_1)] <| Ans1 (fun (t46:Int)=>(Value.int .i64) t46) fun t46 =>
   zAA.s2 Q X1 i9_1 (decide (t46 = 0)))
   (zAA.s2 Q X1 i9_1 false))
def zAA (x0:Sl) (target1:ByteArray) (cmp2:Value) (Q:Int→Bool→K):K :=
 LoopK (α:=Int×Int) (fun X x=>zAA.b1 Q (fun i9_1 j10_1=>X (i9_1,j10_1)) x0 target1 cmp2 (x0.n:Int) x.1 x.2) (0,(x0.n:Int))
theorem zBw (x0:Sl) (target1:ByteArray) (cmp2:Value) (Q:Int→Bool→K) (w:World) (h:zAA x0 target1 cmp2 Q w):zAA.call x0 target1 cmp2 Q w:=by
 have hJ1000008:∀ (X1:(Int×Int)→K),XH 3 X1→JH 1000008 fun D=>D [] (fun C=>∀ (t6_2:Int) (t7_2:Bool),C [(6,(.int .i64 t6_2)),(7,(.bool t7_2))] (zAA.s2 Q (fun i9_1 j10_1=>X1 (i9_1,j10_1)) t6_2 t7_2)):=by intros; exact ⟨fun _ h=>⟨_,_,h⟩⟩
 have hL3:∀ (x0_1:Sl) (target1_1:ByteArray) (cmp2_1:Value) (n8_1:Int),LH 3 (fun x:Int×Int=>[(0,(Sl.val x0_1)),(1,(.string target1_1)),(2,cmp2_1),(8,(.int .i64 n8_1)),(9,(.int .i64 x.1)),(10,(.int .i64 x.2))]) (fun X x=>zAA.b1 Q (fun i9_1 j10_1=>X (i9_1,j10_1)) x0_1 target1_1 cmp2_1 n8_1 x.1 x.2):=by intros; exact ⟨⟩
 exact g_walk 49 h Tryz.func230
def zAH (s0:Sl) (i1:Int) (j2:Int) (Q:Sl→K):K :=
 Slc s0 i1 j2 (s0.n:Int) 5 fun t13 =>
 Ite (decide (i1 = j2))
  (Q s0)
  (Dr <|
  Slc s0 0 i1 (s0.c:Int) 5 fun t22 =>
  Slc s0 j2 (s0.n:Int) (s0.c:Int) 5 fun t25 =>
  Do Tryz.prog (Builtin.append_ #[257,257] 257 #[(Sl.val t22),(Sl.val t25)]) Sl.val fun t26 =>
  Slc t26 (t26.n:Int) (s0.n:Int) (t26.c:Int) 5 fun t31 =>
  Do Tryz.prog (Builtin.clear_ #[257] 0 #[(Sl.val t31)]) id fun _ =>
  Q t26)
theorem zCG (s0:Sl) (i1:Int) (j2:Int) (Q:Sl→K) (w:World) (h:zAH s0 i1 j2 Q w):zAH.call s0 i1 j2 Q w:=by
 have hD5:DH 5 0 [] (.s [0,1,2,3,4,5] (.a [(6,0,.s [7] .e)])):=by intros; exact ⟨⟩
 exact g_walk 33 h Tryz.func247
def zAI (s0:Sl) (i1:Int) (v2:Sl) (Q:Sl→K):K :=
 Slc s0 i1 (s0.n:Int) (s0.c:Int) 5 fun t12 =>
 Ite (decide ((v2.n:Int) = 0))
  (Q s0)
  (Ite (decide (i1 = (s0.n:Int)))
   (Do Tryz.prog (Builtin.append_ #[257,257] 257 #[(Sl.val s0),(Sl.val v2)]) Sl.val fun t25 =>
   Q t25)
   (Ar (IntKind.wrap .i64 ((s0.n:Int) + (v2.n:Int))) fun t28 =>
   Do Tryz.prog (Builtin.cap_ #[257] 3 #[(Sl.val s0)]) (Value.int .i64) fun t30 =>
   Ite (decide (t30 < t28))
    (Slc s0 0 i1 (s0.c:Int) 5 fun t34 =>
    Ar (IntKind.wrap .i64 ((s0.n:Int) + (v2.n:Int))) fun t37 =>
    Ar (IntKind.wrap .i64 (t37 - i1)) fun t39 =>
    Do Tryz.prog (Builtin.append_ #[257,3] 257 #[(Sl.val t34),(.int .i64 t39)]) Sl.val fun t40 =>
    Slc t40 i1 (t40.n:Int) (t40.c:Int) 5 fun t43 =>
    Do Tryz.prog (Builtin.copy_ #[257,257] 3 #[(Sl.val t43),(Sl.val v2)]) (Value.int .i64) fun t45 =>
    Dr <|
    Ar (IntKind.wrap .i64 (i1 + (v2.n:Int))) fun t49 =>
    Slc t40 t49 (t40.n:Int) (t40.c:Int) 5 fun t50 =>
    Slc s0 i1 (s0.n:Int) (s0.c:Int) 5 fun t53 =>
    Do Tryz.prog (Builtin.copy_ #[257,257] 3 #[(Sl.val t50),(Sl.val t53)]) (Value.int .i64) fun t54 =>
    Q t40)
    (Ar (IntKind.wrap .i64 ((s0.n:Int) + (v2.n:Int))) fun t59 =>
    Slc s0 0 t59 (s0.c:Int) 5 fun t60 =>
    Ar (IntKind.wrap .i64 (i1 + (v2.n:Int))) fun t65 =>
    Slc t60 t65 (t60.n:Int) (t60.c:Int) 5 fun t66 =>
    Rd Tryz.prog (Extern.SlicesOverlaps.overlaps #[257,257] #[4] [(Sl.val v2),(Sl.val t66)].toArray) Value.bool fun t67 =>
    Ite (!t67)
     (Dr <|
     Ar (IntKind.wrap .i64 (i1 + (v2.n:Int))) fun t72 =>
     Slc t60 t72 (t60.n:Int) (t60.c:Int) 5 fun t73 =>
     Slc t60 i1 (t60.n:Int) (t60.c:Int) 5 fun t76 =>
     Do Tryz.prog (Builtin.copy_ #[257,257] 3 #[(Sl.val t73),(Sl.val t76)]) (Value.int .i64) fun t77 =>
     Slc t60 i1 (t60.n:Int) (t60.c:Int) 5 fun t80 =>
     Do Tryz.prog (Builtin.copy_ #[257,257] 3 #[(Sl.val t80),(Sl.val v2)]) (Value.int .i64) fun t82 =>
     Q t60)
     (Slc t60 (s0.n:Int) (t60.n:Int) (t60.c:Int) 5 fun t86 =>
     Do Tryz.prog (Builtin.copy_ #[257,257] 3 #[(Sl.val t86),(Sl.val v2)]) (Value.int .i64) fun t88 =>
     Slc t60 i1 (t60.n:Int) (t60.c:Int) 5 fun t91 =>
     zCk.call t91 (v2.n:Int) <|
     Q t60))))
theorem zCH (s0:Sl) (i1:Int) (v2:Sl) (Q:Sl→K) (w:World) (h:zAI s0 i1 v2 Q w):zAI.call s0 i1 v2 Q w:=by
 have hD11:DH 11 0 [] (.s [0,1,2,3,4,5,6,7] (.a [(8,0,.e)])):=by intros; exact ⟨⟩
 have hD15:DH 15 0 [] (.s [0,1,2,3,4,5,6,7] (.a [(8,0,.e)])):=by intros; exact ⟨⟩
 exact g_walk 95 h Tryz.func250
def zAS (s0:Sl) (i1:Int) (v2:Sl) (Q:Sl→K):K :=
 Slc s0 i1 (s0.n:Int) (s0.c:Int) 1 fun t12 =>
 Ite (decide ((v2.n:Int) = 0))
  (Q s0)
  (Ite (decide (i1 = (s0.n:Int)))
   (Do Tryz.prog (Builtin.append_ #[258,258] 258 #[(Sl.val s0),(Sl.val v2)]) Sl.val fun t25 =>
   Q t25)
   (Ar (IntKind.wrap .i64 ((s0.n:Int) + (v2.n:Int))) fun t28 =>
   Do Tryz.prog (Builtin.cap_ #[258] 3 #[(Sl.val s0)]) (Value.int .i64) fun t30 =>
   Ite (decide (t30 < t28))
    (Slc s0 0 i1 (s0.c:Int) 1 fun t34 =>
    Ar (IntKind.wrap .i64 ((s0.n:Int) + (v2.n:Int))) fun t37 =>
    Ar (IntKind.wrap .i64 (t37 - i1)) fun t39 =>
    Do Tryz.prog (Builtin.append_ #[258,3] 258 #[(Sl.val t34),(.int .i64 t39)]) Sl.val fun t40 =>
    Slc t40 i1 (t40.n:Int) (t40.c:Int) 1 fun t43 =>
    Do Tryz.prog (Builtin.copy_ #[258,258] 3 #[(Sl.val t43),(Sl.val v2)]) (Value.int .i64) fun t45 =>
    Dr <|
    Ar (IntKind.wrap .i64 (i1 + (v2.n:Int))) fun t49 =>
    Slc t40 t49 (t40.n:Int) (t40.c:Int) 1 fun t50 =>
    Slc s0 i1 (s0.n:Int) (s0.c:Int) 1 fun t53 =>
    Do Tryz.prog (Builtin.copy_ #[258,258] 3 #[(Sl.val t50),(Sl.val t53)]) (Value.int .i64) fun t54 =>
    Q t40)
    (Ar (IntKind.wrap .i64 ((s0.n:Int) + (v2.n:Int))) fun t59 =>
    Slc s0 0 t59 (s0.c:Int) 1 fun t60 =>
    Ar (IntKind.wrap .i64 (i1 + (v2.n:Int))) fun t65 =>
    Slc t60 t65 (t60.n:Int) (t60.c:Int) 1 fun t66 =>
    Rd Tryz.prog (Extern.SlicesOverlaps.overlaps #[258,258] #[4] [(Sl.val v2),(Sl.val t66)].toArray) Value.bool fun t67 =>
    Ite (!t67)
     (Dr <|
     Ar (IntKind.wrap .i64 (i1 + (v2.n:Int))) fun t72 =>
     Slc t60 t72 (t60.n:Int) (t60.c:Int) 1 fun t73 =>
     Slc t60 i1 (t60.n:Int) (t60.c:Int) 1 fun t76 =>
     Do Tryz.prog (Builtin.copy_ #[258,258] 3 #[(Sl.val t73),(Sl.val t76)]) (Value.int .i64) fun t77 =>
     Slc t60 i1 (t60.n:Int) (t60.c:Int) 1 fun t80 =>
     Do Tryz.prog (Builtin.copy_ #[258,258] 3 #[(Sl.val t80),(Sl.val v2)]) (Value.int .i64) fun t82 =>
     Q t60)
     (Slc t60 (s0.n:Int) (t60.n:Int) (t60.c:Int) 1 fun t86 =>
     Do Tryz.prog (Builtin.copy_ #[258,258] 3 #[(Sl.val t86),(Sl.val v2)]) (Value.int .i64) fun t88 =>
     Slc t60 i1 (t60.n:Int) (t60.c:Int) 1 fun t91 =>
     zCl.call t91 (v2.n:Int) <|
     Q t60))))
theorem zCI (s0:Sl) (i1:Int) (v2:Sl) (Q:Sl→K) (w:World) (h:zAS s0 i1 v2 Q w):zAS.call s0 i1 v2 Q w:=by
 have hD11:DH 11 0 [] (.s [0,1,2,3,4,5,6,7] (.a [(8,0,.e)])):=by intros; exact ⟨⟩
 have hD15:DH 15 0 [] (.s [0,1,2,3,4,5,6,7] (.a [(8,0,.e)])):=by intros; exact ⟨⟩
 exact g_walk 95 h Tryz.func251
def zAf (s0:Sl) (Q:Sl→K):K :=
 Ite ((s0).a.isNone)
  (Q (Sl.mk none 0 0))
  (New 331 #[] fun t5 =>
  Do Tryz.prog (Builtin.append_ #[257,257] 257 #[(Sl.val (Sl.mk (some t5) 0 0)),(Sl.val s0)]) Sl.val fun t7 =>
  Q t7)
theorem zCQ (s0:Sl) (Q:Sl→K) (w:World) (h:zAf s0 Q w):zAf.call s0 Q w:=by
 exact g_walk 8 h Tryz.func252
def zAg (s0:Sl) (Q:Sl→K):K :=
 Ite ((s0).a.isNone)
  (Q (Sl.mk none 0 0))
  (New 256 #[] fun t5 =>
  Do Tryz.prog (Builtin.append_ #[258,258] 258 #[(Sl.val (Sl.mk (some t5) 0 0)),(Sl.val s0)]) Sl.val fun t7 =>
  Q t7)
theorem zCR (s0:Sl) (Q:Sl→K) (w:World) (h:zAg s0 Q w):zAg.call s0 Q w:=by
 exact g_walk 8 h Tryz.func253
def zAT (s0:Sl) (i1:Int) (j2:Int) (Q:Sl→K):K :=
 Slc s0 i1 j2 (s0.n:Int) 1 fun t13 =>
 Ite (decide (i1 = j2))
  (Q s0)
  (Dr <|
  Slc s0 0 i1 (s0.c:Int) 1 fun t22 =>
  Slc s0 j2 (s0.n:Int) (s0.c:Int) 1 fun t25 =>
  Do Tryz.prog (Builtin.append_ #[258,258] 258 #[(Sl.val t22),(Sl.val t25)]) Sl.val fun t26 =>
  Slc t26 (t26.n:Int) (s0.n:Int) (t26.c:Int) 1 fun t31 =>
  Do Tryz.prog (Builtin.clear_ #[258] 0 #[(Sl.val t31)]) id fun _ =>
  Q t26)
theorem zCJ (s0:Sl) (i1:Int) (j2:Int) (Q:Sl→K) (w:World) (h:zAT s0 i1 j2 Q w):zAT.call s0 i1 j2 Q w:=by
 have hD5:DH 5 0 [] (.s [0,1,2,3,4,5] (.a [(6,0,.s [7] .e)])):=by intros; exact ⟨⟩
 exact g_walk 33 h Tryz.func254
def zCk (s0:Sl) (r1:Int) (Q:K):K :=
 Ar (IntKind.wrap .i64 ((s0.n:Int) - r1)) fun t8 =>
 zCr.call s0 t8 <|
 Q
def zCl (s0:Sl) (r1:Int) (Q:K):K :=
 Ar (IntKind.wrap .i64 ((s0.n:Int) - r1)) fun t8 =>
 zCs.call s0 t8 <|
 Q
def zCr (s0:Sl) (r1:Int) (Q:K):K :=
 Slc s0 0 r1 (s0.c:Int) 5 fun t6 =>
 zAQ.call t6 <|
 Slc s0 r1 (s0.n:Int) (s0.c:Int) 5 fun t10 =>
 zAQ.call t10 <|
 zAQ.call s0 <|
 Q
def zCs (s0:Sl) (r1:Int) (Q:K):K :=
 Slc s0 0 r1 (s0.c:Int) 1 fun t6 =>
 zAR.call t6 <|
 Slc s0 r1 (s0.n:Int) (s0.c:Int) 1 fun t10 =>
 zAR.call t10 <|
 zAR.call s0 <|
 Q
def zAQ.b1 (Q:K)  (X1:Int→Int→K) (s0_1:Sl) (i2_1:Int) (j3_1:Int):K :=
 Ite (decide (i2_1 < j3_1))
  (Dr <|
  Idx s0_1 j3_1 5 fun t20 =>
  Idx s0_1 i2_1 5 fun t24 =>
  LdN t20 5 fun t21 =>
  LdN t24 5 fun t25 =>
  Idx s0_1 i2_1 5 fun t26 =>
  StN t26 5 t21 <|
  Idx s0_1 j3_1 5 fun t27 =>
  StN t27 5 t25 <|
  Ar (IntKind.wrap .i64 (i2_1 + 1)) fun t11 =>
  Ar (IntKind.wrap .i64 (j3_1 - 1)) fun t13 =>
  X1 t11 t13)
  (Q)
def zAQ (s0:Sl) (Q:K):K :=
 Ar (IntKind.wrap .i64 ((s0.n:Int) - 1)) fun t6 =>
 LoopK (α:=Int×Int) (fun X x=>zAQ.b1 Q (fun i2_1 j3_1=>X (i2_1,j3_1)) s0 x.1 x.2) (0,t6)
def zAR.b1 (Q:K)  (X1:Int→Int→K) (s0_1:Sl) (i2_1:Int) (j3_1:Int):K :=
 Ite (decide (i2_1 < j3_1))
  (Dr <|
  Idx s0_1 j3_1 1 fun t20 =>
  Idx s0_1 i2_1 1 fun t24 =>
  Ld t20 Value.pointer fun t21 =>
  Ld t24 Value.pointer fun t25 =>
  Idx s0_1 i2_1 1 fun t26 =>
  St t26 (.pointer t21) <|
  Idx s0_1 j3_1 1 fun t27 =>
  St t27 (.pointer t25) <|
  Ar (IntKind.wrap .i64 (i2_1 + 1)) fun t11 =>
  Ar (IntKind.wrap .i64 (j3_1 - 1)) fun t13 =>
  X1 t11 t13)
  (Q)
def zAR (s0:Sl) (Q:K):K :=
 Ar (IntKind.wrap .i64 ((s0.n:Int) - 1)) fun t6 =>
 LoopK (α:=Int×Int) (fun X x=>zAR.b1 Q (fun i2_1 j3_1=>X (i2_1,j3_1)) s0 x.1 x.2) (0,t6)
end Go.Proofs.YtdemfamgieonbaaGreat
namespace Go.Proofs.YtdemfamgieonbaaGreat
open Go Go.Sep
set_option maxRecDepth 100000
set_option maxHeartbeats 4000000
attribute [local irreducible] G Gp Cx Tx Ex Sx Dx Ox Ax Lx Rx Fx Bx Bj Al Do Ld LdN St StN New CallF Ar DoU Rd Rd2 Pu Cd Ite Fv CallV CallY Ans0 Ans1 Ans2 Ans3 Ans4 Ans5 Ext Dead Dr WithS Sv LdS LdNS RdS Rd2S Nn Idx IdxA IdxS Fld Bld Slc SlcS Cat All LoopK RangeF RangeJ TakeD
namespace F_IRLibCmp
instance cb_189:CB Tryz.prog 189:=⟨by kernel_rfl⟩
instance cb_238:CB Tryz.prog 238:=⟨by kernel_rfl⟩
instance mx:MX Tryz.prog:=⟨mixed⟩
end F_IRLibCmp
def cmp_Less_int.s1 (Q:Bool→K)  (t4_1:Bool):K :=
 Q t4_1
def cmp_Less_int (x0:Int) (y1:Int) (Q:Bool→K):K :=
 cmp_isNaN_int.call x0 fun t6 =>
 Ite t6
  (cmp_isNaN_int.call y1 fun t9 =>
  Ite (!t9)
   (cmp_Less_int.s1 Q true)
   (cmp_Less_int.s1 Q (decide (x0 < y1))))
  (cmp_Less_int.s1 Q (decide (x0 < y1)))
def cmp_isNaN_int (x0:Int) (Q:Bool→K):K :=
 Q (decide (x0 ≠ x0))
def cmp_Less_string.s1 (Q:Bool→K)  (t4_1:Bool):K :=
 Q t4_1
def cmp_Less_string (x0:ByteArray) (y1:ByteArray) (Q:Bool→K):K :=
 cmp_isNaN_string.call x0 fun t6 =>
 Ite t6
  (cmp_isNaN_string.call y1 fun t9 =>
  Ite (!t9)
   (cmp_Less_string.s1 Q true)
   (cmp_Less_string.s1 Q (Op.bytesLess x0.toList y1.toList)))
  (cmp_Less_string.s1 Q (Op.bytesLess x0.toList y1.toList))
def zC7 (x0:ByteArray) (y1:ByteArray) (Q:Int→K):K :=
 cmp_isNaN_string.call x0 fun t8 =>
 cmp_isNaN_string.call y1 fun t10 =>
 Ite t8
  (Ite t10
   (Q 0)
   (Q (-1)))
  (Ite t10
   (Q 1)
   (Ite (Op.bytesLess x0.toList y1.toList)
    (Q (-1))
    (Ite (!(Op.bytesLess x0.toList y1.toList || x0.toList == y1.toList))
     (Q 1)
     (Q 0))))
theorem zHP (x0:ByteArray) (y1:ByteArray) (Q:Int→K) (w:World) (h:zC7 x0 y1 Q w):zC7.call x0 y1 Q w:=by
 exact g_walk 20 h Tryz.func232
def cmp_isNaN_string (x0:ByteArray) (Q:Bool→K):K :=
 Q (!(x0.toList == x0.toList))
theorem zIa (x0:ByteArray) (Q:Bool→K) (w:World) (h:cmp_isNaN_string x0 Q w):cmp_isNaN_string.call x0 Q w:=by
 exact g_walk 6 h Tryz.func238
end Go.Proofs.YtdemfamgieonbaaGreat
namespace Go.Proofs.YtdemfamgieonbaaGreat
open Go Go.Sep Go.Sep.Bt
set_option maxRecDepth 100000
noncomputable def btS:BtT ByteArray where
 P:=Tryz.prog
 tI:=zFQ
 tSI:=zEz
 tV:=zA9
 tK:=zEy
 tSK:=zEk
 tN:=zFO
 tT:=zFP
 nv:=4
 kz:=.string ⟨#[]⟩
 vz:=[.bool false,Sl.val ⟨none,0,0⟩,.int .i64 0,.int .u64 0]
 kV:=Value.string
 cv:=.func (.func 231) #[] #[]
 bsC:=zAA.call
 nsearchC:=zA2.call
 nputC:=zAN.call
 insIC:=zAI.call
 insKC:=zAS.call
 cloneIC:=zAf.call
 cloneKC:=zAg.call
def cmpS (a b:ByteArray):Int:=if a.toList < b.toList then -1 else if a.toList = b.toList then 0 else 1
theorem toList_inj {a b:ByteArray} (h:a.toList = b.toList):a = b:=by
 obtain ⟨x,rfl⟩:=bs_of a
 obtain ⟨y,rfl⟩:=bs_of b
 rw [zBa,zBa] at h
 rw [h]
theorem zEg {a b:ByteArray}:cmpS a b < 0 ↔ a.toList < b.toList:=by
 unfold cmpS
 split
 ·simp [*]
 ·split <;> simp [*]
theorem zQs {a b:ByteArray}:cmpS a b = 0 ↔ a = b:=by
 unfold cmpS
 split
 ·rename_i h
  simp only [show ¬ ((-1:Int) = 0) by omega,false_iff]
  rintro rfl; exact List.lt_irrefl _ h
 ·split
  ·rename_i h; simp [toList_inj h]
  ·rename_i h
   simp only [show ¬ ((1:Int) = 0) by omega,false_iff]
   rintro rfl; exact h rfl
theorem zNy {x y:List UInt8} (h1:¬ x < y) (h2:¬ x = y):y < x:=by
 have h4:y ≤ x:=by rw [← List.not_lt]; exact h1
 rcases List.le_iff_lt_or_eq.1 h4 with h5 | h5
 ·exact h5
 ·exact absurd h5.symm h2
theorem zSE {a b:ByteArray}:0 < cmpS a b ↔ b.toList < a.toList:=by
 unfold cmpS
 split
 ·rename_i h
  simp only [show ¬ (0 < (-1:Int)) by omega,false_iff]
  exact fun h2=>List.lt_irrefl _ (List.lt_trans h h2)
 ·split
  ·rename_i h
   simp only [show ¬ (0 < (0:Int)) by omega,false_iff]
   rw [h]; exact List.lt_irrefl _
  ·rename_i h1 h2
   simp only [show 0 < (1:Int) by omega,true_iff]
   exact zNy h1 h2
theorem zLC {B:World} {Γ:List HProp} {x:ByteArray} {q:Bool→K} (h:HG B Γ (q false)):HG B Γ (cmp_isNaN_string.call x q):=fun w hw=>zIa _ _ _ (by unfold cmp_isNaN_string; simpa using h w hw)
theorem zNz {B:World} {Γ:List HProp} {x y:ByteArray} {q:Int→K} (h:HG B Γ (q (cmpS x y))):HG B Γ (zC7.call x y q):=fun w hw=>by
 refine zHP _ _ _ _ ?_
 refine hg hw ?_
 unfold zC7
 refine zLC (zLC ?_)
 refine s_f ?_ rfl
 refine s_f ?_ rfl
 rw [gt_dec,zDr]
 refine s_ite (fun h1=>?_) fun h1=>?_
 ·have e:cmpS x y = -1:=by unfold cmpS; rw [if_pos (by simpa using h1)]
  rw [e] at h; exact h
 refine s_ite (fun h2=>?_) fun h2=>?_
 ·have h3:y.toList < x.toList:=by simpa using h2
  have e:cmpS x y = 1:=by
   unfold cmpS
   rw [if_neg (by simpa using h1),if_neg fun h4=>by rw [h4] at h3; exact List.lt_irrefl _ h3]
  rw [e] at h; exact h
 ·have h3:¬ y.toList < x.toList:=by simpa using h2
  have e:cmpS x y = 0:=by
   unfold cmpS
   rw [if_neg (by simpa using h1),if_pos (Classical.byContradiction fun h4=>h3 (zNy (by simpa using h1) h4))]
  rw [e] at h; exact h
theorem btS_ok:BtOk btS cmpS where
 kf:=fun _=>rfl
 kzf:=rfl
 vz:=⟨rfl,rfl⟩
 TI:=by kernel_rfl
 ZI:=by kernel_rfl
 TK:=by kernel_rfl
 ZK:=by kernel_rfl
 tr:=fun h1 h2=>zEg.2 (List.lt_trans (zEg.1 h1) (zEg.1 h2))
 eq:=zQs
 sw:=by intro a b; rw [zEg,zSE]
 cmp:=fun a b vs q hl h=>by
  refine zTH ?_
  refine fun w hw=>zEH _ _ _ _ ?_
  refine hg hw ?_
  clear hw w
  unfold zBx
  refine s_new fun t=>?_
  refine s_ld (b:=t) (x:=a) ?_
  refine zNz ?_
  exact s_end h
 bs:=fun s k Q w h=>zBw _ _ _ _ _ h
 search:=fun n k Q w h=>zEQ _ _ _ _ h
 put:=fun n x Q w h=>zEt _ _ _ _ h
 insI:=⟨_,_,fun s i v Q w h=>zCH _ _ _ _ _ h⟩
 insK:=⟨_,_,fun s i v Q w h=>zCI _ _ _ _ _ h⟩
 cloneI:=fun s Q w h=>zCQ _ _ _ h
 cloneK:=fun s Q w h=>zCR _ _ _ h
section
variable {B:World} {Γ:List HProp}
theorem zP2 {Q:Option Addr→K} (h:∀ t,HG B (TreeR btS cmpS t []::Γ) (Q (some ⟨t,0,none⟩))):HG B Γ (zCB.call Q):=fun w hw =>
 zFe _ _ (show tnew btS Q w from hg hw (zQp h))
theorem zP3 {t:Nat} {L:List btS.It} {k:ByteArray} {Q:Array Value→Bool→K} (hfound:∀ A v C,L = A++(k,v)::C→HG B (TreeR btS cmpS t L::Γ) (Q v.1.toArray true)) (hnot:(∀ A C,L = A++C→(∀ x ∈ A,cmpS x.1 k < 0)→(∀ x ∈ C,cmpS k x.1 < 0)→HG B (TreeR btS cmpS t L::Γ) (Q btS.vz.toArray false))) :
  HG B (TreeR btS cmpS t L::Γ) (zBD.call (some ⟨t,0,none⟩) k Q):=fun w hw =>
 zEr _ _ _ _ (show tget btS (some ⟨t,0,none⟩) k Q w from hg hw (zQr btS_ok hfound hnot))
theorem zP4 {t:Nat} {L:List btS.It} {k:ByteArray} {v:Cel btS.nv} {Q:Array Value→Bool→K} (hL:L.length < 1000000000) (h:∀ L' old had,PutR cmpS (btS.z0 btS_ok.vz) L k v L' old had→HG B (TreeR btS cmpS t L'::Γ) (Q old.1.toArray had)) :
  HG B (TreeR btS cmpS t L::Γ) (zAE.call (some ⟨t,0,none⟩) k v.1.toArray Q):=fun w hw =>
 zEs _ _ _ _ _ (show tput btS (some ⟨t,0,none⟩) k v.1.toArray Q w from hg hw (zQq btS_ok hL h))
end
end Go.Proofs.YtdemfamgieonbaaGreat
namespace Go.Proofs.YtdemfamgieonbaaGreat
open Go Go.Sep
section
variable {B w:World} {Γ:List HProp}
theorem zKX {b:Sl} {xs:List UInt8} {k:Sl→K} (h:Holds B Γ w) (hr:∀ w,Holds B Γ w→RdB w b xs) (hl:xs.length ≤ 1000000000)
  (hk:∀ s w,Holds B (Bytes zAd s xs::Γ) w→s.a.isNone = b.a.isNone→k s w):zBS.call b k w:=by
 refine zFr _ _ _ ?_
 unfold zBS
 refine r_ite (fun hb=>?_) (fun hb=>?_)
 ·have hx:xs = []:=by
   have h1:=(hr w h).nil (by simpa using hb)
   have h2:=(hr w h).len
   rw [h1] at h2; simpa using h2
  subst hx
  exact hk _ _ (h.nilSl _ _) (by rw [hb]; rfl)
 ·refine r_new h ?_
  clear h
  intro t w h
  try simp only [add_mk,Nat.zero_add,Nat.reduceAdd]
  have hn:b.n = xs.length:=by have h2:=(hr w h.tail).len; simpa using h2.symm
  refine zHo (vs:=[]) (h.imp (zDk rfl rfl)) (by kernel_rfl) (by kernel_rfl) (by':=1) (by kernel_rfl) zIT rfl (hr w h.tail) (zFV _) (by simp only [hn]; omega) (by decide) fun s w h hs ha=>?_
  refine hk s w h ?_
  rw [hb]
  have:=ha rfl
  cases hh:s.a <;> simp [hh] at this ⊢
end
end Go.Proofs.YtdemfamgieonbaaGreat
namespace Go.Proofs.YtdemfamgieonbaaGreat
open Go Go.Sep
set_option maxRecDepth 100000
set_option maxHeartbeats 4000000
attribute [local irreducible] G Gp Cx Tx Ex Sx Dx Ox Ax Lx Rx Fx Bx Bj Al Do Ld LdN St StN New CallF Ar DoU Rd Rd2 Pu Cd Ite Fv CallV CallY Ans0 Ans1 Ans2 Ans3 Ans4 Ans5 Ext Dead Dr WithS Sv LdS LdNS RdS Rd2S Nn Idx IdxA IdxS Fld Bld Slc SlcS Cat All LoopK RangeF RangeJ TakeD
namespace F_IRStore
instance at_87:AT Tryz.prog 87 4:=⟨by kernel_rfl⟩
instance cb_108:CB Tryz.prog 108:=⟨by kernel_rfl⟩
instance cb_109:CB Tryz.prog 109:=⟨by kernel_rfl⟩
instance cb_110:CB Tryz.prog 110:=⟨by kernel_rfl⟩
instance cb_161:CB Tryz.prog 161:=⟨by kernel_rfl⟩
instance cb_162:CB Tryz.prog 162:=⟨by kernel_rfl⟩
instance cb_229:CB Tryz.prog 229:=⟨by kernel_rfl⟩
instance cb_242:CB Tryz.prog 242:=⟨by kernel_rfl⟩
instance cb_243:CB Tryz.prog 243:=⟨by kernel_rfl⟩
instance cb_85:CB Tryz.prog 85:=⟨by kernel_rfl⟩
instance ct_191:CT Tryz.prog 191:=⟨by kernel_rfl⟩
instance ct_3:CT Tryz.prog 3:=⟨by kernel_rfl⟩
instance ct_33:CT Tryz.prog 33:=⟨by kernel_rfl⟩
instance ct_4:CT Tryz.prog 4:=⟨by kernel_rfl⟩
instance ct_56:CT Tryz.prog 56:=⟨by kernel_rfl⟩
instance ct_85:CT Tryz.prog 85:=⟨by kernel_rfl⟩
instance zUe:FT Tryz.prog 194 0 0 1:=⟨by kernel_rfl⟩
instance zUf:FT Tryz.prog 194 1 1 1:=⟨by kernel_rfl⟩
instance zLq:FT Tryz.prog 87 0 0 1:=⟨by kernel_rfl⟩
instance zLr:FT Tryz.prog 87 1 1 1:=⟨by kernel_rfl⟩
instance zLs:FT Tryz.prog 87 2 2 1:=⟨by kernel_rfl⟩
instance zLt:FT Tryz.prog 87 3 3 1:=⟨by kernel_rfl⟩
instance in_3:INT Tryz.prog 3 .i64:=⟨by kernel_rfl⟩
instance in_5:INT Tryz.prog 5 .u8:=⟨by kernel_rfl⟩
instance mx:MX Tryz.prog:=⟨mixed⟩
instance pl_173:PLT Tryz.prog 173 [(0,1),(1,4)]:=⟨_,Tryz.underlying173,by kernel_rfl⟩
instance pl_194:PLT Tryz.prog 194 [(0,1),(1,1)]:=⟨_,Tryz.underlying194,by kernel_rfl⟩
instance sl_56:SLT Tryz.prog 56 173 5:=⟨by kernel_rfl⟩
instance st_9:STT Tryz.prog 9:=⟨by kernel_rfl⟩
instance sz_3:SZ Tryz.prog 3 1:=⟨by kernel_rfl⟩
instance sz_33:SZ Tryz.prog 33 1:=⟨by kernel_rfl⟩
instance sz_4:SZ Tryz.prog 4 1:=⟨by kernel_rfl⟩
instance sz_56:SZ Tryz.prog 56 1:=⟨by kernel_rfl⟩
instance sz_85:SZ Tryz.prog 85 1:=⟨by kernel_rfl⟩
instance sz_87:SZ Tryz.prog 87 4:=⟨by kernel_rfl⟩
instance zt_173:ZT Tryz.prog 173 (.agg #[(.string ⟨#[]⟩),(.bool false),(Sl.val ⟨none,0,0⟩),(.int .i64 0),(.int .u64 0)]):=⟨Tryz.t173,by kernel_rfl,by kernel_rfl⟩
instance zt_194:ZT Tryz.prog 194 (.agg #[(.int .i64 0),(.pointer none)]):=⟨Tryz.t194,by kernel_rfl,by kernel_rfl⟩
instance zt_56:ZT Tryz.prog 56 (Sl.val ⟨none,0,0⟩):=⟨Tryz.t56,by kernel_rfl,by kernel_rfl⟩
instance zt_87:ZT Tryz.prog 87 (.agg #[(.bool false),(Sl.val ⟨none,0,0⟩),(.int .i64 0),(.int .u64 0)]):=⟨Tryz.t87,by kernel_rfl,by kernel_rfl⟩
end F_IRStore
def zDc.s1 (Q:(Option Addr)→Int→K)  (regions0_1:Int) (t9_1:Bool):K :=
 Ite t9_1
  (Q none 1)
  (zCB.call  fun t11 =>
  New 194 #[(.int .i64 regions0_1),(.pointer t11)] fun t13 =>
  Q (some t13) 0)
def zDc (regions0:Int) (Q:(Option Addr)→Int→K):K :=
 Ite (decide (regions0 < 1))
  (zDc.s1 Q regions0 true)
  (zDc.s1 Q regions0 (decide ((3:Int) < regions0)))
theorem zN0 (regions0:Int) (Q:(Option Addr)→Int→K) (w:World) (h:zDc regions0 Q w):zDc.call regions0 Q w:=by
 have hJ2:JH 2 fun D=>∃ (regions0_1:Int),D [(0,(.int .i64 regions0_1))] (fun C=>∀ (t9_1:Bool),C [(0,(.int .i64 regions0_1)),(9,(.bool t9_1))] (zDc.s1 Q regions0_1 t9_1)):=by intros; exact ⟨fun _ ⟨_,h⟩=>⟨_,_,h⟩⟩
 exact g_walk 14 h Tryz.func46
def zGc (s0:(Option Addr)) (Q:Sl→K):K :=
 New 56 #[(Sl.val ⟨none,0,0⟩)] fun out2 =>
 Nn s0 fun t6 =>
 Ld (t6.add 1) Value.pointer fun t8 =>
 zDo.call t8 fun t9 =>
 RangeJ Tryz.prog t9 .ret (fun x:ByteArray×(Array Value)=>[(.string x.1),(.agg x.2)]) (fun BG1 KN1 KJ1 x =>
  New 87 #[(.bool false),(Sl.val ⟨none,0,0⟩),(.int .i64 0),(.int .u64 0)] fun r4 =>
  StN r4 4 x.2 <|
  BG1 <|
  Ld (r4.add 1) Sl.val fun t13 =>
  zBS.call t13 fun t14 =>
  St (r4.add 1) (Sl.val t14) <|
  Ld out2 Sl.val fun t16 =>
  LdN r4 4 fun t18 =>
  Bld #[(.string ⟨#[]⟩),(.bool false),(Sl.val ⟨none,0,0⟩),(.int .i64 0),(.int .u64 0)] ([(0,1),(1,4)][·]?) [(0,(.string x.1)),(1,(.agg t18))] fun t19 =>
  Bld #[(.string ⟨#[]⟩),(.bool false),(Sl.val ⟨none,0,0⟩),(.int .i64 0),(.int .u64 0)] (fun i=>some (i * 5,5)) [(0,(.agg t19))] fun ct20 =>
  New 173 ct20 fun t20 =>
  Do Tryz.prog (Builtin.append_ #[56,56] 56 #[(Sl.val t16),(Sl.val (Sl.mk (some t20) 1 1))]) Sl.val fun t21 =>
  St out2 (Sl.val t21) <|
  KN1)
  (fun D1 =>
   Ld out2 Sl.val fun t22 =>
   St out2 (Sl.val t22) <|
   TakeD D1 <|
   Ld out2 Sl.val fun r0 =>
   Q r0)
  (fun D1 =>
   Dead)
def zA7.s1 (Q:(Array Value)→K)  (t4_1:Addr) (r5_1:Addr):K :=
 Ld (r5_1.add 1) Sl.val fun t26 =>
 zBS.call t26 fun t27 =>
 St (r5_1.add 1) (Sl.val t27) <|
 LdN r5_1 4 fun t29 =>
 StN t4_1 4 t29 <|
 LdN t4_1 4 fun r0 =>
 Q r0
def zA7 (s0:(Option Addr)) (key1:ByteArray) (Q:(Array Value)→K):K :=
 New 87 #[(.bool false),(Sl.val ⟨none,0,0⟩),(.int .i64 0),(.int .u64 0)] fun t4 =>
 Nn s0 fun t9 =>
 Ld (t9.add 1) Value.pointer fun t11 =>
 zBD.call t11 key1 fun t13x0 t13x1 =>
 New 87 #[(.bool false),(Sl.val ⟨none,0,0⟩),(.int .i64 0),(.int .u64 0)] fun r5 =>
 StN r5 4 t13x0 <|
 Ite (!t13x1)
  (Ld t9 (Value.int .i64) fun t22 =>
  zCi.call key1 t22 fun t23 =>
  St (r5.add 2) (.int .i64 t23) <|
  zA7.s1 Q t4 r5)
  (zA7.s1 Q t4 r5)
theorem zI5 (s0:(Option Addr)) (key1:ByteArray) (Q:(Array Value)→K) (w:World) (h:zA7 s0 key1 Q w):zA7.call s0 key1 Q w:=by
 have hJ4:JH 4 fun D=>∃ (t4_1:Addr) (r5_1:Addr),D [(4,(.pointer (some t4_1))),(5,(.pointer (some r5_1)))] (fun C=>C [(4,(.pointer (some t4_1))),(5,(.pointer (some r5_1)))] (zA7.s1 Q t4_1 r5_1)):=by intros; exact ⟨fun _ ⟨_,_,h⟩=>⟨_,_,h⟩⟩
 exact g_walk 30 h Tryz.func108
def zCi.b1 (Q:Int→K)  (X1:Int→Int→K) (key0_1:ByteArray) (regions1_1:Int) (t10_1:Int) (sum5_1:Int) (t11_1:Int):K :=
 Ite (decide (t11_1 < t10_1))
  (IdxS key0_1 t11_1 fun t17 =>
  Ar (IntKind.wrap .i64 t17) fun t18 =>
  Ar (IntKind.wrap .i64 (sum5_1 + t18)) fun t19 =>
  Cd (regions1_1 ≠ 0) <|
  Ar (Int.tmod t19 regions1_1) fun t21 =>
  Ar (IntKind.wrap .i64 (t11_1 + 1)) fun t22 =>
  X1 t21 t22)
  (Q sum5_1)
def zCi (key0:ByteArray) (regions1:Int) (Q:Int→K):K :=
 Ite (decide (regions1 < 1))
  (Q 0)
  (LoopK (α:=Int×Int) (fun X x=>zCi.b1 Q (fun sum5_1 t11_1=>X (sum5_1,t11_1)) key0 regions1 (key0.size:Int) x.1 x.2) (0,0))
theorem zKY (key0:ByteArray) (regions1:Int) (Q:Int→K) (w:World) (h:zCi key0 regions1 Q w):zCi.call key0 regions1 Q w:=by
 have hL5:∀ (key0_1:ByteArray) (regions1_1:Int) (t10_1:Int),LH 5 (fun x:Int×Int=>[(0,(.string key0_1)),(1,(.int .i64 regions1_1)),(5,(.int .i64 x.1)),(10,(.int .i64 t10_1)),(11,(.int .i64 x.2))]) (fun X x=>zCi.b1 Q (fun sum5_1 t11_1=>X (sum5_1,t11_1)) key0_1 regions1_1 t10_1 x.1 x.2):=by intros; exact ⟨⟩
 exact g_walk 24 h Tryz.func162
def zBe.s1 (Q:Int→K)  (s0_1:(Option Addr)) (key1_1:ByteArray) (home2_1:Int) (r7_1:Addr) (t11_1:Bool):K :=
 Ite t11_1
  (Q 1)
  (Ld (r7_1.add 3) (Value.int .u64) fun t24 =>
  Ite (decide (t24 = 18446744073709551615))
   (Q 111)
   (St (r7_1.add 2) (.int .i64 home2_1) <|
   Ld (r7_1.add 3) (Value.int .u64) fun t29 =>
   Ar (IntKind.wrap .u64 (t29 + 1)) fun t30 =>
   St (r7_1.add 3) (.int .u64 t30) <|
   LdN r7_1 4 fun t34 =>
   zBH.call s0_1 key1_1 t34 <|
   Q 0))
def zBe (s0:(Option Addr)) (key1:ByteArray) (home2:Int) (Q:Int→K):K :=
 zA7.call s0 key1 fun t10 =>
 New 87 #[(.bool false),(Sl.val ⟨none,0,0⟩),(.int .i64 0),(.int .u64 0)] fun r7 =>
 StN r7 4 t10 <|
 Ite (decide (home2 < 0))
  (zBe.s1 Q s0 key1 home2 r7 true)
  (Nn s0 fun t17 =>
  Ld t17 (Value.int .i64) fun t19 =>
  zBe.s1 Q (some t17) key1 home2 r7 (decide (t19 ≤ home2)))
theorem zIb (s0:(Option Addr)) (key1:ByteArray) (home2:Int) (Q:Int→K) (w:World) (h:zBe s0 key1 home2 Q w):zBe.call s0 key1 home2 Q w:=by
 have hJ3:JH 3 fun D=>∃ (s0_1:(Option Addr)) (key1_1:ByteArray) (home2_1:Int) (r7_1:Addr),D [(0,(.pointer s0_1)),(1,(.string key1_1)),(2,(.int .i64 home2_1)),(7,(.pointer (some r7_1)))] (fun C=>∀ (t11_1:Bool),C [(0,(.pointer s0_1)),(1,(.string key1_1)),(2,(.int .i64 home2_1)),(7,(.pointer (some r7_1))),(11,(.bool t11_1))] (zBe.s1 Q s0_1 key1_1 home2_1 r7_1 t11_1)):=by intros; exact ⟨fun _ ⟨_,_,_,_,h⟩=>⟨_,_,h⟩⟩
 exact g_walk 36 h Tryz.func197
def zDg (s0:(Option Addr)) (key1:ByteArray) (value2:Sl) (Q:K):K :=
 zA7.call s0 key1 fun t9 =>
 New 87 #[(.bool false),(Sl.val ⟨none,0,0⟩),(.int .i64 0),(.int .u64 0)] fun r6 =>
 StN r6 4 t9 <|
 zBS.call value2 fun t11 =>
 St r6 (.bool true) <|
 St (r6.add 1) (Sl.val t11) <|
 LdN r6 4 fun t16 =>
 zBH.call s0 key1 t16 <|
 Q
theorem zI6 (s0:(Option Addr)) (key1:ByteArray) (value2:Sl) (Q:K) (w:World) (h:zDg s0 key1 value2 Q w):zDg.call s0 key1 value2 Q w:=by
 exact g_walk 18 h Tryz.func198
def zC6 (s0:(Option Addr)) (key1:ByteArray) (Q:K):K :=
 zA7.call s0 key1 fun t7 =>
 New 87 #[(.bool false),(Sl.val ⟨none,0,0⟩),(.int .i64 0),(.int .u64 0)] fun r4 =>
 StN r4 4 t7 <|
 St r4 (.bool false) <|
 St (r4.add 1) (Sl.val (Sl.mk none 0 0)) <|
 LdN r4 4 fun t12 =>
 zBH.call s0 key1 t12 <|
 Q
theorem zHQ (s0:(Option Addr)) (key1:ByteArray) (Q:K) (w:World) (h:zC6 s0 key1 Q w):zC6.call s0 key1 Q w:=by
 exact g_walk 14 h Tryz.func199
def zBH.s1 (Q:K)  (s0_1:(Option Addr)) (key1_1:ByteArray) (r5_1:Addr) (t13_1:Bool):K :=
 Ite t13_1
  (Nn s0_1 fun t15 =>
  Ld (t15.add 1) Value.pointer fun t17 =>
  zAD.call t17 key1_1 fun t19x0 t19x1 =>
  Q)
  (Dr <|
  Nn s0_1 fun t21 =>
  Ld (t21.add 1) Value.pointer fun t23 =>
  LdN r5_1 4 fun t25 =>
  zAE.call t23 key1_1 t25 fun t26x0 t26x1 =>
  Q)
def zBH (s0:(Option Addr)) (key1:ByteArray) (r2:(Array Value)) (Q:K):K :=
 New 87 r2 fun r5 =>
 Ld r5 Value.bool fun t7 =>
 Ite (!t7)
  (Ld (r5.add 3) (Value.int .u64) fun t11 =>
  zBH.s1 Q s0 key1 r5 (decide (t11 = 0)))
  (zBH.s1 Q s0 key1 r5 false)
theorem zGB (s0:(Option Addr)) (key1:ByteArray) (r2:(Array Value)) (Q:K) (w:World) (h:zBH s0 key1 r2 Q w):zBH.call s0 key1 r2 Q w:=by
 have hD3:DH 3 1 [6] (.s [0,1,2,4,3,5] (.a [(6,0,.e)])):=by intros; exact ⟨⟩
 have hJ2:JH 2 fun D=>∃ (s0_1:(Option Addr)) (key1_1:ByteArray) (r5_1:Addr),D [(0,(.pointer s0_1)),(1,(.string key1_1)),(5,(.pointer (some r5_1)))] (fun C=>∀ (t13_1:Bool),C [(0,(.pointer s0_1)),(1,(.string key1_1)),(5,(.pointer (some r5_1))),(13,(.bool t13_1))] (zBH.s1 Q s0_1 key1_1 r5_1 t13_1)):=by intros; exact ⟨fun _ ⟨_,_,_,h⟩=>⟨_,_,h⟩⟩
 exact g_walk 27 h Tryz.func229
end Go.Proofs.YtdemfamgieonbaaGreat
namespace Go.Proofs.YtdemfamgieonbaaGreat
open Go Go.Sep Go.Sep.Bt
set_option maxRecDepth 100000
structure Rec where
 has:Bool
 val:List UInt8
 home:Int
 cnt:Int
def Rec.ok (r:Rec):Prop:=0 ≤ r.cnt∧r.cnt ≤ 18446744073709551615∧r.val.length ≤ 1000000000
abbrev recL (r:Rec) (s:Sl):List Value:=[.bool r.has,s.val,.int .i64 r.home,.int .u64 r.cnt]
abbrev recA (r:Rec) (s:Sl):Array Value:=#[.bool r.has,s.val,.int .i64 r.home,.int .u64 r.cnt]
abbrev recC (x:Rec×Sl):Cel 4:=⟨recL x.1 x.2,rfl,rfl⟩
abbrev Recs:=List (ByteArray×Rec)
abbrev RecX:=ByteArray×(Rec×Sl)
abbrev recB (x:RecX):HProp:=Bytes zAd x.2.2 x.2.1.val
abbrev recI (x:RecX):btS.It:=(x.1,recC x.2)
abbrev recM (x:RecX):ByteArray×Rec:=(x.1,x.2.1)
def homeOf (k:List UInt8) (n:Nat):Nat:=k.foldl (fun s b=>(s + b.toNat) % n) 0
def getM (M:Recs) (k:ByteArray):Option Rec:=(M.find? fun x=>decide (x.1 = k)).map Prod.snd
def putM (M:Recs) (k:ByteArray) (r:Rec):Recs:=match M with
 | []=>[(k,r)]
 | x::M=>if cmpS x.1 k < 0 then x::putM M k r else if x.1 = k then (k,r)::M else (k,r)::x::M
def sGet (n:Nat) (M:Recs) (k:ByteArray):Rec:=(getM M k).getD ⟨false,[],homeOf k.toList n,0⟩
def sMove (n:Nat) (M:Recs) (k:ByteArray) (h:Int):Recs×Int :=
 if h < 0∨(n:Int) ≤ h then (M,1) else if (sGet n M k).cnt = 18446744073709551615 then (M,111) else (putM M k { sGet n M k with home:=h,cnt:=(sGet n M k).cnt + 1 },0)
theorem zN1 (M:Recs) (k:ByteArray) (r:Rec):(putM M k r).length ≤ M.length + 1:=by
 induction M with
 | nil=>simp [putM]
 | cons x M ih =>
  unfold putM
  split
  ·simp; omega
  ·split <;> simp
theorem zSF {M:Recs} {k:ByteArray} {r:Rec} {x:ByteArray×Rec} (h:x ∈ putM M k r):x = (k,r)∨x ∈ M:=by
 induction M with
 | nil=>simpa [putM] using h
 | cons y M ih =>
  unfold putM at h
  split at h
  ·rcases List.mem_cons.1 h with rfl | h
   ·exact .inr List.mem_cons_self
   ·rcases ih h with h | h
    ·exact .inl h
    ·exact .inr (List.mem_cons_of_mem _ h)
  ·split at h
   ·rcases List.mem_cons.1 h with rfl | h
    ·exact .inl rfl
    ·exact .inr (List.mem_cons_of_mem _ h)
   ·rcases List.mem_cons.1 h with rfl | h
    ·exact .inl rfl
    ·exact .inr h
theorem zN2 {M:Recs} {k:ByteArray} {r:Rec} (h:getM M k = some r):(k,r) ∈ M:=by
 simp only [getM,Option.map_eq_some_iff] at h
 obtain ⟨x,hx,rfl⟩:=h
 have h1:=List.mem_of_find?_eq_some hx
 have h2:=List.find?_some hx
 simp only [decide_eq_true_eq] at h2
 rw [← h2]; exact h1
theorem zSG {A C:Recs} {k:ByteArray} {r:Rec} (hA:∀ x ∈ A,x.1 ≠ k):getM (A++(k,r)::C) k = some r:=by
 unfold getM
 rw [List.find?_append,List.find?_eq_none.2 (fun x hx=>by simpa using hA x hx)]
 simp
theorem zQt {M:Recs} {k:ByteArray} (h:∀ x ∈ M,x.1 ≠ k):getM M k = none:=by
 unfold getM
 rw [List.find?_eq_none.2 (fun x hx=>by simpa using h x hx)]; rfl
theorem zSH {A C:Recs} {k:ByteArray} {r0 r:Rec} (hA:∀ x ∈ A,cmpS x.1 k < 0):putM (A++(k,r0)::C) k r = A++(k,r)::C:=by
 induction A with
 | nil =>
  have:¬ cmpS k k < 0:=fun h=>List.lt_irrefl _ (zEg.1 h)
  simp [putM,this]
 | cons x A ih =>
  rw [List.cons_append,putM,if_pos (hA x List.mem_cons_self),ih (fun y hy=>hA y (List.mem_cons_of_mem _ hy))]; rfl
theorem zSI {A C:Recs} {k:ByteArray} {r:Rec} (hA:∀ x ∈ A,cmpS x.1 k < 0) (hC:∀ x ∈ C,cmpS k x.1 < 0):putM (A++C) k r = A++(k,r)::C:=by
 induction A with
 | nil =>
  cases C with
  | nil=>rfl
  | cons y C =>
   have h:=zEg.1 (hC y List.mem_cons_self)
   have h1:¬ cmpS y.1 k < 0:=fun h2=>List.lt_irrefl _ (List.lt_trans h (zEg.1 h2))
   have h2:¬ y.1 = k:=fun e=>by rw [e] at h; exact List.lt_irrefl _ h
   simp [putM,h1,h2]
 | cons x A ih =>
  rw [List.cons_append,putM,if_pos (hA x List.mem_cons_self),ih (fun y hy=>hA y (List.mem_cons_of_mem _ hy))]; rfl
def StoreR (st n:Nat) (M:Recs):HProp:=ex fun t=>ex fun X:List RecX=>Sep.stars [pur (M = X.map recM∧(∀ x ∈ M,x.2.ok)∧1 ≤ n∧n ≤ 3),blk st (.cells [.int .i64 n,.pointer (some ⟨t,0,none⟩)].toArray zBP (0,0)),TreeR btS cmpS t (X.map recI),Sep.stars (X.map recB)]
section
variable {B:World} {Γ Δ:List HProp}
instance (priority:=high) zUO {st n:Nat} {M:Recs}:Sep.Own st (StoreR st n M::Γ) (StoreR st n M) Γ:=⟨.refl _⟩
theorem zHR {st n:Nat} {M:Recs} {k:K} (h:∀ t (X:List RecX),M = X.map recM→(∀ x ∈ M,x.2.ok)→1 ≤ n→n ≤ 3→HG B (blk st (.cells [.int .i64 n,.pointer (some ⟨t,0,none⟩)].toArray zBP (0,0))::TreeR btS cmpS t (X.map recI)::Sep.stars (X.map recB)::Γ) k):HG B (StoreR st n M::Γ) k :=
 s_ex fun t=>s_ex fun X=>s_flat <| s_pur fun ⟨h1,h2,h3,h4⟩=>h t X h1 h2 h3 h4
theorem zD5 {st n t:Nat} {X:List RecX} {k:K} (h2:∀ x ∈ X.map recM,x.2.ok) (h3:1 ≤ n) (h4:n ≤ 3) (h:HG B (StoreR st n (X.map recM)::Γ) k):HG B (blk st (.cells [.int .i64 n,.pointer (some ⟨t,0,none⟩)].toArray zBP (0,0))::TreeR btS cmpS t (X.map recI)::Sep.stars (X.map recB)::Γ) k:=fun w hw=>by
 refine h w ?_
 have h3:Holds B (Sep.stars [pur (X.map recM = X.map recM∧(∀ x ∈ X.map recM,x.2.ok)∧1 ≤ n∧n ≤ 3),blk st (.cells [.int .i64 n,.pointer (some ⟨t,0,none⟩)].toArray zBP (0,0)),TreeR btS cmpS t (X.map recI),Sep.stars (X.map recB)]::Γ) w:=Holds.flat.2 (Holds.pur.2 ⟨⟨rfl,h2,h3,h4⟩,hw⟩)
 exact h3.imp fun g hg=>⟨t,X,hg⟩
theorem zN3 {k:ByteArray} {n:Nat} {q:Int→K} (h1:1 ≤ n) (hn:n ≤ 1000) (hk:k.size < 1000000000000) (h:HG B Γ (q (homeOf k.toList n:Nat))):HG B Γ (zCi.call k n q):=fun w hw=>by
 refine zKY _ _ _ _ ?_
 refine hg hw ?_
 clear hw w
 unfold zCi
 refine s_f ?_
 obtain ⟨l,rfl⟩:=bs_of k
 rw [zBa] at h
 have hsz:(bs l).size = l.length:=rfl
 refine zCm (fun x:Int×Int=>∃ i s:Nat,x = ((s:Int),(i:Int))∧i ≤ l.length∧s = homeOf (l.take i) n∧s < n) (fun x=>l.length - x.2.toNat) ⟨0,0,rfl,Nat.zero_le _,rfl,by omega⟩ fun k' x hx hk'=>?_
 obtain ⟨i,s,rfl,hi,hs,hsn⟩:=hx
 unfold zCi.b1
 dsimp only
 refine s_ite (fun hb=>?_) fun hb=>?_
 ·have hil:i < l.length:=by simp only [decide_eq_true_eq] at hb; omega
  refine fun w hw=>⟨(l[i].toNat:Int),l[i],by omega,?_,rfl,hg hw ?_⟩
  ·show (bs l)[((i:Nat):Int).toNat]? = _
   rw [Int.toNat_natCast]
   exact Array.getElem?_eq_getElem (xs:=l.toArray) (by simpa using hil)
  have hb8:l[i].toNat < 256:=l[i].toNat_lt
  refine s_ai ?_
  refine s_ai ?_
  refine s_cd (by omega) ?_
  refine s_ar (e':=(((s + l[i].toNat) % n:Nat):Int)) ?_ ?_
  ·rw [Int.tmod_eq_emod_of_nonneg (by omega)]; simp
  refine s_ai ?_
  refine hk' _ ⟨i + 1,(s + l[i].toNat) % n,by simp,hil,?_,Nat.mod_lt _ (by omega)⟩ (by simp only; omega)
  rw [hs,List.take_succ_eq_append_getElem hil,homeOf,homeOf,List.foldl_append]; rfl
 ·have hil:i = l.length:=by simp only [decide_eq_false_iff_not] at hb; omega
  rw [hil,List.take_length] at hs
  rw [hs]
  exact h
theorem zEK {b:Sl} {xs:List UInt8} {q:Sl→K} (hr:∀ w,Holds B Γ w→RdB w b xs) (hl:xs.length ≤ 1000000000) (hk:∀ s,s.a.isNone = b.a.isNone→HG B (Bytes zAd s xs::Γ) (q s)):HG B Γ (zBS.call b q):=fun w hw =>
 zKX hw hr hl fun s w h hs=>hk s hs w h
theorem zIW {n:Nat} {q:Option Addr→Int→K} (h1:1 ≤ n) (h3:n ≤ 3) (h:∀ st,HG B (StoreR st n []::Γ) (q (some ⟨st,0,none⟩) 0)):HG B Γ (zDc.call n q):=fun w hw=>by
 refine zN0 _ _ _ ?_
 refine hg hw ?_
 clear hw w
 unfold zDc
 refine s_f ?_
 unfold zDc.s1
 refine s_f ?_
 refine zP2 fun t=>?_
 show HG B (TreeR btS cmpS t (([]:List RecX).map recI)::Γ) _
 refine s_new fun st=>?_
 refine fun w hw=>?_
 refine hg (show Holds B (Sep.stars (([]:List RecX).map recB)::_) w from Holds.flat.2 hw) ?_
 refine s_end (Δ:=blk st (.cells [.int .i64 n,.pointer (some ⟨t,0,none⟩)].toArray zBP (0,0))::TreeR btS cmpS t (([]:List RecX).map recI)::Sep.stars (([]:List RecX).map recB)::Γ) ?_
 exact zD5 (by simp) h1 h3 (h st)
theorem zI7 {X:List RecX} {A C:List btS.It} {k:ByteArray} {v:Cel btS.nv} (e:X.map recI = A++((k,v):btS.It)::C):∃ XA r XC,X = XA++(k,r)::XC∧A = XA.map recI∧C = XC.map recI∧v = recC r:=by
 obtain ⟨XA,X2,rfl,rfl,h2⟩:=List.map_eq_append_iff.1 e
 obtain ⟨⟨k',r⟩,XC,rfl,h3,rfl⟩:=List.map_eq_cons_iff.1 h2
 simp only [recI,Prod.mk.injEq] at h3
 obtain ⟨rfl,rfl⟩:=h3
 exact ⟨XA,r,XC,rfl,rfl,rfl,rfl⟩
theorem zMa {X:List RecX} {A C:List btS.It} (e:X.map recI = A++C):∃ XA XC,X = XA++XC∧A = XA.map recI∧C = XC.map recI:=by
 obtain ⟨XA,X2,rfl,rfl,rfl⟩:=List.map_eq_append_iff.1 e
 exact ⟨XA,X2,rfl,rfl,rfl⟩
theorem zI8 {X Y:List RecX} {k:ByteArray} {r:Rec×Sl} (h:Srt cmpS ((X++(k,r)::Y).map recI)):∀ x ∈ X,cmpS x.1 k < 0:=fun x hx=>by
 rw [List.map_append] at h
 exact (List.pairwise_append.1 h).2.2 (recI x) (List.mem_map.2 ⟨x,hx,rfl⟩) (recI (k,r)) (by simp)
theorem ne_of_lt {a b:ByteArray} (h:cmpS a b < 0):a ≠ b:=fun e=>by rw [e] at h; exact List.lt_irrefl _ (zEg.1 h)
theorem sGet1 {t4 r5:Nat} {r:Rec} {s:Sl} {z:List Value} {q:Array Value→K} (hz:z.length = 4) (hzf:z.all flatV = true) (hr:∀ w,Holds B Γ w→RdB w s r.val) (hl:r.val.length ≤ 1000000000) (h:∀ s',s'.a.isNone = s.a.isNone→HG B (Bytes zAd s' r.val::Γ) (q (recA r s'))) :
  HG B (blk r5 (.cells (recL r s).toArray zA9 (0,0))::blk t4 (.cells z.toArray zA9 (0,0))::Γ) (zA7.s1 q ⟨t4,0,none⟩ ⟨r5,0,none⟩):=by
 unfold zA7.s1
 refine s_ld (b:=r5) (x:=s) ?_
 refine zEK (fun w hw=>hr w hw.tail.tail) hl fun s' hs'=>?_
 refine s_st (b:=r5) ?_
 refine s_ldN (b:=r5) ?_
 refine s_stN (b:=t4) ?_ hz rfl rfl
 refine s_ldN (b:=t4) ?_
 exact s_end (h s' hs')
theorem zDP {st n:Nat} {M:Recs} {k:ByteArray} {q:Array Value→K} (hk:k.size < 1000000000000) (h:∀ s,(sGet n M k).ok→HG B (Bytes zAd s (sGet n M k).val::StoreR st n M::Γ) (q (recA (sGet n M k) s))):HG B (StoreR st n M::Γ) (zA7.call (some ⟨st,0,none⟩) k q):=fun w hw=>by
 refine zI5 _ _ _ _ ?_
 refine hg hw ?_
 clear hw w
 refine zHR fun t X hM hok h1 h3=>?_
 unfold zA7
 refine s_new fun t4=>?_
 refine s_nn ?_
 refine s_ld (b:=st) (x:=some ⟨t,0,none⟩) ?_
 refine s_own t ?_
 refine zKW fun hs=>?_
 refine zP3 (fun A v C e=>?_) fun A C e hA hC=>?_
 ·obtain ⟨XA,r,XC,rfl,rfl,rfl,rfl⟩:=zI7 e
  have hlt:=zI8 hs
  have hg':getM M k = some r.1:=by
   rw [hM,List.map_append]
   exact zSG fun x hx=>by
    obtain ⟨y,hy,rfl⟩:=List.mem_map.1 hx
    exact ne_of_lt (hlt y hy)
  have hr:sGet n M k = r.1:=by unfold sGet; rw [hg']; rfl
  have hrok:r.1.ok:=hok (k,r.1) (zN2 hg')
  rw [hr] at h
  refine s_new fun r5=>?_
  refine s_stN (b:=r5) (l':=recL r.1 r.2) ?_
  refine s_f ?_
  refine s_end (Δ:=blk r5 (.cells (recL r.1 r.2).toArray zA9 (0,0))::blk t4 (.cells [.bool false,Sl.val ⟨none,0,0⟩,.int .i64 0,.int .u64 0].toArray zA9 (0,0))::blk st (.cells [.int .i64 n,.pointer (some ⟨t,0,none⟩)].toArray zBP (0,0))::TreeR btS cmpS t ((XA++(k,r)::XC).map recI)::Sep.stars ((XA++(k,r)::XC).map recB)::Γ) ?_
  refine sGet1 (r:=r.1) rfl rfl (fun w hw=>?_) hrok.2.2 fun s' hs'=>?_
  ·have h5:Holds B (recB (k,r)::_) w:=(Holds.flat.1 (hw.tail.tail)).perm zGZ |>.perm List.perm_middle
   exact h5.rdC List.mem_cons_self
  ·rw [hM] at h
   refine s_end (Δ:=blk st (.cells [.int .i64 n,.pointer (some ⟨t,0,none⟩)].toArray zBP (0,0))::TreeR btS cmpS t ((XA++(k,r)::XC).map recI)::Sep.stars ((XA++(k,r)::XC).map recB)::Bytes zAd s' r.1.val::Γ) ?_
   refine zD5 (by rw [← hM]; exact hok) h1 h3 ?_
   exact s_end (h s' hrok)
 ·obtain ⟨XA,XC,rfl,rfl,rfl⟩:=zMa e
  have hg':getM M k = none:=by
   rw [hM,List.map_append]
   refine zQt fun x hx=>?_
   rcases List.mem_append.1 hx with hx | hx
   ·obtain ⟨y,hy,rfl⟩:=List.mem_map.1 hx
    exact ne_of_lt (hA (recI y) (List.mem_map.2 ⟨y,hy,rfl⟩))
   ·obtain ⟨y,hy,rfl⟩:=List.mem_map.1 hx
    exact Ne.symm (ne_of_lt (hC (recI y) (List.mem_map.2 ⟨y,hy,rfl⟩)))
  have hr:sGet n M k = ⟨false,[],homeOf k.toList n,0⟩:=by unfold sGet; rw [hg']; rfl
  rw [hr] at h
  refine s_new fun r5=>?_
  refine s_stN (b:=r5) (l':=recL ⟨false,[],0,0⟩ ⟨none,0,0⟩) ?_
  refine s_t ?_
  refine s_ld (b:=st) (x:=(n:Int)) ?_
  refine zN3 h1 (by omega) hk ?_
  refine s_st (b:=r5) ?_
  refine s_end (Δ:=blk r5 (.cells (recL ⟨false,[],homeOf k.toList n,0⟩ ⟨none,0,0⟩).toArray zA9 (0,0))::blk t4 (.cells [.bool false,Sl.val ⟨none,0,0⟩,.int .i64 0,.int .u64 0].toArray zA9 (0,0))::blk st (.cells [.int .i64 n,.pointer (some ⟨t,0,none⟩)].toArray zBP (0,0))::TreeR btS cmpS t ((XA++XC).map recI)::Sep.stars ((XA++XC).map recB)::Γ) ?_
  refine sGet1 (r:=⟨false,[],homeOf k.toList n,0⟩) rfl rfl (fun w hw=>RdC.none') (by simp) fun s' hs'=>?_
  rw [hM] at h
  refine s_end (Δ:=blk st (.cells [.int .i64 n,.pointer (some ⟨t,0,none⟩)].toArray zBP (0,0))::TreeR btS cmpS t ((XA++XC).map recI)::Sep.stars ((XA++XC).map recB)::Bytes zAd s' []::Γ) ?_
  refine zD5 (by rw [← hM]; exact hok) h1 h3 ?_
  exact s_end (h s' ⟨by simp,by simp,by simp⟩)
end
end Go.Proofs.YtdemfamgieonbaaGreat
namespace Go.Proofs.YtdemfamgieonbaaGreat
open Go Go.Sep
set_option maxRecDepth 100000
set_option maxHeartbeats 4000000
attribute [local irreducible] G Gp Cx Tx Ex Sx Dx Ox Ax Lx Rx Fx Bx Bj Al Do Ld LdN St StN New CallF Ar DoU Rd Rd2 Pu Cd Ite Fv CallV CallY Ans0 Ans1 Ans2 Ans3 Ans4 Ans5 Ext Dead Dr WithS Sv LdS LdNS RdS Rd2S Nn Idx IdxA IdxS Fld Bld Slc SlcS Cat All LoopK RangeF RangeJ TakeD
namespace F_IRRoute
instance at_25:AT Tryz.prog 25 5:=⟨by kernel_rfl⟩
instance at_37:AT Tryz.prog 37 4:=⟨by kernel_rfl⟩
instance at_40:AT Tryz.prog 40 10:=⟨by kernel_rfl⟩
instance cb_108:CB Tryz.prog 108:=⟨by kernel_rfl⟩
instance cb_66:CB Tryz.prog 66:=⟨by kernel_rfl⟩
instance cb_86:CB Tryz.prog 86:=⟨by kernel_rfl⟩
instance cb_92:CB Tryz.prog 92:=⟨by kernel_rfl⟩
instance ct_3:CT Tryz.prog 3:=⟨by kernel_rfl⟩
instance ct_33:CT Tryz.prog 33:=⟨by kernel_rfl⟩
instance ct_9:CT Tryz.prog 9:=⟨by kernel_rfl⟩
instance zLu:FT Tryz.prog 84 1 1 1:=⟨by kernel_rfl⟩
instance zTa:FT Tryz.prog 84 2 2 1:=⟨by kernel_rfl⟩
instance zLs:FT Tryz.prog 87 2 2 1:=⟨by kernel_rfl⟩
instance zLt:FT Tryz.prog 87 3 3 1:=⟨by kernel_rfl⟩
instance mx:MX Tryz.prog:=⟨mixed⟩
instance pl_40:PLT Tryz.prog 40 [(0,4),(4,5),(9,1)]:=⟨_,Tryz.underlying40,by kernel_rfl⟩
instance pl_84:PLT Tryz.prog 84 [(0,1),(1,1),(2,1)]:=⟨_,Tryz.underlying84,by kernel_rfl⟩
instance sl_22:SLT Tryz.prog 22 9 1:=⟨by kernel_rfl⟩
instance sl_38:SLT Tryz.prog 38 84 3:=⟨by kernel_rfl⟩
instance sz_40:SZ Tryz.prog 40 10:=⟨by kernel_rfl⟩
instance sz_87:SZ Tryz.prog 87 4:=⟨by kernel_rfl⟩
instance zt_40:ZT Tryz.prog 40 (.agg #[(.int .i64 0),(.int .u64 0),(.int .u64 0),(.int .i64 0),(.int .i64 0),(Sl.val ⟨none,0,0⟩),(Sl.val ⟨none,0,0⟩),(Sl.val ⟨none,0,0⟩),(.int .i64 0),(Sl.val ⟨none,0,0⟩)]):=⟨Tryz.t40,by kernel_rfl,by kernel_rfl⟩
instance zt_84:ZT Tryz.prog 84 (.agg #[(.string ⟨#[]⟩),(.int .i64 0),(.int .u64 0)]):=⟨Tryz.t84,by kernel_rfl,by kernel_rfl⟩
instance zt_87:ZT Tryz.prog 87 (.agg #[(.bool false),(Sl.val ⟨none,0,0⟩),(.int .i64 0),(.int .u64 0)]):=⟨Tryz.t87,by kernel_rfl,by kernel_rfl⟩
end F_IRRoute
def zEm (s0:(Option Addr)) (tag1:(Array Value)) (t2:(Array Value)) (Q:(Array Value)→K):K :=
 New 37 tag1 fun tag4 =>
 New 25 t2 fun t5 =>
 New 40 #[(.int .i64 0),(.int .u64 0),(.int .u64 0),(.int .i64 0),(.int .i64 0),(Sl.val ⟨none,0,0⟩),(Sl.val ⟨none,0,0⟩),(Sl.val ⟨none,0,0⟩),(.int .i64 0),(Sl.val ⟨none,0,0⟩)] fun t6 =>
 Dr <| WithS fun S =>
 LdNS S tag4 4 fun t7 =>
 LdNS S t5 5 fun t8 =>
 LdNS S t5 5 fun t11 =>
 zDO.call t8 fun t9 =>
 Sv S <|
 zDA.call s0 t11 fun t12 =>
 Sv S <|
 Bld #[(.int .i64 0),(.int .u64 0),(.int .u64 0),(.int .i64 0),(.int .i64 0),(Sl.val ⟨none,0,0⟩),(Sl.val ⟨none,0,0⟩),(Sl.val ⟨none,0,0⟩),(.int .i64 0),(Sl.val ⟨none,0,0⟩)] ([(0,4),(4,5),(9,1)][·]?) [(0,(.agg t7)),(1,(.agg t9)),(2,(Sl.val t12))] fun t13 =>
 StN t6 10 t13 <|
 LdN t6 10 fun r0 =>
 Q r0
theorem zM5 (s0:(Option Addr)) (tag1:(Array Value)) (t2:(Array Value)) (Q:(Array Value)→K) (w:World) (h:zEm s0 tag1 t2 Q w):zEm.call s0 tag1 t2 Q w:=by
 have hD1:DH 1 2 [7] (.s [3,0,1,4] (.a [(2,1,.a [(5,1,.s [6] (.a [(7,0,.e)]))])])):=by intros; exact ⟨⟩
 exact g_walk 14 h Tryz.func49
def zDA.b1 (Q:Sl→K)  (X1:Sl→Int→K) (s0_1:(Option Addr)) (t9_1:Sl) (t10_1:Int) (out4_1:Sl) (t11_1:Int):K :=
 Ite (decide (t11_1 < t10_1))
  (Idx t9_1 t11_1 1 fun t13 =>
  Ld t13 Value.string fun t14 =>
  zA7.call s0_1 t14 fun t17 =>
  New 87 #[(.bool false),(Sl.val ⟨none,0,0⟩),(.int .i64 0),(.int .u64 0)] fun r7 =>
  StN r7 4 t17 <|
  Ld (r7.add 2) (Value.int .i64) fun t21 =>
  Ld (r7.add 3) (Value.int .u64) fun t23 =>
  Bld #[(.string ⟨#[]⟩),(.int .i64 0),(.int .u64 0)] (fun i=>some (i * 3,3)) [(0,(.agg #[(.string t14),(.int .i64 t21),(.int .u64 t23)]))] fun ct25 =>
  New 84 ct25 fun t25 =>
  Do Tryz.prog (Builtin.append_ #[38,38] 38 #[(Sl.val out4_1),(Sl.val (Sl.mk (some t25) 1 1))]) Sl.val fun t26 =>
  Ar (IntKind.wrap .i64 (t11_1 + 1)) fun t27 =>
  X1 t26 t27)
  (Q out4_1)
def zDA (s0:(Option Addr)) (t1:(Array Value)) (Q:Sl→K):K :=
 New 25 t1 fun t3 =>
 LdN t3 5 fun t8 =>
 zEF.call t8 fun t9 =>
 LoopK (α:=Sl×Int) (fun X x=>zDA.b1 Q (fun out4_1 t11_1=>X (out4_1,t11_1)) s0 t9 (t9.n:Int) x.1 x.2) ((Sl.mk none 0 0),0)
theorem zLv (s0:(Option Addr)) (t1:(Array Value)) (Q:Sl→K) (w:World) (h:zDA s0 t1 Q w):zDA.call s0 t1 Q w:=by
 have hL2:∀ (s0_1:(Option Addr)) (t9_1:Sl) (t10_1:Int),LH 2 (fun x:Sl×Int=>[(0,(.pointer s0_1)),(4,(Sl.val x.1)),(9,(Sl.val t9_1)),(10,(.int .i64 t10_1)),(11,(.int .i64 x.2))]) (fun X x=>zDA.b1 Q (fun out4_1 t11_1=>X (out4_1,t11_1)) s0_1 t9_1 t10_1 x.1 x.2):=by intros; exact ⟨⟩
 exact g_walk 29 h Tryz.func86
def zCO.s1 (Q:Int→K)  (t11_1:Bool):K :=
 Ite t11_1
  (Q 0)
  (Q 2)
def zCO (r0:(Array Value)) (m1:(Array Value)) (Q:Int→K):K :=
 New 87 r0 fun r2 =>
 New 84 m1 fun m3 =>
 Ld (m3.add 2) (Value.int .u64) fun t7 =>
 Ld (r2.add 3) (Value.int .u64) fun t9 =>
 Ite (decide (t9 < t7))
  (Q 1)
  (Ld (m3.add 2) (Value.int .u64) fun t13 =>
  Ld (r2.add 3) (Value.int .u64) fun t15 =>
  Ite (decide (t13 = t15))
   (Ld (m3.add 1) (Value.int .i64) fun t19 =>
   Ld (r2.add 2) (Value.int .i64) fun t21 =>
   zCO.s1 Q (decide (t19 = t21)))
   (zCO.s1 Q false))
theorem zM6 (r0:(Array Value)) (m1:(Array Value)) (Q:Int→K) (w:World) (h:zCO r0 m1 Q w):zCO.call r0 m1 Q w:=by
 have hJ4:JH 4 fun D=>D [] (fun C=>∀ (t11_1:Bool),C [(11,(.bool t11_1))] (zCO.s1 Q t11_1)):=by intros; exact ⟨fun _ h=>⟨_,_,h⟩⟩
 exact g_walk 24 h Tryz.func107
end Go.Proofs.YtdemfamgieonbaaGreat
namespace Go.Proofs.YtdemfamgieonbaaGreat
open Go Go.Sep Go.Sep.Bt
set_option maxRecDepth 100000
structure MkX where
 key:TX
 home:Int
 cnt:Int
deriving DecidableEq
abbrev mkL (m:MkX):List Value:=[strV m.key,.int .i64 m.home,.int .u64 m.cnt]
theorem zCa (m:MkX):(mkL m).length = 3:=rfl
theorem zN4 (L:List MkX):∀ v ∈ L.flatMap mkL,flatV v = true:=fun v hv=>by
 obtain ⟨x,_,hx⟩:=List.mem_flatMap.1 hv
 simp only [mkL,List.mem_cons,List.not_mem_nil,or_false] at hx
 rcases hx with rfl | rfl | rfl <;> rfl
abbrev mkOf (n:Nat) (M:Recs) (k:TX):MkX:=⟨k,(sGet n M (bs k)).home,(sGet n M (bs k)).cnt⟩
def mksOf (n:Nat) (M:Recs) (ks:List TX):List MkX:=ks.map (mkOf n M)
abbrev tgL (a b c d:Int):List Value:=[.int .i64 a,.int .u64 b,.int .u64 c,.int .i64 d]
abbrev orL (a b c d:Int) (t:TxX) (ms:Sl):List Value:=[.int .i64 a,.int .u64 b,.int .u64 c,.int .i64 d,.int .i64 t.kind,t.rs.val,t.ws.val,t.os.val,.int .i64 t.to,ms.val]
theorem zSJ {t:TxX} (h:¬ GreatP t):t.reads.length ≤ 40∧t.writes.length ≤ 40∧t.ops.length ≤ 60∧(∀ x ∈ t.reads++t.writes,x.length ≤ 200)∧∀ x ∈ t.ops,x.1.key.length ≤ 200∧x.1.val.length ≤ 200:=by
 simp only [GreatP,not_or,Nat.not_lt,not_exists,not_and] at h
 obtain ⟨h1,h2,h3,h4,h5,h6⟩:=h
 refine ⟨h1,h2,h3,fun x hx=>?_,fun x hx=>⟨(h6 x hx).1,(h6 x hx).2⟩⟩
 rcases List.mem_append.1 hx with hx | hx
 ·exact h4 x hx
 ·exact h5 x hx
section
variable {B:World} {Γ Δ:List HProp} {k:K} {st sd n:Nat} {M:Recs}
theorem s_nilS {E esz:Nat} {vs:List Value} (h:HG B (SlC E esz ⟨none,0,0⟩ vs::Γ) k) (hv:vs = []:=by rfl):HG B Γ k:=fun w hw=>h w (by rw [hv]; exact hw.nilSl E esz)
theorem zSK {t:TxX} {Q:Sl→K} (hr:∀ w,Holds B Γ w→txRd w t) (hl:t.reads.length ≤ 1000∧t.writes.length ≤ 1000) (hk:∀ x ∈ t.reads++t.writes,x.length ≤ 1000)
  (h:∀ s,HG B (SlC zAs 3 s ((mksOf n M (keysT (t.reads++t.writes))).flatMap mkL)::StoreR st n M::Γ) (Q s)):HG B (StoreR st n M::Γ) (zDA.call (some ⟨st,0,none⟩) (txL t).toArray Q):=fun w hw=>by
 refine zLv _ _ _ _ ?_
 refine Sep.hg hw ?_
 clear hw w
 have hks:∀ x ∈ keysT (t.reads++t.writes),x.length ≤ 1000:=fun x hx=>hk x (zGz.1 hx)
 have hkl:=zFH (t.reads++t.writes)
 rw [List.length_append] at hkl
 unfold zDA
 refine s_new fun t3=>?_
 repeat refine s_nx ?_
 refine zLo (fun w hw=>(hr w hw.drops).1) (fun w hw=>(hr w hw.drops).2.1) (by omega) (by omega) fun ks=>?_
 generalize keysT (t.reads++t.writes) = K at hks hkl h ⊢
 refine s_nilS (E:=zAs) (esz:=3) (vs:=([]:List MkX).flatMap mkL) ?_
 refine s_cap ks fun a1 a2 a3 a4=>?_
 rw [List.length_map,Nat.mul_one] at a1
 refine s_end (Δ:=SlC zAs 3 ⟨none,0,0⟩ (([]:List MkX).flatMap mkL)::SlS ks K::StoreR st n M::Γ) ?_
 refine s_loop (α:=Sl×Int) (ι:=Nat) (fun x i=>x.2 = (i:Int)∧i ≤ K.length) (fun x i=>SlC zAs 3 x.1 ((mksOf n M (K.take i)).flatMap mkL)::SlS ks K::StoreR st n M::Γ) (fun x i=>K.length - i) 0 ⟨rfl,Nat.zero_le _⟩ ?_
 rintro k' ⟨o,_⟩ i ⟨rfl,hi⟩ hk'
 simp only at hi hk' ⊢
 refine s_cap o fun b1 b2 b3 b4=>?_
 rw [zAL _ 3 zCa,mksOf,List.length_map,List.length_take] at b1
 unfold zDA.b1
 refine s_ite (fun hb=>?_) fun hb=>?_
 ·have hil:i < K.length:=by simp only [decide_eq_true_eq] at hb; omega
  have hge:K[i]? = some K[i]:=List.getElem?_eq_getElem hil
  have hmem:K[i] ∈ K:=List.getElem_mem hil
  have htk:K.take (i + 1) = K.take i++[K[i]]:=List.take_succ_eq_append_getElem hil
  generalize K[i] = x at hge hmem htk
  have hxl:=hks x hmem
  have hsz:(bs x).size = x.length:=rfl
  refine s_idxS (L:=K) (fun w hw=>(own_rd (s:=ks) hw).1) hge ?_
  refine s_own st ?_
  refine zDP (by omega) fun sl hok=>?_
  refine s_new fun r7=>?_
  refine s_stN (b:=r7) (l':=recL (sGet n M (bs x)) sl) ?_
  repeat refine s_nx ?_
  refine s_app1 (s:=o) (m:=1) (us:=[.string (bs x),.int .i64 (sGet n M (bs x)).home,.int .u64 (sGet n M (bs x)).cnt]) (fun o2 ho2=>?_)
  refine s_ai ?_
  rw [show (mksOf n M (K.take i)).flatMap mkL++[.string (bs x),.int .i64 (sGet n M (bs x)).home,.int .u64 (sGet n M (bs x)).cnt] = (mksOf n M (K.take (i + 1))).flatMap mkL by rw [htk]; simp [mksOf]]
  exact s_end (hk' (o2,(i:Int) + 1) (i + 1) ⟨by simp,hil⟩ (by omega))
 ·have hil:i = K.length:=by simp only [decide_eq_false_iff_not] at hb; omega
  rw [hil,List.take_length]
  exact s_end (h o)
theorem zPR {t:TxX} {a b c d:Int} {Q:Array Value→K} (hr:∀ w,Holds B Γ w→txRd w t) (hl:t.reads.length ≤ 1000∧t.writes.length ≤ 1000∧t.ops.length ≤ 1000∧∀ x ∈ t.ops,x.1.val.length ≤ 1000000) (hk:∀ x ∈ t.reads++t.writes,x.length ≤ 1000)
  (h:∀ t' ms,TxIs t' t→HG B (SlC zAs 3 ms ((mksOf n M (keysT (t.reads++t.writes))).flatMap mkL)::StoreR st n M::txC t' Γ) (Q (orL a b c d t' ms).toArray)) :
  HG B (StoreR st n M::Γ) (zEm.call (some ⟨st,0,none⟩) (tgL a b c d).toArray (txL t).toArray Q):=fun w hw=>by
 refine zM5 _ _ _ _ _ ?_
 refine Sep.hg hw ?_
 clear hw w
 unfold zEm
 refine s_new fun tag4=>?_
 refine s_new fun t5=>?_
 refine s_new fun t6=>?_
 repeat refine s_nx ?_
 refine zJl (t:=t) (fun w hw=>hr w hw.drops) hl fun t' ht'=>?_
 repeat refine s_nx ?_
 refine s_own st ?_
 refine zSK (t:=t) (fun w hw=>hr w hw.drops) ⟨hl.1,hl.2.1⟩ hk fun ms=>?_
 repeat refine s_nx ?_
 exact s_end (h t' ms ht')
end
end Go.Proofs.YtdemfamgieonbaaGreat
namespace Go.Proofs.YtdemfamgieonbaaGreat
open Go Go.Sep
structure TagM where
 node:Int
 epoch:Int
 seq:Int
 tr:Int
deriving DecidableEq
abbrev tagF (t:TagM):List Value:=[.int .i64 t.node,.int .u64 t.epoch,.int .u64 t.seq,.int .i64 t.tr]
theorem zIG {a b:TagM}:tagF a = tagF b ↔ a = b:=by
 cases a; cases b; simp [tagF]
abbrev tagK:List Ck:=[.int .i64,.int .u64,.int .u64,.int .i64]
end Go.Proofs.YtdemfamgieonbaaGreat
namespace Go.Proofs.YtdemfamgieonbaaGreat
open Go Go.Sep
set_option maxRecDepth 100000
set_option maxHeartbeats 4000000
attribute [local irreducible] CallD
attribute [local irreducible] G Gp Cx Tx Ex Sx Dx Ox Ax Lx Rx Fx Bx Bj Al Do Ld LdN St StN New CallF Ar DoU Rd Rd2 Pu Cd Ite Fv CallV CallY Ans0 Ans1 Ans2 Ans3 Ans4 Ans5 Ext Dead Dr WithS Sv LdS LdNS RdS Rd2S Nn Idx IdxA IdxS Fld Bld Slc SlcS Cat All LoopK RangeF RangeJ TakeD
namespace F_IRSched
instance at_25:AT Tryz.prog 25 5:=⟨by kernel_rfl⟩
instance at_37:AT Tryz.prog 37 4:=⟨by kernel_rfl⟩
instance at_40:AT Tryz.prog 40 10:=⟨by kernel_rfl⟩
instance at_48:AT Tryz.prog 48 12:=⟨by kernel_rfl⟩
instance at_51:AT Tryz.prog 51 2:=⟨by kernel_rfl⟩
instance cb_100:CB Tryz.prog 100:=⟨by kernel_rfl⟩
instance cb_101:CB Tryz.prog 101:=⟨by kernel_rfl⟩
instance cb_13:CB Tryz.prog 13:=⟨by kernel_rfl⟩
instance cb_156:CB Tryz.prog 156:=⟨by kernel_rfl⟩
instance cb_157:CB Tryz.prog 157:=⟨by kernel_rfl⟩
instance cb_158:CB Tryz.prog 158:=⟨by kernel_rfl⟩
instance cb_159:CB Tryz.prog 159:=⟨by kernel_rfl⟩
instance cb_46:CB Tryz.prog 46:=⟨by kernel_rfl⟩
instance cb_47:CB Tryz.prog 47:=⟨by kernel_rfl⟩
instance cb_48:CB Tryz.prog 48:=⟨by kernel_rfl⟩
instance cb_49:CB Tryz.prog 49:=⟨by kernel_rfl⟩
instance cb_52:CB Tryz.prog 52:=⟨by kernel_rfl⟩
instance cb_53:CB Tryz.prog 53:=⟨by kernel_rfl⟩
instance cb_54:CB Tryz.prog 54:=⟨by kernel_rfl⟩
instance cb_55:CB Tryz.prog 55:=⟨by kernel_rfl⟩
instance cb_56:CB Tryz.prog 56:=⟨by kernel_rfl⟩
instance cb_57:CB Tryz.prog 57:=⟨by kernel_rfl⟩
instance cb_58:CB Tryz.prog 58:=⟨by kernel_rfl⟩
instance cb_59:CB Tryz.prog 59:=⟨by kernel_rfl⟩
instance cb_60:CB Tryz.prog 60:=⟨by kernel_rfl⟩
instance cb_62:CB Tryz.prog 62:=⟨by kernel_rfl⟩
instance cb_63:CB Tryz.prog 63:=⟨by kernel_rfl⟩
instance cb_84:CB Tryz.prog 84:=⟨by kernel_rfl⟩
instance cb_95:CB Tryz.prog 95:=⟨by kernel_rfl⟩
instance cb_98:CB Tryz.prog 98:=⟨by kernel_rfl⟩
instance cb_99:CB Tryz.prog 99:=⟨by kernel_rfl⟩
instance ct_127:CT Tryz.prog 127:=⟨by kernel_rfl⟩
instance ct_130:CT Tryz.prog 130:=⟨by kernel_rfl⟩
instance ct_132:CT Tryz.prog 132:=⟨by kernel_rfl⟩
instance ct_133:CT Tryz.prog 133:=⟨by kernel_rfl⟩
instance ct_136:CT Tryz.prog 136:=⟨by kernel_rfl⟩
instance ct_146:CT Tryz.prog 146:=⟨by kernel_rfl⟩
instance ct_22:CT Tryz.prog 22:=⟨by kernel_rfl⟩
instance ct_29:CT Tryz.prog 29:=⟨by kernel_rfl⟩
instance ct_3:CT Tryz.prog 3:=⟨by kernel_rfl⟩
instance ct_30:CT Tryz.prog 30:=⟨by kernel_rfl⟩
instance ct_38:CT Tryz.prog 38:=⟨by kernel_rfl⟩
instance ct_42:CT Tryz.prog 42:=⟨by kernel_rfl⟩
instance ct_9:CT Tryz.prog 9:=⟨by kernel_rfl⟩
instance zUg:FT Tryz.prog 135 0 0 1:=⟨by kernel_rfl⟩
instance zUh:FT Tryz.prog 135 1 1 1:=⟨by kernel_rfl⟩
instance zUi:FT Tryz.prog 135 2 2 1:=⟨by kernel_rfl⟩
instance zUj:FT Tryz.prog 135 3 3 1:=⟨by kernel_rfl⟩
instance zUk:FT Tryz.prog 135 4 4 1:=⟨by kernel_rfl⟩
instance zUl:FT Tryz.prog 151 0 0 10:=⟨by kernel_rfl⟩
instance zUm:FT Tryz.prog 151 1 10 1:=⟨by kernel_rfl⟩
instance zGR:FT Tryz.prog 25 0 0 1:=⟨by kernel_rfl⟩
instance zHK:FT Tryz.prog 25 2 2 1:=⟨by kernel_rfl⟩
instance zHS:FT Tryz.prog 40 0 0 4:=⟨by kernel_rfl⟩
instance zPS:FT Tryz.prog 40 1 4 5:=⟨by kernel_rfl⟩
instance zLw:FT Tryz.prog 40 2 9 1:=⟨by kernel_rfl⟩
instance zLx:FT Tryz.prog 48 0 0 1:=⟨by kernel_rfl⟩
instance zLy:FT Tryz.prog 48 2 2 10:=⟨by kernel_rfl⟩
instance zJq:FT Tryz.prog 51 0 0 1:=⟨by kernel_rfl⟩
instance mx:MX Tryz.prog:=⟨mixed⟩
instance pl_135:PLT Tryz.prog 135 [(0,1),(1,1),(2,1),(3,1),(4,1)]:=⟨_,Tryz.underlying135,by kernel_rfl⟩
instance pl_151:PLT Tryz.prog 151 [(0,10),(10,1)]:=⟨_,Tryz.underlying151,by kernel_rfl⟩
instance pl_51:PLT Tryz.prog 51 [(0,1),(1,1)]:=⟨_,Tryz.underlying51,by kernel_rfl⟩
instance pl_53:PLT Tryz.prog 53 [(0,4),(4,2)]:=⟨_,Tryz.underlying53,by kernel_rfl⟩
instance sl_132:SLT Tryz.prog 132 136 1:=⟨by kernel_rfl⟩
instance sl_133:SLT Tryz.prog 133 146 1:=⟨by kernel_rfl⟩
instance sl_22:SLT Tryz.prog 22 9 1:=⟨by kernel_rfl⟩
instance sl_42:SLT Tryz.prog 42 3 1:=⟨by kernel_rfl⟩
instance sl_45:SLT Tryz.prog 45 53 6:=⟨by kernel_rfl⟩
instance sl_54:SLT Tryz.prog 54 37 4:=⟨by kernel_rfl⟩
instance sz_132:SZ Tryz.prog 132 1:=⟨by kernel_rfl⟩
instance sz_133:SZ Tryz.prog 133 1:=⟨by kernel_rfl⟩
instance sz_3:SZ Tryz.prog 3 1:=⟨by kernel_rfl⟩
instance sz_37:SZ Tryz.prog 37 4:=⟨by kernel_rfl⟩
instance sz_40:SZ Tryz.prog 40 10:=⟨by kernel_rfl⟩
instance sz_42:SZ Tryz.prog 42 1:=⟨by kernel_rfl⟩
instance sz_51:SZ Tryz.prog 51 2:=⟨by kernel_rfl⟩
instance un_146:UN Tryz.prog 146 (.pointer 151):=⟨Tryz.underlying146⟩
instance zt_135:ZT Tryz.prog 135 (.agg #[(.pointer none),(.pointer none),(Sl.val ⟨none,0,0⟩),(Sl.val ⟨none,0,0⟩),(Sl.val ⟨none,0,0⟩)]):=⟨Tryz.t135,by kernel_rfl,by kernel_rfl⟩
instance zt_136:ZT Tryz.prog 136 (.pointer none):=⟨Tryz.t136,by kernel_rfl,by kernel_rfl⟩
instance zt_146:ZT Tryz.prog 146 (.pointer none):=⟨Tryz.t146,by kernel_rfl,by kernel_rfl⟩
instance zt_151:ZT Tryz.prog 151 (.agg #[(.int .i64 0),(.int .u64 0),(.int .u64 0),(.int .i64 0),(.int .i64 0),(Sl.val ⟨none,0,0⟩),(Sl.val ⟨none,0,0⟩),(Sl.val ⟨none,0,0⟩),(.int .i64 0),(Sl.val ⟨none,0,0⟩),(Sl.val ⟨none,0,0⟩)]):=⟨Tryz.t151,by kernel_rfl,by kernel_rfl⟩
instance zt_37:ZT Tryz.prog 37 (.agg #[(.int .i64 0),(.int .u64 0),(.int .u64 0),(.int .i64 0)]):=⟨Tryz.t37,by kernel_rfl,by kernel_rfl⟩
instance zt_40:ZT Tryz.prog 40 (.agg #[(.int .i64 0),(.int .u64 0),(.int .u64 0),(.int .i64 0),(.int .i64 0),(Sl.val ⟨none,0,0⟩),(Sl.val ⟨none,0,0⟩),(Sl.val ⟨none,0,0⟩),(.int .i64 0),(Sl.val ⟨none,0,0⟩)]):=⟨Tryz.t40,by kernel_rfl,by kernel_rfl⟩
instance zt_51:ZT Tryz.prog 51 (.agg #[(.int .i64 0),(Sl.val ⟨none,0,0⟩)]):=⟨Tryz.t51,by kernel_rfl,by kernel_rfl⟩
instance zt_53:ZT Tryz.prog 53 (.agg #[(.int .i64 0),(.int .u64 0),(.int .u64 0),(.int .i64 0),(.int .i64 0),(Sl.val ⟨none,0,0⟩)]):=⟨Tryz.t53,by kernel_rfl,by kernel_rfl⟩
end F_IRSched
def zBZ.b2 (Q:(Option Addr)→Int→K)  (X2:Int→K) (s6_2:(Option Addr)) (t22_2:Int) (t23_2:Int):K :=
 Ite (decide (t23_2 < t22_2))
  (Dr <| WithS fun S =>
  Nn s6_2 fun t28 =>
  LdS S (t28.add 2) Sl.val fun t30 =>
  zDN.call t23_2 fun t32 =>
  Sv S <|
  New 136 #[(.pointer t32)] fun t33 =>
  Sv S <|
  Do Tryz.prog (Builtin.append_ #[132,132] 132 #[(Sl.val t30),(Sl.val (Sl.mk (some t33) 1 1))]) Sl.val fun t34 =>
  St (t28.add 2) (Sl.val t34) <|
  Ar (IntKind.wrap .i64 (t23_2 + 1)) fun t37 =>
  X2 t37)
  (Q s6_2 0)
def zBZ.s1 (Q:(Option Addr)→Int→K)  (regions0_1:Int) (s6_1:(Option Addr)):K :=
 LoopK (α:=Int) (fun X x=>zBZ.b2 Q X s6_1 regions0_1 x) 0
def zBZ (regions0:Int) (Q:(Option Addr)→Int→K):K :=
 zDc.call regions0 fun t10x0 t10x1 =>
 Ite (decide (t10x1 ≠ 0))
  (Q none t10x1)
  (Dr <|
  All [
   (zD1.call  fun t17 =>
   Do Tryz.prog (Instr.makeSlice 42 (.int .i64 regions0) (.int .i64 regions0)) Sl.val fun t19 =>
   New 135 #[(.pointer t10x0),(.pointer t17),(Sl.val ⟨none,0,0⟩),(Sl.val t19),(Sl.val ⟨none,0,0⟩)] fun t21 =>
   zBZ.s1 Q regions0 (some t21)),
   (Do Tryz.prog (Instr.makeSlice 42 (.int .i64 regions0) (.int .i64 regions0)) Sl.val fun t19 =>
   zD1.call  fun t17 =>
   New 135 #[(.pointer t10x0),(.pointer t17),(Sl.val ⟨none,0,0⟩),(Sl.val t19),(Sl.val ⟨none,0,0⟩)] fun t21 =>
   zBZ.s1 Q regions0 (some t21))
   ])
theorem zI9 (regions0:Int) (Q:(Option Addr)→Int→K) (w:World) (h:zBZ regions0 Q w):zBZ.call regions0 Q w:=by
 have hD8:DH 8 2 [8,11] (.s [0,1,2,3,5,4] (.a [(6,1,.a [(7,1,.a [(8,0,.s [9,10] (.a [(11,0,.e)]))])])])):=by intros; exact ⟨⟩
 have hL6:∀ (s6_2:(Option Addr)) (t22_2:Int),LH 6 (fun x:Int=>[(6,(.pointer s6_2)),(22,(.int .i64 t22_2)),(23,(.int .i64 x))]) (fun X x=>zBZ.b2 Q X s6_2 t22_2 x):=by intros; exact ⟨⟩
 have hJ5:JH 5 fun D=>∃ (regions0_1:Int),D [(0,(.int .i64 regions0_1))] (fun C=>∀ (s6_1:(Option Addr)),C [(0,(.int .i64 regions0_1)),(6,(.pointer s6_1))] (zBZ.s1 Q regions0_1 s6_1)):=by intros; exact ⟨fun _ ⟨_,h⟩=>⟨_,_,h⟩⟩
 have hD4:DH 4 0 [] (.s [0,2] (.a [(1,0,.a [(3,0,.s [4] (.a [(5,0,.s [6] .e)]))]),(3,0,.a [(1,0,.s [4] (.a [(5,0,.s [6] .e)]))])])):=by intros; exact ⟨⟩
 exact g_walk 39 h Tryz.func11
def zBb (s0:(Option Addr)) (tag1:(Array Value)) (t2:(Array Value)) (Q:(Array Value)→K):K :=
 New 37 tag1 fun tag4 =>
 New 25 t2 fun t5 =>
 New 40 #[(.int .i64 0),(.int .u64 0),(.int .u64 0),(.int .i64 0),(.int .i64 0),(Sl.val ⟨none,0,0⟩),(Sl.val ⟨none,0,0⟩),(Sl.val ⟨none,0,0⟩),(.int .i64 0),(Sl.val ⟨none,0,0⟩)] fun t6 =>
 Dr <|
 Nn s0 fun t8 =>
 Ld t8 Value.pointer fun t10 =>
 LdN tag4 4 fun t11 =>
 LdN t5 5 fun t12 =>
 zEm.call t10 t11 t12 fun t13 =>
 StN t6 10 t13 <|
 LdN t6 10 fun r0 =>
 Q r0
theorem zFh (s0:(Option Addr)) (tag1:(Array Value)) (t2:(Array Value)) (Q:(Array Value)→K) (w:World) (h:zBb s0 tag1 t2 Q w):zBb.call s0 tag1 t2 Q w:=by
 have hD1:DH 1 1 [6,7] (.s [0,1,2,3,4,5] (.a [(6,0,.a [(7,0,.e)])])):=by intros; exact ⟨⟩
 exact g_walk 14 h Tryz.func12
def zAF.s3 (Q:Sl→K)  (s0_3:Addr) (region4_3:Addr) (tag9_3:Addr) (marks10_3:Sl) (j11_3:(Option Addr)):K :=
 Nn j11_3 fun t104 =>
 Ld (t104.add 10) Sl.val fun t106 =>
 zAt.call t106 (.func (.func 61) #[] #[(.pointer (some region4_3))]) fun t108 =>
 St (t104.add 10) (Sl.val t108) <|
 Dr <|
 Ld (s0_3.add 1) Value.pointer fun t114 =>
 Ld s0_3 Value.pointer fun t118 =>
 LdN tag9_3 4 fun t119 =>
 zAh.call t114 t118 t119 marks10_3 <|
 zBo.call (some s0_3) fun t123 =>
 Q t123
def zAF.s2 (Q:Sl→K)  (s0_2:Addr) (region4_2:Addr) (i5_2:Addr) (tag9_2:Addr) (marks10_2:Sl) (j11_2:(Option Addr)):K :=
 Ld i5_2 (Value.int .i64) fun t96 =>
 Ite (decide (t96 = 2))
  (LdN (i5_2.add 2) 10 fun t99 =>
  Ld region4_2 (Value.int .i64) fun t100 =>
  zCD.call t99 t100 fun t101 =>
  zAF.s3 Q s0_2 region4_2 tag9_2 t101 j11_2)
  (zAF.s3 Q s0_2 region4_2 tag9_2 marks10_2 j11_2)
def zAF.s4 (Q:Sl→K)  (s0_4:Addr) (region4_4:Addr) (i5_4:Addr) (tag9_4:Addr) (marks10_4:Sl) (j11_4:(Option Addr)) (t64_4:Bool):K :=
 Ite t64_4
  (zBo.call (some s0_4) fun t73 =>
  Q t73)
  (Ite ((j11_4).isNone)
   (Dr <| WithS fun S =>
   LdNS S (i5_4.add 2) 10 fun t78 =>
   LdNS S (i5_4.add 2) 10 fun t81 =>
   zDY.call t78 fun t79 =>
   Sv S <|
   zBM.call t81 fun t82 =>
   Bld #[(.int .i64 0),(.int .u64 0),(.int .u64 0),(.int .i64 0),(.int .i64 0),(Sl.val ⟨none,0,0⟩),(Sl.val ⟨none,0,0⟩),(Sl.val ⟨none,0,0⟩),(.int .i64 0),(Sl.val ⟨none,0,0⟩),(Sl.val ⟨none,0,0⟩)] ([(0,10),(10,1)][·]?) [(0,(.agg t79)),(1,(Sl.val t82))] fun t83 =>
   New 151 t83 fun t84 =>
   Ld (s0_4.add 4) Sl.val fun t89 =>
   New 146 #[(.pointer (some t84))] fun t91 =>
   Do Tryz.prog (Builtin.append_ #[133,133] 133 #[(Sl.val t89),(Sl.val (Sl.mk (some t91) 1 1))]) Sl.val fun t92 =>
   St (s0_4.add 4) (Sl.val t92) <|
   zAF.s2 Q s0_4 region4_4 i5_4 tag9_4 marks10_4 (some t84))
   (zAF.s2 Q s0_4 region4_4 i5_4 tag9_4 marks10_4 j11_4))
def zAF.s1 (Q:Sl→K)  (s0_1:(Option Addr)) (region4_1:Addr) (i5_1:Addr) (t35_1:Bool):K :=
 Ite t35_1
  (Q (Sl.mk none 0 0))
  (Dr <|
  Nn s0_1 fun t37 =>
  Ld (t37.add 3) Sl.val fun t39 =>
  Ld region4_1 (Value.int .i64) fun t40 =>
  Idx t39 t40 1 fun t41 =>
  Ld t41 (Value.int .i64) fun t42 =>
  Ar (IntKind.wrap .i64 (t42 + 1)) fun t43 =>
  Idx t39 t40 1 fun t44 =>
  St t44 (.int .i64 t43) <|
  Dr <|
  Ld (t37.add 2) Sl.val fun t48 =>
  Ld region4_1 (Value.int .i64) fun t49 =>
  Idx t48 t49 1 fun t50 =>
  Ld t50 Value.pointer fun t51 =>
  LdN i5_1 12 fun t52 =>
  zAq.call t51 t52 fun t53 =>
  Ite (!t53)
   (Q (Sl.mk none 0 0))
   (Dr <| WithS fun S =>
   LdNS S (i5_1.add 2) 4 fun t57 =>
   LdS S ((i5_1.add 2).add 9) Sl.val fun t60 =>
   New 37 #[(.int .i64 0),(.int .u64 0),(.int .u64 0),(.int .i64 0)] fun tag9 =>
   Sv S <|
   StN tag9 4 t57 <|
   Sv S <|
   LdN tag9 4 fun t62 =>
   zDT.call (some t37) t62 fun t63 =>
   Ite (!(t63).isNone)
    (Ld i5_1 (Value.int .i64) fun t69 =>
    zAF.s4 Q t37 region4_1 i5_1 tag9 t60 t63 (decide (t69 = 1)))
    (zAF.s4 Q t37 region4_1 i5_1 tag9 t60 t63 false)))
def zAF (s0:(Option Addr)) (region1:Int) (i2:(Array Value)) (Q:Sl→K):K :=
 New 3 #[(.int .i64 region1)] fun region4 =>
 New 48 i2 fun i5 =>
 LdN i5 12 fun t13 =>
 zAk.call t13 fun t14x0 t14x1 =>
 Dr <| WithS fun S =>
 Ite (decide (t14x1 ≠ 0))
  (zAF.s1 Q s0 region4 i5 true)
  (LdS S region4 (Value.int .i64) fun t21 =>
  zBT.call s0 t21 fun t22 =>
  Sv S <|
  Ite (!t22)
   (zAF.s1 Q s0 region4 i5 true)
   (Nn s0 fun t29 =>
   LdNS S (i5.add 2) 10 fun t27 =>
   LdS S (t29.add 3) Sl.val fun t31 =>
   zAX.call t27 (t31.n:Int) fun t33 =>
   zAF.s1 Q (some t29) region4 i5 (decide (t33 ≠ 0))))
theorem zIc (s0:(Option Addr)) (region1:Int) (i2:(Array Value)) (Q:Sl→K) (w:World) (h:zAF s0 region1 i2 Q w):zAF.call s0 region1 i2 Q w:=by
 have hD17:DH 17 1 [10] (.s [0,1,2,4,5,6,9,3,7,8] (.a [(10,0,.e)])):=by intros; exact ⟨⟩
 have hJ16:JH 16 fun D=>∃ (s0_3:Addr) (region4_3:Addr) (tag9_3:Addr) (j11_3:(Option Addr)),D [(0,(.pointer (some s0_3))),(4,(.pointer (some region4_3))),(9,(.pointer (some tag9_3))),(11,(.pointer j11_3))] (fun C=>∀ (marks10_3:Sl),C [(0,(.pointer (some s0_3))),(4,(.pointer (some region4_3))),(9,(.pointer (some tag9_3))),(10,(Sl.val marks10_3)),(11,(.pointer j11_3))] (zAF.s3 Q s0_3 region4_3 tag9_3 marks10_3 j11_3)):=by intros; exact ⟨fun _ ⟨_,_,_,_,h⟩=>⟨_,_,h⟩⟩
 have hJ14:JH 14 fun D=>∃ (s0_2:Addr) (region4_2:Addr) (i5_2:Addr) (tag9_2:Addr) (marks10_2:Sl),D [(0,(.pointer (some s0_2))),(4,(.pointer (some region4_2))),(5,(.pointer (some i5_2))),(9,(.pointer (some tag9_2))),(10,(Sl.val marks10_2))] (fun C=>∀ (j11_2:(Option Addr)),C [(0,(.pointer (some s0_2))),(4,(.pointer (some region4_2))),(5,(.pointer (some i5_2))),(9,(.pointer (some tag9_2))),(10,(Sl.val marks10_2)),(11,(.pointer j11_2))] (zAF.s2 Q s0_2 region4_2 i5_2 tag9_2 marks10_2 j11_2)):=by intros; exact ⟨fun _ ⟨_,_,_,_,_,h⟩=>⟨_,_,h⟩⟩
 have hD12:DH 12 2 [5,7] (.s [0,3,1,4] (.a [(2,1,.a [(5,0,.s [6] (.a [(7,0,.s [8] .e)]))])])):=by intros; exact ⟨⟩
 have hJ10:JH 10 fun D=>∃ (s0_4:Addr) (region4_4:Addr) (i5_4:Addr) (tag9_4:Addr) (marks10_4:Sl) (j11_4:(Option Addr)),D [(0,(.pointer (some s0_4))),(4,(.pointer (some region4_4))),(5,(.pointer (some i5_4))),(9,(.pointer (some tag9_4))),(10,(Sl.val marks10_4)),(11,(.pointer j11_4))] (fun C=>∀ (t64_4:Bool),C [(0,(.pointer (some s0_4))),(4,(.pointer (some region4_4))),(5,(.pointer (some i5_4))),(9,(.pointer (some tag9_4))),(10,(Sl.val marks10_4)),(11,(.pointer j11_4)),(64,(.bool t64_4))] (zAF.s4 Q s0_4 region4_4 i5_4 tag9_4 marks10_4 j11_4 t64_4)):=by intros; exact ⟨fun _ ⟨_,_,_,_,_,_,h⟩=>⟨_,_,h⟩⟩
 have hD7:DH 7 2 [] (.s [0,1,3,4,2,5] (.a [(6,1,.a [(7,1,.s [8] .e)])])):=by intros; exact ⟨⟩
 have hD5:DH 5 1 [8] (.s [0,1,2,3,4,5,6,7] (.a [(8,0,.s [9] .e)])):=by intros; exact ⟨⟩
 have hD4:DH 4 1 [9] (.s [0,1,2,3,4,5,6,7,8] (.a [(9,0,.e)])):=by intros; exact ⟨⟩
 have hJ3:JH 3 fun D=>∃ (s0_1:(Option Addr)) (region4_1:Addr) (i5_1:Addr),D [(0,(.pointer s0_1)),(4,(.pointer (some region4_1))),(5,(.pointer (some i5_1)))] (fun C=>∀ (t35_1:Bool),C [(0,(.pointer s0_1)),(4,(.pointer (some region4_1))),(5,(.pointer (some i5_1))),(35,(.bool t35_1))] (zAF.s1 Q s0_1 region4_1 i5_1 t35_1)):=by intros; exact ⟨fun _ ⟨_,_,_,h⟩=>⟨_,_,h⟩⟩
 have hD2:DH 2 2 [16] (.s [0,1,2] (.i (.s [3,4,5,6,7,8,9,10,11,12,13,14,15,16,17,18] .e) (.s [3,4] (.a [(5,1,.s [6,7,8] (.i (.s [9,10,11,12,13,14,15,16,17,18] .e) (.s [9,11,12,13,10,14,15] (.a [(16,0,.s [17,18] .e)]))))])))):=by intros; exact ⟨⟩
 exact g_walk 124 h Tryz.func15
def zDQ.b1 (Q:Sl→K)  (X1:Sl→Int→K) (t8_1:Sl) (t9_1:Int) (out2_1:Sl) (t10_1:Int):K :=
 Ite (decide (t10_1 < t9_1))
  (Idx t8_1 t10_1 1 fun t12 =>
  Ld t12 Value.pointer fun t13 =>
  Nn t13 fun t16 =>
  LdN t16 4 fun t19 =>
  Bld #[(.int .i64 0),(.int .u64 0),(.int .u64 0),(.int .i64 0)] (fun i=>some (i * 4,4)) [(0,(.agg t19))] fun ct20 =>
  New 37 ct20 fun t20 =>
  Do Tryz.prog (Builtin.append_ #[54,54] 54 #[(Sl.val out2_1),(Sl.val (Sl.mk (some t20) 1 1))]) Sl.val fun t21 =>
  Ar (IntKind.wrap .i64 (t10_1 + 1)) fun t22 =>
  X1 t21 t22)
  (Q out2_1)
def zDQ (s0:(Option Addr)) (Q:Sl→K):K :=
 Nn s0 fun t6 =>
 Ld (t6.add 4) Sl.val fun t8 =>
 LoopK (α:=Sl×Int) (fun X x=>zDQ.b1 Q (fun out2_1 t10_1=>X (out2_1,t10_1)) t8 (t8.n:Int) x.1 x.2) ((Sl.mk none 0 0),0)
def zKL (s0:(Option Addr)) (Q:Sl→K):K :=
 Nn s0 fun t4 =>
 Ld t4 Value.pointer fun t6 =>
 zGc.call t6 fun t7 =>
 Q t7
def zFX (s0:(Option Addr)) (region1:Int) (Q:Int→K):K :=
 zBT.call s0 region1 fun t7 =>
 Ite (!t7)
  (Q 0)
  (Nn s0 fun t10 =>
  Ld (t10.add 3) Sl.val fun t12 =>
  Idx t12 region1 1 fun t14 =>
  Ld t14 (Value.int .i64) fun t15 =>
  Q t15)
def zKM (s0:(Option Addr)) (region1:Int) (Q:Int→K):K :=
 zBT.call s0 region1 fun t7 =>
 Ite (!t7)
  (Q (-1))
  (Nn s0 fun t10 =>
  Ld (t10.add 2) Sl.val fun t12 =>
  Idx t12 region1 1 fun t14 =>
  Ld t14 Value.pointer fun t15 =>
  zF7.call t15 fun t16 =>
  Q t16)
def zBT.s1 (Q:Bool→K)  (t4_1:Bool):K :=
 Q t4_1
def zBT (s0:(Option Addr)) (region1:Int) (Q:Bool→K):K :=
 Ite (decide ((0:Int) ≤ region1))
  (Nn s0 fun t10 =>
  Ld (t10.add 3) Sl.val fun t12 =>
  zBT.s1 Q (decide (region1 < (t12.n:Int))))
  (zBT.s1 Q false)
theorem zIH (s0:(Option Addr)) (region1:Int) (Q:Bool→K) (w:World) (h:zBT s0 region1 Q w):zBT.call s0 region1 Q w:=by
 have hJ1000001:JH 1000001 fun D=>D [] (fun C=>∀ (t4_1:Bool),C [(4,(.bool t4_1))] (zBT.s1 Q t4_1)):=by intros; exact ⟨fun _ h=>⟨_,_,h⟩⟩
 exact g_walk 16 h Tryz.func53
def zDT (s0:(Option Addr)) (tag1:(Array Value)) (Q:(Option Addr)→K):K :=
 New 37 tag1 fun tag3 =>
 Nn s0 fun t7 =>
 Ld (t7.add 4) Sl.val fun t9 =>
 zAw.call t9 (.func (.func 96) #[] #[(.pointer (some tag3))]) fun t11 =>
 Ite (decide (t11 < 0))
  (Q none)
  (Ld (t7.add 4) Sl.val fun t17 =>
  Idx t17 t11 1 fun t19 =>
  Ld t19 Value.pointer fun t20 =>
  Q t20)
theorem zId (s0:(Option Addr)) (tag1:(Array Value)) (Q:(Option Addr)→K) (w:World) (h:zDT s0 tag1 Q w):zDT.call s0 tag1 Q w:=by
 exact g_walk 21 h Tryz.func56
def zBo.b1 (Q:Sl→K)  (X1:Sl→K) (s1_1:Addr) (out2_1:Sl):K :=
 Ld s1_1 Value.pointer fun t5 =>
 Nn t5 fun t6 =>
 Ld (t6.add 4) Sl.val fun t8 =>
 zAw.call t8 (.func (.func 97) #[] #[(.pointer (some s1_1))]) fun t10 =>
 Ite (decide (t10 < 0))
  (Q out2_1)
  (Ld s1_1 Value.pointer fun t14 =>
  Nn t14 fun t15 =>
  Ld (t15.add 4) Sl.val fun t17 =>
  Idx t17 t10 1 fun t19 =>
  Ld t19 Value.pointer fun t20 =>
  Nn t20 fun t21 =>
  LdN t21 10 fun t23 =>
  New 40 #[(.int .i64 0),(.int .u64 0),(.int .u64 0),(.int .i64 0),(.int .i64 0),(Sl.val ⟨none,0,0⟩),(Sl.val ⟨none,0,0⟩),(Sl.val ⟨none,0,0⟩),(.int .i64 0),(Sl.val ⟨none,0,0⟩)] fun o4 =>
  StN o4 10 t23 <|
  Dr <| WithS fun S =>
  Ar (IntKind.wrap .i64 (t10 + 1)) fun t31 =>
  LdS S s1_1 Value.pointer fun t24 =>
  LdS S s1_1 Value.pointer fun t25 =>
  Nn t25 fun t26 =>
  LdS S (t26.add 4) Sl.val fun t28 =>
  zBj.call t28 t10 t31 fun t32 =>
  Sv S <|
  Nn t24 fun t33 =>
  St (t33.add 4) (Sl.val t32) <|
  Dr <| WithS fun S =>
  LdNS S o4 4 fun t37 =>
  LdS S s1_1 Value.pointer fun t38 =>
  LdNS S o4 10 fun t39 =>
  zAc.call t38 t39 fun t40 =>
  Sv S <|
  Bld #[(.int .i64 0),(.int .u64 0),(.int .u64 0),(.int .i64 0),(.int .i64 0),(Sl.val ⟨none,0,0⟩)] ([(0,4),(4,2)][·]?) [(0,(.agg t37)),(1,(.agg t40))] fun t41 =>
  Bld #[(.int .i64 0),(.int .u64 0),(.int .u64 0),(.int .i64 0),(.int .i64 0),(Sl.val ⟨none,0,0⟩)] (fun i=>some (i * 6,6)) [(0,(.agg t41))] fun ct42 =>
  New 53 ct42 fun t42 =>
  Do Tryz.prog (Builtin.append_ #[45,45] 45 #[(Sl.val out2_1),(Sl.val (Sl.mk (some t42) 1 1))]) Sl.val fun t43 =>
  X1 t43)
def zBo (s0:(Option Addr)) (Q:Sl→K):K :=
 New 29 #[(.pointer s0)] fun s1 =>
 LoopK (α:=Sl) (fun X x=>zBo.b1 Q X s1 x) (Sl.mk none 0 0)
theorem zIe (s0:(Option Addr)) (Q:Sl→K) (w:World) (h:zBo s0 Q w):zBo.call s0 Q w:=by
 have hD6:DH 6 2 [7,8] (.s [0,1,2,3,4] (.a [(5,1,.s [6] (.a [(7,0,.a [(8,0,.s [9] .e)])]))])):=by intros; exact ⟨⟩
 have hD5:DH 5 2 [11] (.s [5,6,7,0,1,2,3,4] (.a [(8,1,.s [9,10] (.a [(11,0,.e)]))])):=by intros; exact ⟨⟩
 have hL1:∀ (s1_1:Addr),LH 1 (fun x:Sl=>[(1,(.pointer (some s1_1))),(2,(Sl.val x))]) (fun X x=>zBo.b1 Q X s1_1 x):=by intros; exact ⟨⟩
 exact g_walk 44 h Tryz.func57
def zD2 (h0:Int) (t1:Addr) (Q:Bool→K):K :=
 Ld t1 (Value.int .i64) fun t5 =>
 Q (decide (h0 = t5))
theorem zHT (h0:Int) (t1:Addr) (Q:Bool→K) (w:World) (h:zD2 h0 t1 Q w):zD2.call h0 t1 Q w:=by
 exact g_walk 7 h Tryz.func61
def zD3 (j0:(Option Addr)) (t1:Addr) (Q:Bool→K):K :=
 Dr <|
 Nn j0 fun t5 =>
 LdN t5 4 fun t8 =>
 LdN t1 4 fun t9 =>
 Pu Tryz.prog (do eqGuard .eql 37 (.tmp 8) (.tmp 9) (.agg t8) (.agg t9); binOp .eql 37 (.agg t8) (.agg t9):Sem Value) Value.bool fun t10 =>
 Q t10
theorem zHU (j0:(Option Addr)) (t1:Addr) (Q:Bool→K) (w:World) (h:zD3 j0 t1 Q w):zD3.call j0 t1 Q w:=by
 exact g_walk 11 h Tryz.func96
def zBh.s1 (Q:Bool→K)  (t3_1:Bool):K :=
 Q t3_1
def zBh (j0:(Option Addr)) (t1:Addr) (Q:Bool→K):K :=
 Nn j0 fun t6 =>
 LdN t6 4 fun t9 =>
 New 37 #[(.int .i64 0),(.int .u64 0),(.int .u64 0),(.int .i64 0)] fun tag4 =>
 StN tag4 4 t9 <|
 Dr <| WithS fun S =>
 LdS S (t6.add 10) Sl.val fun t13 =>
 Ite (decide ((t13.n:Int) = 0))
  (LdS S t1 Value.pointer fun t17 =>
  Nn t17 fun t18 =>
  LdS S (t18.add 1) Value.pointer fun t20 =>
  LdNS S tag4 4 fun t21 =>
  zCf.call t20 t21 fun t22 =>
  Sv S <|
  Ite t22
   (zBh.s1 Q true)
   (LdS S t1 Value.pointer fun t24 =>
   Nn t24 fun t25 =>
   LdS S (t25.add 1) Value.pointer fun t27 =>
   LdNS S tag4 4 fun t28 =>
   zBB.call t27 t28 fun t29 =>
   zBh.s1 Q t29))
  (zBh.s1 Q false)
theorem zHV (j0:(Option Addr)) (t1:Addr) (Q:Bool→K) (w:World) (h:zBh j0 t1 Q w):zBh.call j0 t1 Q w:=by
 have hJ1000002:JH 1000002 fun D=>D [] (fun C=>∀ (t3_1:Bool),C [(3,(.bool t3_1))] (zBh.s1 Q t3_1)):=by intros; exact ⟨fun _ h=>⟨_,_,h⟩⟩
 have hD2:DH 2 2 [19] (.s [0,1,2,3,4,5,6] (.i (.s [7,8,9,10,11] (.a [(12,1,.s [13] (.i (.s [14,15,16,17,18,19,20,21,22] .e) (.s [14,15,16,17,18] (.a [(19,0,.s [20,21,22] .e)]))))])) (.s [7,8,9,10,11,12,13,14,15,16,17,18,19,20,21,22] .e))):=by intros; exact ⟨⟩
 exact g_walk 32 h Tryz.func97
def zAc.s2 (Q:(Array Value)→K)  (t4_2:Addr) (result5_2:Addr) (t10_2:(Option Addr)) (t12_2:(Array Value)):K :=
 LdN result5_2 2 fun t67 =>
 StN t4_2 2 t67 <|
 zAz.calld t10_2 t12_2 <|
 LdN t4_2 2 fun r0 =>
 Q r0
def zAc.s3 (Q:(Array Value)→K)  (s0_3:Addr) (o3_3:Addr) (t4_3:Addr) (result5_3:Addr) (t10_3:(Option Addr)) (t12_3:(Array Value)) (t45_3:Bool):K :=
 Ite t45_3
  (Dr <|
  Ld (s0_3.add 1) Value.pointer fun t49 =>
  LdN o3_3 4 fun t51 =>
  zAz.call t49 t51 <|
  Dr <|
  Ld (s0_3.add 1) Value.pointer fun t56 =>
  Ld s0_3 Value.pointer fun t60 =>
  Ld ((o3_3.add 4).add 2) Sl.val fun t63 =>
  Idx t63 0 1 fun t64 =>
  Ld t64 Value.string fun t65 =>
  zBG.call t56 t60 t65 <|
  zAc.s2 Q t4_3 result5_3 t10_3 t12_3)
  (zAc.s2 Q t4_3 result5_3 t10_3 t12_3)
def zAc.s1 (Q:(Array Value)→K)  (s0_1:Addr) (o3_1:Addr) (t4_1:Addr) (result5_1:Addr) (writes6_1:Sl) (t10_1:(Option Addr)) (t12_1:(Array Value)):K :=
 Ld s0_1 Value.pointer fun t34 =>
 zBX.call t34 writes6_1 <|
 Ld (o3_1.add 4) (Value.int .i64) fun t39 =>
 Ite (decide (t39 = 2))
  (Ld result5_1 (Value.int .i64) fun t43 =>
  zAc.s3 Q s0_1 o3_1 t4_1 result5_1 t10_1 t12_1 (decide (t43 = 0)))
  (zAc.s3 Q s0_1 o3_1 t4_1 result5_1 t10_1 t12_1 false)
def zAc (s0:(Option Addr)) (o1:(Array Value)) (Q:(Array Value)→K):K :=
 New 40 o1 fun o3 =>
 New 51 #[(.int .i64 0),(Sl.val ⟨none,0,0⟩)] fun t4 =>
 Dr <|
 Nn s0 fun t8 =>
 Ld (t8.add 1) Value.pointer fun t10 =>
 LdN o3 4 fun t12 =>
 Dr <|
 Ld (t8.add 1) Value.pointer fun t16 =>
 LdN o3 4 fun t18 =>
 zCf.call t16 t18 fun t19 =>
 Ite t19
  (StN t4 2 #[(.int .i64 112),(Sl.val ⟨none,0,0⟩)] <|
  zAz.calld t10 t12 <|
  LdN t4 2 fun r0 =>
  Q r0)
  (Dr <| WithS fun S =>
  LdS S t8 Value.pointer fun t25 =>
  LdNS S (o3.add 4) 5 fun t27 =>
  All [
   (zBq.call t25 t27 fun t28x0 t28x1 =>
   New 51 #[(.int .i64 0),(Sl.val ⟨none,0,0⟩)] fun result5 =>
   StN result5 2 t28x0 <|
   zAc.s1 Q t8 o3 t4 result5 t28x1 t10 t12),
   (New 51 #[(.int .i64 0),(Sl.val ⟨none,0,0⟩)] fun result5 =>
   Sv S <|
   zBq.call t25 t27 fun t28x0 t28x1 =>
   StN result5 2 t28x0 <|
   zAc.s1 Q t8 o3 t4 result5 t28x1 t10 t12)
   ])
theorem zHW (s0:(Option Addr)) (o1:(Array Value)) (Q:(Array Value)→K) (w:World) (h:zAc s0 o1 Q w):zAc.call s0 o1 Q w:=by
 have hJ9:JH 9 fun D=>∃ (t4_2:Addr) (result5_2:Addr) (t10_2:(Option Addr)) (t12_2:(Array Value)),D [(4,(.pointer (some t4_2))),(5,(.pointer (some result5_2))),(10,(.pointer t10_2)),(12,(.agg t12_2))] (fun C=>C [(4,(.pointer (some t4_2))),(5,(.pointer (some result5_2))),(10,(.pointer t10_2)),(12,(.agg t12_2))] (zAc.s2 Q t4_2 result5_2 t10_2 t12_2)):=by intros; exact ⟨fun _ ⟨_,_,_,_,h⟩=>⟨_,_,h⟩⟩
 have hD8:DH 8 1 [13] (.s [0,1,2,4,5,6,8,9,3,7,10,11,12] (.a [(13,0,.e)])):=by intros; exact ⟨⟩
 have hD7:DH 7 1 [6] (.s [0,1,2,4,3,5] (.a [(6,0,.e)])):=by intros; exact ⟨⟩
 have hJ7:JH 7 fun D=>∃ (s0_3:Addr) (o3_3:Addr) (t4_3:Addr) (result5_3:Addr) (t10_3:(Option Addr)) (t12_3:(Array Value)),D [(0,(.pointer (some s0_3))),(3,(.pointer (some o3_3))),(4,(.pointer (some t4_3))),(5,(.pointer (some result5_3))),(10,(.pointer t10_3)),(12,(.agg t12_3))] (fun C=>∀ (t45_3:Bool),C [(0,(.pointer (some s0_3))),(3,(.pointer (some o3_3))),(4,(.pointer (some t4_3))),(5,(.pointer (some result5_3))),(10,(.pointer t10_3)),(12,(.agg t12_3)),(45,(.bool t45_3))] (zAc.s3 Q s0_3 o3_3 t4_3 result5_3 t10_3 t12_3 t45_3)):=by intros; exact ⟨fun _ ⟨_,_,_,_,_,_,h⟩=>⟨_,_,h⟩⟩
 have hJ5:JH 5 fun D=>∃ (s0_1:Addr) (o3_1:Addr) (t4_1:Addr) (t10_1:(Option Addr)) (t12_1:(Array Value)),D [(0,(.pointer (some s0_1))),(3,(.pointer (some o3_1))),(4,(.pointer (some t4_1))),(10,(.pointer t10_1)),(12,(.agg t12_1))] (fun C=>∀ (result5_1:Addr) (writes6_1:Sl),C [(0,(.pointer (some s0_1))),(3,(.pointer (some o3_1))),(4,(.pointer (some t4_1))),(5,(.pointer (some result5_1))),(6,(Sl.val writes6_1)),(10,(.pointer t10_1)),(12,(.agg t12_1))] (zAc.s1 Q s0_1 o3_1 t4_1 result5_1 writes6_1 t10_1 t12_1)):=by intros; exact ⟨fun _ ⟨_,_,_,_,_,h⟩=>⟨_,_,h⟩⟩
 have hD4:DH 4 2 [6,11] (.s [0,1,2,4,3,5] (.a [(6,0,.s [7,8,9] (.a [(10,0,.a [(11,0,.s [12] .e)])])),(10,1,.a [(6,0,.s [7,8,9] (.a [(11,0,.s [12] .e)]))])])):=by intros; exact ⟨⟩
 have hD2:DH 2 1 [6] (.s [0,1,2,4,3,5] (.a [(6,0,.e)])):=by intros; exact ⟨⟩
 have hD1:DH 1 1 [6] (.s [0,1,2,4,3,5] (.a [(6,0,.e)])):=by intros; exact ⟨⟩
 exact zTP 68 h Tryz.func101
end Go.Proofs.YtdemfamgieonbaaGreat
namespace Go.Sep
open Go
section
variable {P:Program} {σ:List (Nat×Value)} {o:Oper} {w w':World} {v:Value} {x y z:Operand} {T:TypeId}
theorem zHB {vx vy:Value} (ho:o.op = .mapEntry T x y) (hx:ev σ x = some vx) (hy:ev σ y = some vy):∀ v w w',(Instr.mapEntry T vx vy).run P w = .ok v w'→Eff P σ o w (.value v) w':=fun v w w' hr _ _ hs=>by
 simp [execOp,ho,hs.ev hx,hs.ev hy,hr]
theorem zGG {vx vy vz:Value} (ho:o.op = .entryStore T x y z) (hx:ev σ x = some vx) (hy:ev σ y = some vy) (hz:ev σ z = some vz):∀ u w w',(Instr.entryStore T vx vy vz).run P w = .ok u w'→Eff P σ o w .skip w':=fun u w w' hr _ _ hs=>by
 simp [execOp,ho,hs.ev hx,hs.ev hy,hs.ev hz,hr]
theorem we_do2 {α β:Type} {sem:Sem Value} {c:α→β→Value} {kx:α→β→K} (hs:∀ v w w',sem.run P w = .ok v w'→Eff P σ o w (.value v) w'):WE P σ o (Do2 P sem c kx) (fun u=>u) (fun u=>Ans2 c kx u):=fun w ⟨t,u,w',hd,h⟩=>⟨c t u,w',hs _ _ _ hd,t,u,rfl,h⟩
end
section
variable {P:Program} {dl:List Deferred} {n:Nat} {σ:List (Nat×Value)} {k:K} {ops:Array Oper} {Q:Exit→Act→World→Prop} {o:Oper} {S:World→Prop} {ds done:List Nat} {i d:Nat} {t:Scr}
theorem ox_e2 {kk kS:Value→K} (h:∀ u,G dl n ((d,u)::σ) (Al S (kS u)) (Dx P ops Q S ds (i::done) t)) (hi:ops[i]? = some o:=by rfl) (hd:o.dst = some d:=by rfl) (hw:wants ops σ o = some true:=by rfl) (hp:WE P σ o k (fun u=>u) kk)
  (hS:SvA S kk kS) (hn:Nat.ble (d + 1) n = true:=by rfl) (nd:isDef o.op = false:=by rfl):G dl n σ (Al S k) (Ox P ops Q S ds done i 1 t):=fun a w hs ⟨_,hk⟩=>by
 obtain ⟨x,w',hp,h'⟩:=hp w hk
 refine ox_run hs hi hw fun hQ=>(zD7 (r:=none) hs nd hp ⟨fun _ _ _=>(hS x w' h').1,?_⟩)
 rw [hd,dn_len (m:=0)]; exact h x _ w' (hs.put (Nat.le_of_ble_eq_true hn) _) (hS x w' h') hQ
end
set_option maxRecDepth 100000 in
theorem zTb {P:Program} {f:FuncId} {fn:Func} {c:Code} {args:List Value} {kk:Value→K} {k:K} (n:Nat) {w:World} (hk:k w) (hf:P.funcs[f]? = some fn) (hb:fn.body = some c:=by rfl) (hn:fn.ntmps = n:=by rfl) (hl:Nat.ble args.length n = true:=by rfl)
  (h:G [] n (numb 0 args) k (Cx none P c (bodyPostT P fn (Ret kk))):=by
   repeat' first
   | intro _
   | (refine is_tx ?_; first
     | refine tx_nil ?_
     | (refine is_gd ?_ rfl; first | refine tx_no ?_ | refine tx_no' ?_)
     | (refine is_t 0 ?_ rfl; refine tx_p (hp:=by exact au_p0) ?_)
     | (refine is_t 2 ?_ rfl; first | refine tx_p (hp:=by exact au_p2) ?_ | (refine gx_nn ?_; intro b hb; subst hb) | (refine gx_fv ?_; intro g fs cs hf cb; subst hf))
     | (refine is_t 3 ?_ rfl; refine tx_p (hp:=by exact au_p3) ?_)
     | (refine is_t 13 ?_ rfl; refine tx_wr (hp:=by exact zCV) ?_)
     | (refine is_t 19 ?_ rfl; first | (refine tx_wc (hp:=by exact zCY) ?_; intro u; first | refine an_1 ?_ | refine an_0 ?_ | refine an_2 ?_ | refine an_3 ?_ | refine an_4 ?_ | refine an_5 ?_) | refine tx_wr (hp:=by exact wr_rd (e_ext' rfl rfl rfl)) ?_ | (refine tx_wcn (hp:=by exact zCY) ?_; intro u; first | refine am_0 ?_ | refine am_1 ?_ | refine am_2 ?_ | skip) | (refine tx_wy ?_; intro u; first | refine an_1 ?_ | refine an_0 ?_ | refine an_2 ?_ | refine an_3 ?_ | refine an_4 ?_ | refine an_5 ?_))
     | (refine is_t 10 ?_ rfl; first | refine tx_p (hp:=by exact au_p10) ?_ | refine tx_wp (hp:=by exact zDF) ?_)
     | (refine is_t 8 ?_ rfl; refine tx_wp (hp:=by exact au_wp8) ?_)
     | (refine is_t 20 ?_ rfl; first | refine tx_p (hp:=by exact au_p20) ?_ | refine tx_wr (hp:=by exact zCW) ?_)
     | (refine is_t 27 ?_ rfl; refine tx_wp (hp:=by exact zDK) ?_)
     | (refine is_t 4 ?_ rfl; first | refine tx_p (hp:=by exact au_p4) ?_ | refine tx_wp (hp:=by exact au_wp4) ?_)
     | (refine is_t 17 ?_ rfl; refine tx_wk (hp:=by exact zDx) ?_)
     | (refine is_t 1 ?_ rfl; refine tx_p (hp:=by exact au_p1) ?_)
     | (refine is_t 6 ?_ rfl; refine tx_p (hp:=by exact au_p6) ?_)
     | (refine is_t 15 ?_ rfl; refine tx_we (hp:=by exact zDt) ?_)
     | (refine is_t 16 ?_ rfl; refine tx_we (hp:=by exact zDu) ?_)
     | (refine is_t 22 ?_ rfl; first | refine tx_we (hp:=by exact zB5) ?_ | refine tx_wen (hp:=by exact zB5) ?_)
     | (refine is_t 28 ?_ rfl; refine tx_wp (hp:=by exact zDL) ?_)
     | (refine is_t 11 ?_ rfl; first | refine tx_wp (hp:=by exact zDG) ?_ | refine tx_p (hp:=by exact au_p11) ?_ | refine tx_wr (hp:=by exact zCU) ?_ | refine tx_we (hp:=by exact zDs) ?_)
     | (refine is_t 26 ?_ rfl; first | refine tx_wp (hp:=by exact zDJ) ?_ | refine tx_p (hp:=by exact au_p26) ?_)
     | (refine is_t 12 ?_ rfl; first | refine tx_wp (hp:=by exact zDH) ?_ | refine tx_p (hp:=by exact au_p12) ?_)
     | (refine is_t 5 ?_ rfl; refine tx_p (hp:=by exact au_p5) ?_)
     | (refine is_t 7 ?_ rfl; refine tx_wp (hp:=by exact au_wp7) ?_)
     | (refine is_t 9 ?_ rfl; refine tx_wp (hp:=by exact au_wp9) ?_)
     | (refine is_t 14 ?_ rfl; first | refine tx_wr (hp:=by exact wr_rd (zAZ rfl rfl rfl)) ?_ | (refine tx_wr (hp:=by exact wr_rd2 (zAZ rfl rfl rfl)) ?_; intro u; refine an_2 ?_))
     | (refine is_t 18 ?_ rfl; refine tx_wk (hp:=by exact zDy) ?_)
     | (refine is_t 99 ?_ rfl; refine tx_we (hp:=by exact we_do2 (zHB rfl rfl rfl)) ?_; intro u; refine an_2 ?_)
     | (refine is_t 99 ?_ rfl; refine tx_wk (hp:=by exact wk_do (zGG rfl rfl rfl rfl)) ?_)
     | (refine is_t 21 ?_ rfl; refine tx_wp (hp:=by exact zDI) ?_)
     | (refine is_t 23 ?_ rfl; refine tx_we (hp:=by exact zDv) ?_)
     | (refine is_t 24 ?_ rfl; refine tx_we (hp:=by exact zDw) ?_)
     | (refine is_t 25 ?_ rfl; refine tx_wr (hp:=by exact zCX) ?_)
     | (refine tx_ite ?_ ?_ <;> (intro hb; refine zDE ?_; intro a w hs; try rw [hb] at hs; clear hb; revert hs; revert w; revert a; refine gx_unf ?_)))
   | (refine is_cx ?_; first
     | refine cx_reg ?_
     | (refine is_seq ?_; first | (refine zJR ?_; (repeat apply ex_i); refine And.intro zE6 (And.intro ?_ ?_)) | refine cx_seq ?_)
     | refine zGw ?_ ?_ rfl
     | refine zJS ?_
     | refine cx_ret ?_
     | refine zHt ?_
     | refine zJT ?_
     | refine zJU ?_
     | (refine zJa ?_; first | refine zGq ?_ | refine zGr ?_)
     | (refine zJb ?_; first | refine zH0 ?_ | refine zHz ?_ | refine zH1 ?_ | refine zH2 ?_)
     | refine zHs ?_
     | refine zGv ?_ ?_
     | refine zGu ?_ ?_ ?_
     | refine zCT ?_)
   | (refine is_ex ?_; first
     | refine zJV ?_
     | refine zGt ?_
     | refine zGs ?_
     | refine ex_blk ?_
     | refine zHu ?_
     | refine zHv ?_
     | refine zHw ?_
     | refine zJW ?_
     | refine ex_ret ?_
     | refine ex_end ?_
     | exact rq_n
     | exact rq_r
     | exact rq_x
     | refine zCT ?_)
   | exact zJP
   | refine gp_in ?_
   | (refine is_rx ?_; first
     | refine rx_tmp ?_
     | refine rx_nil ?_
     | refine zJX ?_
     | refine zHx ?_)
   | (refine is_fx ?_; first
     | exact fx_1
     | exact fx_0
     | exact fx_2
     | exact fx_3
     | exact fx_4
     | exact fx_5)
   | (refine is_dx ?_; first
     | refine dx_end ?_
     | refine dx_nil ?_
     | refine dx_a ?_
     | (refine zJY ?_ ?_ <;> (intro hb; refine zDE ?_; intro a w hs; try rw [hb] at hs; clear hb; revert hs; revert w; revert a; refine gx_unf ?_))
     | (refine dx_ite ?_ ?_ <;> (intro hb; refine zDE ?_; intro a w hs; try rw [hb] at hs; clear hb; revert hs; revert w; revert a; refine gx_unf ?_))
     | (refine is_gdx ?_ rfl; first | refine dx_no ?_ | refine dx_no' ?_)
     | (refine is_d 0 ?_ rfl; refine dx_p (hp:=by exact au_p0) ?_)
     | (refine is_d 2 ?_ rfl; first | refine dx_p (hp:=by exact au_p2) ?_ | (refine al_nn ?_; intro b hb; subst hb) | (refine gx_nn ?_; intro b hb; subst hb) | (refine al_fv ?_; intro g fs cs hf cb; subst hf) | (refine gx_fv ?_; intro g fs cs hf cb; subst hf))
     | (refine is_d 3 ?_ rfl; refine dx_p (hp:=by exact au_p3) ?_)
     | (refine is_d 13 ?_ rfl; first | refine dx_is (hp:=by exact zCV) ?_ | refine dx_S (hp:=by exact zJd) ?_)
     | (refine is_d 10 ?_ rfl; first | refine dx_p (hp:=by exact au_p10) ?_ | refine dx_wpA (hp:=by exact zDF) ?_ | refine dx_wp (hp:=by exact zDF) ?_)
     | (refine is_d 8 ?_ rfl; first | refine dx_wpA (hp:=by exact au_wp8) ?_ | refine dx_wp (hp:=by exact au_wp8) ?_)
     | (refine is_d 20 ?_ rfl; first | refine dx_p (hp:=by exact au_p20) ?_ | refine dx_is (hp:=by exact zCW) ?_ | refine dx_S (hp:=by exact zJe) ?_)
     | (refine is_d 27 ?_ rfl; first | refine dx_wpA (hp:=by exact zDK) ?_ | refine dx_wp (hp:=by exact zDK) ?_)
     | (refine is_d 4 ?_ rfl; first | refine dx_p (hp:=by exact au_p4) ?_ | refine dx_wpA (hp:=by exact au_wp4) ?_ | refine dx_wp (hp:=by exact au_wp4) ?_)
     | (refine is_d 1 ?_ rfl; refine dx_p (hp:=by exact au_p1) ?_)
     | (refine is_d 6 ?_ rfl; refine dx_p (hp:=by exact au_p6) ?_)
     | (refine is_d 28 ?_ rfl; first | refine dx_wpA (hp:=by exact zDL) ?_ | refine dx_wp (hp:=by exact zDL) ?_)
     | (refine is_d 11 ?_ rfl; first | refine dx_wpA (hp:=by exact zDG) ?_ | refine dx_wp (hp:=by exact zDG) ?_ | refine dx_p (hp:=by exact au_p11) ?_ | refine dx_is (hp:=by exact zCU) ?_ | refine dx_S (hp:=by exact zJc) ?_)
     | (refine is_d 26 ?_ rfl; first | refine dx_wpA (hp:=by exact zDJ) ?_ | refine dx_wp (hp:=by exact zDJ) ?_ | refine dx_p (hp:=by exact au_p26) ?_)
     | (refine is_d 12 ?_ rfl; first | refine dx_wpA (hp:=by exact zDH) ?_ | refine dx_wp (hp:=by exact zDH) ?_ | refine dx_p (hp:=by exact au_p12) ?_)
     | (refine is_d 5 ?_ rfl; refine dx_p (hp:=by exact au_p5) ?_)
     | (refine is_d 7 ?_ rfl; first | refine dx_wpA (hp:=by exact au_wp7) ?_ | refine dx_wp (hp:=by exact au_wp7) ?_)
     | (refine is_d 9 ?_ rfl; first | refine dx_wpA (hp:=by exact au_wp9) ?_ | refine dx_wp (hp:=by exact au_wp9) ?_)
     | (refine is_d 14 ?_ rfl; first | refine dx_is (hp:=by exact wr_rd (zAZ rfl rfl rfl)) ?_ | (refine dx_is (hp:=by exact wr_rd2 (zAZ rfl rfl rfl)) ?_; intro u; refine al_an2 ?_) | refine dx_S (hp:=by exact ws_rd (zAZ rfl rfl rfl)) ?_ | (refine dx_S (hp:=by exact ws_rd2 (zAZ rfl rfl rfl)) ?_; intro u; refine al_an2 ?_))
     | (refine is_d 21 ?_ rfl; first | refine dx_wpA (hp:=by exact zDI) ?_ | refine dx_wp (hp:=by exact zDI) ?_)
     | (refine is_d 25 ?_ rfl; first | refine dx_is (hp:=by exact zCX) ?_ | refine dx_S (hp:=by exact zJf) ?_)
     | refine zCT ?_)
   | (refine is_ox ?_; first
     | (refine is_o 13 ?_ rfl; first | refine ox_r2A (hp:=by exact zCV) ?_ | refine ox_r2 (hp:=by exact zCV) ?_)
     | (refine is_o 19 ?_ rfl; first | (refine ox_c1 (hp:=by exact zCY) ?_; intro u; first | refine al_an1 ?_ | refine al_an0 ?_ | refine al_an2 ?_) | (refine ox_c (hp:=by exact zCY) ?_; intro u; first | refine an_1 ?_ | refine an_0 ?_ | refine an_2 ?_ | refine an_3 ?_ | refine an_4 ?_ | refine an_5 ?_) | (refine ox_cn (hp:=by exact zCY) ?_; intro u; first | refine am_0 ?_ | refine am_1 ?_ | refine am_2 ?_ | skip) | (refine ox_y ?_; intro u; first | refine an_1 ?_ | refine an_0 ?_ | refine an_2 ?_ | refine an_3 ?_ | refine an_4 ?_ | refine an_5 ?_))
     | (refine is_o 20 ?_ rfl; first | refine ox_r2A (hp:=by exact zCW) ?_ | refine ox_r2 (hp:=by exact zCW) ?_)
     | (refine is_o 17 ?_ rfl; first | refine ox_k1 (hp:=by exact zDx) ?_ | refine ox_k (hp:=by exact zDx) ?_)
     | (refine is_o 15 ?_ rfl; first | refine ox_e1 (hp:=by exact zDt) ?_ | refine ox_e (hp:=by exact zDt) ?_)
     | (refine is_o 16 ?_ rfl; first | refine ox_e1 (hp:=by exact zDu) ?_ | refine ox_e (hp:=by exact zDu) ?_)
     | (refine is_o 22 ?_ rfl; first | refine ox_e1 (hp:=by exact zB5) ?_ | refine ox_e (hp:=by exact zB5) ?_ | refine ox_en1 (hp:=by exact zB5) ?_ | refine ox_en (hp:=by exact zB5) ?_)
     | (refine is_o 11 ?_ rfl; first | refine ox_e1 (hp:=by exact zDs) ?_ | refine ox_e (hp:=by exact zDs) ?_ | refine ox_r2A (hp:=by exact zCU) ?_ | refine ox_r2 (hp:=by exact zCU) ?_)
     | (refine is_o 14 ?_ rfl; first | refine ox_r2A (hp:=by exact wr_rd (zAZ rfl rfl rfl)) ?_ | (refine ox_r2A (hp:=by exact wr_rd2 (zAZ rfl rfl rfl)) ?_; intro u; refine al_an2 ?_) | refine ox_r2 (hp:=by exact wr_rd (zAZ rfl rfl rfl)) ?_ | (refine ox_r2 (hp:=by exact wr_rd2 (zAZ rfl rfl rfl)) ?_; intro u; refine an_2 ?_))
     | (refine is_o 18 ?_ rfl; first | refine ox_k1 (hp:=by exact zDy) ?_ | refine ox_k (hp:=by exact zDy) ?_)
     | (refine is_o 99 ?_ rfl; first | (refine ox_e2 (hp:=by exact we_do2 (zHB rfl rfl rfl)) (hS:=sva_2) ?_; intro u; refine al_an2 ?_) | (refine ox_e (hp:=by exact we_do2 (zHB rfl rfl rfl)) ?_; intro u; refine an_2 ?_) | refine ox_k1 (hp:=by exact wk_do (zGG rfl rfl rfl rfl)) ?_ | refine ox_k (hp:=by exact wk_do (zGG rfl rfl rfl rfl)) ?_)
     | (refine is_o 23 ?_ rfl; first | refine ox_e1 (hp:=by exact zDv) ?_ | refine ox_e (hp:=by exact zDv) ?_)
     | (refine is_o 24 ?_ rfl; first | refine ox_e1 (hp:=by exact zDw) ?_ | refine ox_e (hp:=by exact zDw) ?_)
     | (refine is_o 25 ?_ rfl; first | refine ox_r2A (hp:=by exact zCX) ?_ | refine ox_r2 (hp:=by exact zCX) ?_)
     | refine zCT ?_)
   | refine zJZ ?_ ?_
   | refine ax_all ?_ ?_
   | exact ax_nil
   | refine ax_one ?_
   | (refine is_lx ?_; exact lx_end)
   | (refine is_sx ?_; first
     | refine sx_nil ?_
     | (refine is_gs ?_ rfl; refine sx_no ?_)
     | (refine is_s 0 ?_ rfl; refine sx_p (hp:=by exact au_p0) ?_)
     | (refine is_s 2 ?_ rfl; first | refine sx_p (hp:=by exact au_p2) ?_ | (refine gx_nn ?_; intro b hb; subst hb) | (refine gx_fv ?_; intro g fs cs hf cb; subst hf))
     | (refine is_s 3 ?_ rfl; refine sx_p (hp:=by exact au_p3) ?_)
     | (refine is_s 13 ?_ rfl; refine sx_wr (hp:=by exact zCV) ?_)
     | (refine is_s 10 ?_ rfl; first | refine sx_p (hp:=by exact au_p10) ?_ | refine sx_wp (hp:=by exact zDF) ?_)
     | (refine is_s 8 ?_ rfl; refine sx_wp (hp:=by exact au_wp8) ?_)
     | (refine is_s 20 ?_ rfl; first | refine sx_p (hp:=by exact au_p20) ?_ | refine sx_wr (hp:=by exact zCW) ?_)
     | (refine is_s 27 ?_ rfl; refine sx_wp (hp:=by exact zDK) ?_)
     | (refine is_s 4 ?_ rfl; first | refine sx_p (hp:=by exact au_p4) ?_ | refine sx_wp (hp:=by exact au_wp4) ?_)
     | (refine is_s 1 ?_ rfl; refine sx_p (hp:=by exact au_p1) ?_)
     | (refine is_s 6 ?_ rfl; refine sx_p (hp:=by exact au_p6) ?_)
     | (refine is_s 28 ?_ rfl; refine sx_wp (hp:=by exact zDL) ?_)
     | (refine is_s 11 ?_ rfl; first | refine sx_wp (hp:=by exact zDG) ?_ | refine sx_p (hp:=by exact au_p11) ?_ | refine sx_wr (hp:=by exact zCU) ?_)
     | (refine is_s 26 ?_ rfl; first | refine sx_wp (hp:=by exact zDJ) ?_ | refine sx_p (hp:=by exact au_p26) ?_)
     | (refine is_s 12 ?_ rfl; first | refine sx_wp (hp:=by exact zDH) ?_ | refine sx_p (hp:=by exact au_p12) ?_)
     | (refine is_s 5 ?_ rfl; refine sx_p (hp:=by exact au_p5) ?_)
     | (refine is_s 7 ?_ rfl; refine sx_wp (hp:=by exact au_wp7) ?_)
     | (refine is_s 9 ?_ rfl; refine sx_wp (hp:=by exact au_wp9) ?_)
     | (refine is_s 14 ?_ rfl; first | refine sx_wr (hp:=by exact wr_rd (zAZ rfl rfl rfl)) ?_ | (refine sx_wr (hp:=by exact wr_rd2 (zAZ rfl rfl rfl)) ?_; intro u; refine an_2 ?_))
     | (refine is_s 21 ?_ rfl; refine sx_wp (hp:=by exact zDI) ?_)
     | (refine is_s 25 ?_ rfl; refine sx_wr (hp:=by exact zCX) ?_)
     | (refine sx_ite ?_ ?_ <;> (intro hb; refine zDE ?_; intro a w hs; try rw [hb] at hs; clear hb; revert hs; revert w; revert a; refine gx_unf ?_)))
   | refine bx_b ?_
   | refine bj_b ?_
   | exact zJQ
   | refine zCT ?_) :
  CallF P f args.toArray kk w:=zLg n hk hf h hb hn hl
end Go.Sep
namespace Go.Proofs.YtdemfamgieonbaaGreat
open Go Go.Sep
set_option maxRecDepth 100000
set_option maxHeartbeats 4000000
attribute [local irreducible] Do2
attribute [local irreducible] G Gp Cx Tx Ex Sx Dx Ox Ax Lx Rx Fx Bx Bj Al Do Ld LdN St StN New CallF Ar DoU Rd Rd2 Pu Cd Ite Fv CallV CallY Ans0 Ans1 Ans2 Ans3 Ans4 Ans5 Ext Dead Dr WithS Sv LdS LdNS RdS Rd2S Nn Idx IdxA IdxS Fld Bld Slc SlcS Cat All LoopK RangeF RangeJ TakeD
namespace F_IRFilter
instance at_37:AT Tryz.prog 37 4:=⟨by kernel_rfl⟩
instance at_40:AT Tryz.prog 40 10:=⟨by kernel_rfl⟩
instance cb_13:CB Tryz.prog 13:=⟨by kernel_rfl⟩
instance cb_14:CB Tryz.prog 14:=⟨by kernel_rfl⟩
instance cb_48:CB Tryz.prog 48:=⟨by kernel_rfl⟩
instance cb_93:CB Tryz.prog 93:=⟨by kernel_rfl⟩
instance cb_94:CB Tryz.prog 94:=⟨by kernel_rfl⟩
instance ct_196:CT Tryz.prog 196:=⟨by kernel_rfl⟩
instance ct_3:CT Tryz.prog 3:=⟨by kernel_rfl⟩
instance zUn:FT Tryz.prog 200 0 0 1:=⟨by kernel_rfl⟩
instance zUo:FT Tryz.prog 200 1 1 1:=⟨by kernel_rfl⟩
instance zUp:FT Tryz.prog 200 2 2 1:=⟨by kernel_rfl⟩
instance zHS:FT Tryz.prog 40 0 0 4:=⟨by kernel_rfl⟩
instance zLx:FT Tryz.prog 48 0 0 1:=⟨by kernel_rfl⟩
instance zJr:FT Tryz.prog 48 1 1 1:=⟨by kernel_rfl⟩
instance zLy:FT Tryz.prog 48 2 2 10:=⟨by kernel_rfl⟩
instance mx:MX Tryz.prog:=⟨mixed⟩
instance pl_200:PLT Tryz.prog 200 [(0,1),(1,1),(2,1)]:=⟨_,Tryz.underlying200,by kernel_rfl⟩
instance sz_3:SZ Tryz.prog 3 1:=⟨by kernel_rfl⟩
instance zt_200:ZT Tryz.prog 200 (.agg #[(.int .i64 0),(.int .i64 0),(.map none)]):=⟨Tryz.t200,by kernel_rfl,by kernel_rfl⟩
end F_IRFilter
def zDN (region0:Int) (Q:(Option Addr)→K):K :=
 Do Tryz.prog (Instr.makeMap 196 none) Value.map fun t4 =>
 New 200 #[(.int .i64 region0),(.int .i64 (-1)),(.map t4)] fun t6 =>
 Q (some t6)
theorem zGi (region0:Int) (Q:(Option Addr)→K) (w:World) (h:zDN region0 Q w):zDN.call region0 Q w:=by
 exact g_walk 7 h Tryz.func48
def zAq.s2 (Q:Bool→K)  (f0_2:Addr) (i3_2:Addr) (t30_2:Bool):K :=
 Ite t30_2
  (Ld (i3_2.add 1) (Value.int .i64) fun t49 =>
  St (f0_2.add 1) (.int .i64 t49) <|
  Q true)
  (Q false)
def zAq.s1 (Q:Bool→K)  (f0_1:Addr) (i3_1:Addr) (single5_1:Bool) (t18_1:Bool):K :=
 Ite t18_1
  (LdN (i3_1.add 2) 4 fun t28 =>
  zCF.call (some f0_1) t28 fun t29 =>
  Q t29)
  (Dr <|
  Ld i3_1 (Value.int .i64) fun t32 =>
  Ite (decide (t32 = 2))
   (Ite (!single5_1)
    (Ld (i3_1.add 1) (Value.int .i64) fun t40 =>
    Ld (f0_1.add 1) (Value.int .i64) fun t44 =>
    zAq.s2 Q f0_1 i3_1 (decide (t44 < t40)))
    (zAq.s2 Q f0_1 i3_1 false))
   (zAq.s2 Q f0_1 i3_1 false))
def zAq (f0:(Option Addr)) (i1:(Array Value)) (Q:Bool→K):K :=
 New 48 i1 fun i3 =>
 Dr <| WithS fun S =>
 Nn f0 fun t10 =>
 LdNS S (i3.add 2) 10 fun t7 =>
 LdS S t10 (Value.int .i64) fun t12 =>
 zBM.call t7 fun t8 =>
 Sv S <|
 zBs.call t8 t12 fun t13 =>
 Ite (!t13)
  (Q false)
  (LdN (i3.add 2) 10 fun t16 =>
  zB8.call t16 fun t17 =>
  Ld i3 (Value.int .i64) fun t20 =>
  Ite (decide (t20 = 1))
   (zAq.s1 Q t10 i3 t17 t17)
   (zAq.s1 Q t10 i3 t17 false))
theorem zHX (f0:(Option Addr)) (i1:(Array Value)) (Q:Bool→K) (w:World) (h:zAq f0 i1 Q w):zAq.call f0 i1 Q w:=by
 have hJ7:JH 7 fun D=>∃ (f0_2:Addr) (i3_2:Addr),D [(0,(.pointer (some f0_2))),(3,(.pointer (some i3_2)))] (fun C=>∀ (t30_2:Bool),C [(0,(.pointer (some f0_2))),(3,(.pointer (some i3_2))),(30,(.bool t30_2))] (zAq.s2 Q f0_2 i3_2 t30_2)):=by intros; exact ⟨fun _ ⟨_,_,h⟩=>⟨_,_,h⟩⟩
 have hJ5:JH 5 fun D=>∃ (f0_1:Addr) (i3_1:Addr),D [(0,(.pointer (some f0_1))),(3,(.pointer (some i3_1)))] (fun C=>∀ (single5_1:Bool) (t18_1:Bool),C [(0,(.pointer (some f0_1))),(3,(.pointer (some i3_1))),(5,(.bool single5_1)),(18,(.bool t18_1))] (zAq.s1 Q f0_1 i3_1 single5_1 t18_1)):=by intros; exact ⟨fun _ ⟨_,_,h⟩=>⟨_,_,h⟩⟩
 have hD1:DH 1 2 [7] (.s [0,3,4,5,1,6] (.a [(2,1,.a [(7,0,.s [8] .e)])])):=by intros; exact ⟨⟩
 exact g_walk 52 h Tryz.func55
def zF7 (f0:(Option Addr)) (Q:Int→K):K :=
 Nn f0 fun t4 =>
 Ld (t4.add 1) (Value.int .i64) fun t6 =>
 Q t6
def zCF (f0:(Option Addr)) (tag1:(Array Value)) (Q:Bool→K):K :=
 New 37 tag1 fun tag3 =>
 Dr <| WithS fun S =>
 Nn f0 fun t6 =>
 LdS S (t6.add 2) Value.map fun t8 =>
 LdNS S tag3 4 fun t9 =>
 RdS Tryz.prog S (Instr.lookup 196 (.map t8) (.agg t9) false) (Value.int .i64) fun t10 =>
 Ar (IntKind.wrap .i64 (t10 + 1)) fun t11 =>
 Do2 Tryz.prog (Instr.mapEntry 196 (.map t8) (.agg t9)) (fun x y=>.tuple #[(Value.int .i64) x,.int .i64 y]) fun t12v t12st =>
 Sv S <|
 DoU Tryz.prog (Instr.entryStore 196 (.map t8) (.int .i64 t12st) (.int .i64 t11)) <|
 Dr <|
 Ld (t6.add 2) Value.map fun t17 =>
 LdN tag3 4 fun t18 =>
 Rd Tryz.prog (Instr.lookup 196 (.map t17) (.agg t18) false) (Value.int .i64) fun t19 =>
 Q (decide (t19 = 1))
theorem zHC (f0:(Option Addr)) (tag1:(Array Value)) (Q:Bool→K) (w:World) (h:zCF f0 tag1 Q w):zCF.call f0 tag1 Q w:=by
 have hD1:DH 1 2 [9] (.s [0,1,2,3,4,5,6] (.a [(7,1,.s [8] (.a [(9,0,.e)]))])):=by intros; exact ⟨⟩
 exact zTb 21 h Tryz.func94
def zIV  (Q:(Option Addr)→K):K :=
 zDN.call (-1) fun t1 =>
 Q t1
def zDR.s1 (Q:Bool→K)  (t4_1:Bool):K :=
 Q t4_1
def zDR (f0:(Option Addr)) (o1:(Array Value)) (Q:Bool→K):K :=
 New 40 o1 fun o3 =>
 LdN o3 10 fun t5 =>
 zB8.call t5 fun t6 =>
 Ite (!t6)
  (LdN o3 4 fun t11 =>
  zCF.call f0 t11 fun t12 =>
  zDR.s1 Q t12)
  (zDR.s1 Q false)
end Go.Proofs.YtdemfamgieonbaaGreat
