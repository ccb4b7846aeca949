/- Texts of the claim LocksLeave, one behind the other. -/
import Derived.Test.YtfjjocopmknhgaaGreatLocksLeaveM5
/- One that leaves. -/
namespace Go.Proofs.YtfjjocopmknhgaaGreat
open Go Go.Sep Go.Sep.Bt
set_option linter.unusedSimpArgs false
set_option linter.unusedVariables false
set_option linter.unusedSectionVars false
set_option maxRecDepth 100000
theorem at_leave {tag : TagM} {M : GM} {dm : DM} {key : List UInt8} : atM key (leaveM tag (M, dm)).1 = (noT tag (atM key M).1, noT tag (atM key M).2) := by
  unfold leaveM atM
  simp only
  rw [show mget key (M.map fun p => (p.1, (noT tag p.2.1, noT tag p.2.2))) = (mget key M).map fun v => (noT tag v.1, noT tag v.2) from mget_map (fun v : List Claim × List Claim => (noT tag v.1, noT tag v.2)) key M]
  cases mget key M <;> rfl
theorem noT_fst (tag : TagM) (L : List Claim) : (noT tag L).map Prod.fst = (L.map Prod.fst).filter fun t => !decide (t = tag) := by
  unfold noT
  rw [List.filter_map]; rfl
theorem noT_none (tag : TagM) (L : List Claim) : tag ∉ (noT tag L).map Prod.fst := by
  rw [noT_fst]; simp
theorem idx_none {tag : TagM} {L : List TagM} (h : tag ∉ L) : (L.findIdx? fun t => decide (t = tag)) = none := by
  rw [List.findIdx?_eq_none_iff]
  intro t ht
  simp only [decide_eq_false_iff_not]
  rintro rfl
  exact h ht
theorem ahead_leave {tag : TagM} {M : GM} {dm : DM} : aheadM tag (leaveM tag (M, dm)).1 = [] := by
  unfold aheadM
  have : ∀ (K : List (List UInt8)), K.foldl (fun out key => (fore tag (lineT (leaveM tag (M, dm)).1 key)).foldl addT out) [] = [] := fun K => by
    induction K with
    | nil => rfl
    | cons key K ih =>
      rw [List.foldl_cons]
      rw [show fore tag (lineT (leaveM tag (M, dm)).1 key) = [] by
        unfold fore lineT
        rw [at_leave, idx_none (noT_none tag _)]; rfl]
      exact ih
  exact this _
theorem ready_leave {tag : TagM} {M : GM} {dm : DM} : readyM tag (leaveM tag (M, dm)).1 = true := by
  unfold readyM
  rw [List.all_eq_true]
  intro p hp
  obtain ⟨q, _, rfl⟩ := List.mem_map.1 hp
  have h1 : hasT tag (noT tag q.2.2) = false := by
    unfold hasT noT
    rw [List.any_eq_false]
    intro c hc
    have := (List.mem_filter.1 hc).2
    simpa using this
  have h2 : ((noT tag q.2.1).findIdx? fun c => decide (c.1 = tag)) = none := by
    rw [List.findIdx?_eq_none_iff]
    intro c hc
    unfold noT at hc
    have := (List.mem_filter.1 hc).2
    simpa using this
  unfold readyG
  rw [h1, h2]; rfl
theorem SzS.mono {T W T' W' : Nat} {y : SX} (h : SzS T W y) (h1 : T ≤ T') (h2 : W ≤ W') : SzS T' W' y := ⟨Nat.le_trans h.gl h1, gs_up h.gs h1, Nat.le_trans h.rs h1, Nat.le_trans h.rd h2, Nat.le_trans h.sl h1⟩
theorem mapTS : mapIs Tryz.prog ty_map_string_s_api_Tag .string ty_s_api_Tag := ⟨ty_string, by kernel_rfl, by kernel_rfl⟩
section
variable {B : World} {Γ Δ : List HProp} {q : Bool → K}
theorem great16_hg {L : List OpY} {ss : Sl} {Q : Bool → K} (hr : ∀ w, Holds B Γ w → RdC w ss 8 (L.flatMap opyF)) (hm : ∀ o ∈ L, ∀ w, Holds B Γ w → RdC w o.ms 3 (o.marks.flatMap markF)) (hyes : HG B Γ (Q true)) (hno : L.length ≤ 60 → (∀ o ∈ L, okOp o) → HG B Γ (Q false)) : HG B Γ (law16_great.call ss Q) := fun w hw => by
  refine law16_great_ok _ _ _ ?_
  have ln : ss.n = L.length := rd_len opyF_len (by omega) (hr w hw)
  have lm : ∀ o ∈ L, o.ms.n = o.marks.length := fun o ho => rd_len markF_len (by omega) (hm o ho w hw)
  refine hg hw ?_
  clear hw w
  unfold law16_great
  refine s_ite (fun hb => hyes) fun hb => ?_
  have hL : L.length ≤ 60 := by simp only [decide_eq_false_iff_not] at hb; omega
  refine s_loop (α := Int) (ι := Nat) (fun z i => z = (i : Int) ∧ i ≤ L.length ∧ ∀ o ∈ L.take i, okOp o) (fun z i => Γ) (fun z i => L.length - i) 0 ⟨rfl, Nat.zero_le _, by simp⟩ ?_
  rintro k' _ i ⟨rfl, hi, hok⟩ hk'
  unfold law16_great.b1
  refine s_ite (fun hb => ?_) fun hb => ?_
  rotate_left
  · have hil : i = L.length := by simp only [decide_eq_false_iff_not] at hb; omega
    rw [hil, List.take_length] at hok
    exact hno hL hok
  have hil : i < L.length := by simp only [decide_eq_true_eq] at hb; omega
  have htk := List.take_succ_eq_append_getElem hil
  have hge : L[i]? = some L[i] := List.getElem?_eq_getElem hil
  have hmem : L[i] ∈ L := List.getElem_mem hil
  generalize L[i] = o at htk hge hmem
  have hmn := lm o hmem
  refine s_idxN opyF opyF_len hr hge ?_
  refine s_new fun o4 => ?_
  refine s_stN (b := o4) (l' := opyF o) ?_
  refine s_ld (b := o4) (x := o.ms) ?_
  have out : HG B (blk o4 (.cells (opyF o).toArray ty_argosylaw16_Op (0, 0)) :: Γ) (law16_great.s2 Q k' ⟨o4, 0, none⟩ ss (ss.n : Int) (i : Int) true) := by
    unfold law16_great.s2
    refine s_t ?_
    exact s_end hyes
  refine s_ite (fun hp => out) fun hp => ?_
  have h20 : o.marks.length ≤ 20 := by simp only [decide_eq_false_iff_not] at hp; omega
  refine s_ld (b := o4) (x := bs o.key) ?_
  by_cases hk : 100 < o.key.length
  · rw [show decide ((100 : Int) < ((bs o.key).size : Int)) = true by simp only [decide_eq_true_eq]; show (100 : Int) < (o.key.length : Int); omega]
    exact out
  rw [show decide ((100 : Int) < ((bs o.key).size : Int)) = false by simp only [decide_eq_false_iff_not]; show ¬ (100 : Int) < (o.key.length : Int); omega]
  unfold law16_great.s2
  refine s_f ?_
  refine s_ld (b := o4) (x := o.ms) ?_
  refine s_end (Δ := Γ) ?_
  refine s_loop (α := Int) (ι := Nat) (fun z j => z = (j : Int) ∧ j ≤ o.marks.length ∧ ∀ m ∈ o.marks.take j, m.key.length ≤ 100) (fun z j => Γ) (fun z j => o.marks.length - j) 0 ⟨rfl, Nat.zero_le _, by simp⟩ ?_
  rintro k2 _ j ⟨rfl, hj, hmk⟩ hk2
  unfold law16_great.b3
  refine s_ite (fun hb => ?_) fun hb => ?_
  rotate_left
  · have hjl : j = o.marks.length := by simp only [decide_eq_false_iff_not] at hb; omega
    rw [hjl, List.take_length] at hmk
    refine s_ai ?_
    refine hk' ((i : Int) + 1) (i + 1) ⟨by simp, hil, fun z hz => ?_⟩ (by omega)
    rw [htk] at hz
    rcases List.mem_append.1 hz with hz | hz
    · exact hok z hz
    · rw [List.mem_singleton.1 hz]; exact ⟨h20, by omega, hmk⟩
  have hjl : j < o.marks.length := by simp only [decide_eq_true_eq] at hb; omega
  have htk2 := List.take_succ_eq_append_getElem hjl
  have hge2 : o.marks[j]? = some o.marks[j] := List.getElem?_eq_getElem hjl
  generalize o.marks[j] = mk at htk2 hge2
  refine s_idxN markF markF_len (hm o hmem) hge2 ?_
  refine s_new fun m6 => ?_
  refine s_stN (b := m6) (l' := markF mk) ?_
  refine s_ld (b := m6) (x := bs mk.key) ?_
  refine s_ite (fun hp => s_end hyes) fun hp => ?_
  have hp' : ¬ (100 : Int) < (mk.key.length : Int) := by
    have h9 := hp
    simp only [decide_eq_false_iff_not] at h9
    exact h9
  refine s_ai ?_
  refine s_end (hk2 ((j : Int) + 1) (j + 1) ⟨by simp, hjl, fun z hz => ?_⟩ (by omega))
  rw [htk2] at hz
  rcases List.mem_append.1 hz with hz | hz
  · exact hmk z hz
  · rw [List.mem_singleton.1 hz]; omega
end
section
variable {B : World} {Γ Δ : List HProp} {k : K} {l gm db st n : Nat} {M : GM} {dm : DM} {X : GX} {D : List (TagM × Int)} {S : Recs} {tag : TagM}
theorem parked_hg {key : List UInt8} {N : Nat} {Q : Sl → K} (hN : gsz M N) (hNl : N ≤ 1000000) (h : ∀ s, HG B (SlC ty_api_Tag 4 s (((atM key M).2.map Prod.fst).flatMap tagF) :: LocksR l M dm :: Γ) (Q s)) : HG B (LocksR l M dm :: Γ) (locks_Locks_Parked.call (some ⟨l, 0, none⟩) (bs key) Q) := by
  refine fun w hw => locks_Locks_Parked_ok _ _ _ _ ?_
  refine hg hw ?_
  clear hw w
  have hz := gsz_at (k := key) hN
  refine s_locks fun gm db X D hf => ?_
  unfold locks_Locks_Parked
  repeat refine s_nx ?_
  refine gateLook (X := X) ?_
  rw [gate_at hf] at h hz
  cases hm : mget key X with
  | none =>
    rw [hm] at h
    simp only [Option.map_none, Option.getD_none, List.map_nil, List.flatMap_nil] at h
    refine s_f ?_
    refine fun w hw => ?_
    refine hg (show Holds B (SlC ty_api_Tag 4 ⟨none, 0, 0⟩ [] :: _) w from hw.nilSl _ _) ?_
    clear hw w
    refine s_own db ?_
    refine s_pick (Sep.stars (X.map gB)) ?_
    refine s_own gm ?_
    refine s_own l ?_
    exact s_mkLocks hf (s_end (h ⟨none, 0, 0⟩))
  | some g =>
    rw [hm] at h hz
    simp only [Option.map_some, Option.getD_some] at h hz
    obtain ⟨A, C, hX⟩ := mget_split hm
    simp only [Option.map_some]
    refine s_t ?_
    refine s_pick (Sep.stars (X.map gB)) ?_
    refine s_pickG hX ?_
    repeat refine s_nx ?_
    refine tags_hg (L := g.park) (by omega) (fun w hw => (own_rd (s := g.ps) hw).1) fun s' => ?_
    refine s_pick (Sep.stars ((A ++ C).map gB)) ?_
    refine s_ownS g.ps ?_
    refine s_ownS g.ls ?_
    refine s_own g.b ?_
    refine s_unpickG (key := key) ?_
    rw [← hX]
    refine s_own db ?_
    refine s_pick (Sep.stars (X.map gB)) ?_
    refine s_own gm ?_
    refine s_own l ?_
    exact s_mkLocks hf (s_end (h s'))
end
section
variable {B : World} {Γ Δ : List HProp} {q : Bool → K}
abbrev qB (M : GM) (p : List UInt8 × Sl) : HProp := SlC ty_api_Tag 4 p.2 (((atM p.1 M).1.map Prod.fst).flatMap tagF)
/-- All lines are compared. -/
theorem leave_b5 {l bm g3 : Nat} {gone : TagM} {M : GM} {dm : DM} {W : List (List UInt8 × Sl)} {X2 X3 : Int → K} (hz : gsz M 2000) (h : HG B Γ (q true)) :
    HG B (MapR strV Sl.val bm W :: Sep.stars (W.map (qB M)) :: LocksR l (leaveM gone (M, dm)).1 (leaveM gone (M, dm)).2 :: blk g3 (.cells (tagF gone).toArray ty_api_Tag (0, 0)) :: Γ) (law16_LocksLeave.s4 q X2 X3 ⟨g3, 0, none⟩ (some ⟨l, 0, none⟩) (some bm) false) := by
  have hz' : gsz (leaveM gone (M, dm)).1 2000 := by
    refine ⟨by simpa [leaveM] using hz.1, fun p hp => ?_⟩
    obtain ⟨r, hr, rfl⟩ := List.mem_map.1 hp
    have h1 := hz.2 r hr
    exact ⟨Nat.le_trans (List.length_filter_le _ _) h1.1, Nat.le_trans (List.length_filter_le _ _) h1.2⟩
  unfold law16_LocksLeave.s4
  refine s_f ?_
  refine s_range mapTS fun r => ?_
  refine s_loop (α := Unit) (ι := List (List UInt8 × Sl) × Option (List UInt8 × Sl)) (fun _ i => True)
    (fun _ i => MapIt strV Sl.val bm r W i.1 i.2 :: Sep.stars (W.map (qB M)) :: LocksR l (leaveM gone (M, dm)).1 (leaveM gone (M, dm)).2 :: blk g3 (.cells (tagF gone).toArray ty_api_Tag (0, 0)) :: Γ) (fun _ i => i.1.length) (W, none) trivial ?_ |> fun h => s_end h
  rintro k' _ ⟨left, cur⟩ _ hk'
  simp only at hk' ⊢
  unfold law16_LocksLeave.b5
  refine s_next (r := r) (fun hl0 => ?_) fun l1 p l2 hl1 hp => ?_
  · repeat refine s_nx ?_
    exact s_end h
  obtain ⟨A, C, hW⟩ := List.append_of_mem hp
  have hline : (atM p.1 M).1.length ≤ 2000 := (gsz_at hz).1
  repeat refine s_nx ?_
  refine s_entry (r := r) (q := p) ?_
  repeat refine s_nx ?_
  refine s_new fun t91 => ?_
  refine s_slc0 (esz := 4) ?_
  have S8 : HG B (MapIt strV Sl.val bm r W (l1 ++ l2) (some p) :: Sep.stars (W.map (qB M)) :: LocksR l (leaveM gone (M, dm)).1 (leaveM gone (M, dm)).2 :: blk g3 (.cells (tagF gone).toArray ty_api_Tag (0, 0)) :: Γ) (k' ()) := hk' () (l1 ++ l2, some p) trivial (by rw [hl1]; simp)
  obtain ⟨kk, sl⟩ := p
  simp only at hline S8 ⊢
  generalize hLN : (atM kk M).1.map Prod.fst = LN
  have hLNl : LN.length ≤ 2000 := by rw [← hLN]; simpa using hline
  refine s_pick (Sep.stars (W.map (qB M))) ?_
  rw [hW] at S8 ⊢
  have hq : qB M (kk, sl) = SlC ty_api_Tag 4 sl (LN.flatMap tagF) := by show SlC ty_api_Tag 4 sl (((atM kk M).1.map Prod.fst).flatMap tagF) = _; rw [hLN]
  refine s_mid (F := qB M) ?_
  rw [hq]
  refine s_end (Δ := SlC ty_api_Tag 4 ⟨some ⟨t91, 0, none⟩, 0, 0⟩ [] :: SlC ty_api_Tag 4 sl (LN.flatMap tagF) :: Sep.stars ((A ++ C).map (qB M)) :: MapIt strV Sl.val bm r (A ++ (kk, sl) :: C) (l1 ++ l2) (some (kk, sl)) :: LocksR l (leaveM gone (M, dm)).1 (leaveM gone (M, dm)).2 :: blk g3 (.cells (tagF gone).toArray ty_api_Tag (0, 0)) :: Γ) ?_
  refine s_cap sl fun a1 a2 a3 a4 => ?_
  rw [flatMap_len _ 4 tagF_len] at a1
  refine s_loop (α := Sl × Int) (ι := Nat) (fun z i => z.2 = (i : Int) ∧ i ≤ LN.length) (fun z i => SlC ty_api_Tag 4 z.1 (((LN.take i).filter fun t => !decide (t = gone)).flatMap tagF) :: SlC ty_api_Tag 4 sl (LN.flatMap tagF) :: Sep.stars ((A ++ C).map (qB M)) :: MapIt strV Sl.val bm r (A ++ (kk, sl) :: C) (l1 ++ l2) (some (kk, sl)) :: LocksR l (leaveM gone (M, dm)).1 (leaveM gone (M, dm)).2 :: blk g3 (.cells (tagF gone).toArray ty_api_Tag (0, 0)) :: Γ) (fun z i => LN.length - i) 0 ⟨rfl, Nat.zero_le _⟩ ?_
  rintro k2 ⟨o, _⟩ i ⟨rfl, hi⟩ hk2
  simp only at hi hk2 ⊢
  refine s_cap o fun b1 b2 b3 b4 => ?_
  rw [flatMap_len _ 4 tagF_len] at b1
  have ho : ((LN.take i).filter fun t => !decide (t = gone)).length ≤ i := by
    have h1 := List.length_filter_le (fun t : TagM => !decide (t = gone)) (LN.take i)
    rw [List.length_take] at h1
    omega
  unfold law16_LocksLeave.b6
  refine s_ite (fun hb => ?_) fun hb => ?_
  · have hil : i < LN.length := by simp only [decide_eq_true_eq] at hb; omega
    have htk := List.take_succ_eq_append_getElem hil
    have hge : LN[i]? = some LN[i] := List.getElem?_eq_getElem hil
    generalize LN[i] = t at htk hge
    refine s_idxN tagF tagF_len (fun w hw => (own_rd (s := sl) hw).1) hge ?_
    refine s_new fun x19 => ?_
    refine s_stN (b := x19) (l' := tagF t) ?_
    refine s_ldN (b := x19) (l' := tagF t) ?_
    refine s_ldN (b := g3) (l' := tagF gone) ?_
    refine s_neS (xs := tagF t) (ys := tagF gone) (ks := tagK) tagF_inj ?_
    by_cases hx : t = gone
    · refine s_f ?_ (by simp [hx])
      unfold law16_LocksLeave.s7
      refine s_ai ?_
      have hfin := hk2 (o, (i : Int) + 1) (i + 1) ⟨by simp, hil⟩ (by omega)
      rw [show (LN.take (i + 1)).filter (fun t => !decide (t = gone)) = (LN.take i).filter fun t => !decide (t = gone) by rw [htk]; simp [hx]] at hfin
      exact s_end hfin
    · refine s_t ?_ (by simp [hx])
      refine s_ldN (b := x19) (l' := tagF t) ?_
      refine s_bld1 ?_
      refine s_app1 (s := o) (m := 1) (us := tagF t) (fun o2 ho2 => ?_)
      unfold law16_LocksLeave.s7
      refine s_ai ?_
      have hfin := hk2 (o2, (i : Int) + 1) (i + 1) ⟨by simp, hil⟩ (by omega)
      rw [show ((LN.take (i + 1)).filter fun t => !decide (t = gone)).flatMap tagF = ((LN.take i).filter fun t => !decide (t = gone)).flatMap tagF ++ tagF t by rw [htk]; simp [hx, List.flatMap_append]] at hfin
      exact s_end hfin
  · have hil : i = LN.length := by simp only [decide_eq_false_iff_not] at hb; omega
    rw [hil, List.take_length] at ho b1 ⊢
    refine s_dr ?_
    refine s_wsP (fun w => RdN w ⟨g3, 0, none⟩ (tagF gone).toArray) (fun w hw => rd_at (b := g3) (l := tagF gone) (n := 4) hw) ?_
    refine s_own l ?_
    refine queue_hg hz' (by omega) fun s1 => ?_
    rw [at_leave]
    simp only
    rw [noT_fst, hLN]
    refine s_svP (fun w hw => rd_at (b := g3) (l := tagF gone) (n := 4) hw) ?_
    refine same16_hg (L1 := LN.filter fun t => !decide (t = gone)) (L2 := LN.filter fun t => !decide (t = gone)) (by omega) (fun w hw => (own_rd (s := s1) hw).1) (fun w hw => (own_rd (s := o) hw).1) ?_
    refine s_svP (fun w hw => rd_at (b := g3) (l := tagF gone) (n := 4) hw) ?_
    refine s_f ?_ (by simp)
    refine s_ldNSP (l := tagF gone) (fun w hS => hS) ?_
    refine s_own l ?_
    refine parked_hg hz' (by omega) fun s2 => ?_
    rw [at_leave]
    simp only
    refine s_svP (fun w hw => rd_at (b := g3) (l := tagF gone) (n := 4) hw) ?_
    have hpk : ((noT gone (atM kk M).2).map Prod.fst).length ≤ 2000 := by
      rw [List.length_map]
      exact Nat.le_trans (List.length_filter_le _ _) (gsz_at (k := kk) hz).2
    refine in16_hg (L := (noT gone (atM kk M).2).map Prod.fst) (by omega) (fun w hw => (own_rd (s := s2) hw).1) ?_
    rw [show decide (gone ∈ (noT gone (atM kk M).2).map Prod.fst) = false by simpa only [decide_eq_false_iff_not] using noT_none gone _]
    unfold law16_LocksLeave.s8
    refine s_f ?_
    refine s_end (Δ := SlC ty_api_Tag 4 sl (LN.flatMap tagF) :: Sep.stars ((A ++ C).map (qB M)) :: MapIt strV Sl.val bm r (A ++ (kk, sl) :: C) (l1 ++ l2) (some (kk, sl)) :: LocksR l (leaveM gone (M, dm)).1 (leaveM gone (M, dm)).2 :: blk g3 (.cells (tagF gone).toArray ty_api_Tag (0, 0)) :: Γ) ?_
    rw [← hq]
    refine s_unmid (F := qB M) ?_
    exact s_end S8
theorem LocksLeave_hg {L : List OpY} {ss : Sl} {gone : TagM} (hr : RdC B ss 8 (L.flatMap opyF)) (hm : ∀ o ∈ L, RdC B o.ms 3 (o.marks.flatMap markF)) (h : HG B Γ (q true)) : HG B Γ (law16_LocksLeave.call ss (tagF gone).toArray q) := fun w hw => by
  refine law16_LocksLeave_ok _ _ _ _ ?_
  have ln : ss.n = L.length := rd_len opyF_len (by omega) hr
  refine hg hw ?_
  clear hw w
  unfold law16_LocksLeave
  refine s_new fun g3 => ?_
  refine speaks16 ?_
  refine s_f ?_
  refine great16_hg (L := L) (fun w hw => hr.old hw) (fun o ho w hw => (hm o ho).old hw) (s_t (s_end h)) fun hL60 hok => ?_
  refine s_f ?_
  refine storeNew_spec (n := 3) (by omega) (by omega) fun st => ?_
  refine locksNew_hg fun l => ?_
  refine new6_hg (n := 3) (P := []) (by omega) (by omega) fun t => ?_
  refine new16_hg fun m => ?_
  refine s_f ?_
  unfold law16_LocksLeave.s1
  refine s_f ?_
  refine s_end (Δ := sxL l st t m [] ⟨[], fun _ => false, [], ⟨[], [], []⟩⟩ (blk g3 (.cells (tagF gone).toArray ty_api_Tag (0, 0)) :: Γ)) ?_
  refine s_loop (α := Int) (ι := Nat × SX) (fun z i => z = (i.1 : Int) ∧ i.1 ≤ L.length ∧ SzS (20 * i.1) (1300 * i.1) i.2) (fun z i => sxL l st t m [] i.2 (blk g3 (.cells (tagF gone).toArray ty_api_Tag (0, 0)) :: Γ)) (fun z i => L.length - i.1) (0, ⟨[], fun _ => false, [], ⟨[], [], []⟩⟩) ⟨rfl, Nat.zero_le _, by simp, by simp, by simp, by simp, by simp⟩ ?_
  rintro k' _ ⟨i, y⟩ ⟨rfl, hi, hsz⟩ hk'
  simp only at hi hsz hk' ⊢
  unfold law16_LocksLeave.b2
  refine s_ite (fun hb => ?_) fun hb => ?_
  · have hil : i < L.length := by simp only [decide_eq_true_eq] at hb; omega
    have hge : L[i]? = some L[i] := List.getElem?_eq_getElem hil
    have hmem : L[i] ∈ L := List.getElem_mem hil
    generalize L[i] = o at hge hmem
    refine s_idxN opyF opyF_len (fun w hw => hr.old hw) hge ?_
    refine s_new fun o11 => ?_
    refine s_stN (b := o11) (l' := opyF o) ?_
    refine s_ldN (b := o11) (l' := opyF o) ?_
    refine s_end (Δ := sxL l st t m [] y (blk g3 (.cells (tagF gone).toArray ty_api_Tag (0, 0)) :: Γ)) ?_
    refine step16_hg (o := o) (hok o hmem) (fun w hw => (hm o hmem).old hw) hsz (by omega) (by omega) ?_
    refine s_ai ?_
    exact hk' ((i : Int) + 1) (i + 1, stp o y) ⟨by simp, hil, (hsz.step (hok o hmem)).mono (by omega) (by omega)⟩ (by simp only; omega)
  have hz : gsz y.m 1200 := gsz_le hsz.gsz (by omega)
  obtain ⟨M, dm, S, x⟩ := y
  simp only at hz
  refine s_mkMap (enc := strV) (cV := Sl.val) fun bm => ?_
  refine s_own l ?_
  refine keys_hg hz (by omega) fun sk => ?_
  have hKl : (keysM M).length ≤ 1200 := by
    unfold keysM
    refine Nat.le_trans (List.length_filter_le _ _) ?_
    unfold sortL
    rw [List.length_mergeSort, List.length_map]
    exact hz.1
  generalize keysM M = K at hKl ⊢
  refine s_cap sk fun a1 a2 a3 a4 => ?_
  rw [List.length_map] at a1
  refine fun w hw => ?_
  refine Sep.hg (show Holds B (Sep.stars (([] : List (List UInt8 × Sl)).map (qB M)) :: _) w from hw.starsNil) ?_
  clear hw w
  refine s_end (Δ := MapR strV Sl.val bm ([] : List (List UInt8 × Sl)) :: Sep.stars (([] : List (List UInt8 × Sl)).map (qB M)) :: LocksR l M dm :: SlS sk K :: blk g3 (.cells (tagF gone).toArray ty_api_Tag (0, 0)) :: Γ) ?_
  refine s_loop (α := Int) (ι := Nat × List (List UInt8 × Sl)) (fun z i => z = (i.1 : Int) ∧ i.1 ≤ K.length) (fun z i => MapR strV Sl.val bm i.2 :: Sep.stars (i.2.map (qB M)) :: LocksR l M dm :: SlS sk K :: blk g3 (.cells (tagF gone).toArray ty_api_Tag (0, 0)) :: Γ) (fun z i => K.length - i.1) (0, []) ⟨rfl, Nat.zero_le _⟩ ?_
  rintro k2 _ ⟨j, W⟩ ⟨rfl, hj⟩ hk2
  simp only at hj hk2 ⊢
  unfold law16_LocksLeave.b3
  refine s_ite (fun hb2 => ?_) fun hb2 => ?_
  · have hjl : j < K.length := by simp only [decide_eq_true_eq] at hb2; omega
    have hge : K[j]? = some K[j] := List.getElem?_eq_getElem hjl
    generalize K[j] = key at hge
    refine s_idx1 (c := Value.string) (L := K.map bs) (x := bs key) (fun w hw => by have := (own_rd (s := sk) hw).1; simpa [List.map_map, Function.comp_def] using this) (by rw [List.getElem?_map, hge]; rfl) ?_
    refine s_own l ?_
    refine queue_hg hz (by omega) fun s1 => ?_
    refine s_upd (cG := Sl.val) (b := bm) (enc := strV) (cV := Sl.val) (v := s1) rfl mapTS keyE_str ?_
    refine s_ai ?_
    refine s_end (Δ := qB M (key, s1) :: Sep.stars (W.map (qB M)) :: MapR strV Sl.val bm (mset key s1 W) :: LocksR l M dm :: SlS sk K :: blk g3 (.cells (tagF gone).toArray ty_api_Tag (0, 0)) :: Γ) ?_
    refine s_mset (F := qB M) ?_
    exact s_end (hk2 ((j : Int) + 1) (j + 1, mset key s1 W) ⟨by simp, hjl⟩ (by simp only; omega))
  refine s_ldN (b := g3) (l' := tagF gone) ?_
  refine s_own l ?_
  refine leave_hg hz (by omega) ?_
  have hz' : gsz (leaveM gone (M, dm)).1 1200 := by
    refine ⟨by simpa [leaveM] using hz.1, fun p hp => ?_⟩
    obtain ⟨r, hr, rfl⟩ := List.mem_map.1 hp
    have h1 := hz.2 r hr
    exact ⟨Nat.le_trans (List.length_filter_le _ _) h1.1, Nat.le_trans (List.length_filter_le _ _) h1.2⟩
  refine s_ldN (b := g3) (l' := tagF gone) ?_
  refine s_own l ?_
  refine ahead_hg hz' (by omega) fun s2 => ?_
  rw [ahead_leave]
  refine s_cap s2 fun b1 b2 b3 b4 => ?_
  refine s_f ?_ (by simp at b1; simp; omega)
  refine s_ldN (b := g3) (l' := tagF gone) ?_
  refine s_own l ?_
  refine doomed_hg ?_
  have hdm : (leaveM gone (M, dm)).2 gone = false := by simp [leaveM, dset]
  rw [hdm]
  refine s_f ?_
  refine s_ldN (b := g3) (l' := tagF gone) ?_
  refine s_own l ?_
  refine ready_hg hz' (by omega) ?_
  rw [ready_leave]
  have hfin := leave_b5 (B := B) (Γ := Γ) (q := q) (l := l) (bm := bm) (g3 := g3) (gone := gone) (M := M) (dm := dm) (W := W) (X2 := k') (X3 := k2) (gsz_le hz (by omega)) h
  rw [show (!true) = false by rfl]
  exact s_end hfin
end
end Go.Proofs.YtfjjocopmknhgaaGreat

namespace Go.Proofs.YtfjjocopmknhgaaGreat
open Go Go.Sep Go.RowKit
theorem rdy_mk16 {w : World} {cs : List Value} (hc : cs.length = 3) (y : Rdy w (.fld 0 1 .str (.fld 1 1 (.int .i64) (.fld 2 1 (.int .u64) .nil))) cs) : ∃ x : MarkM, cs = markF x ∧ True := by
  match cs, hc with
  | [a, b, c], _ =>
    obtain ⟨⟨x0, e0, _⟩, ⟨x1, e1, _⟩, ⟨x2, e2, _⟩, _⟩ := y
    cases e0; cases e1; cases e2
    obtain ⟨l, rfl⟩ := bs_of x0
    exact ⟨⟨l, x1, x2⟩, rfl, trivial⟩
theorem rdy_opY {w : World} {cs : List Value} (hc : cs.length = 8) (y : Rdy w (.fld 0 1 (.int .i64) (.fld 1 1 (.int .i64) (.fld 2 4 (.fld 0 3 (.fld 0 1 (.int .i64) (.fld 1 1 (.int .u64) (.fld 2 1 (.int .u64) .nil))) (.fld 3 1 (.int .i64) .nil)) (.fld 6 1 .str (.fld 7 1 (.sl (.fld 0 1 .str (.fld 1 1 (.int .i64) (.fld 2 1 (.int .u64) .nil))) 3) .nil))))) cs) : ∃ o : OpY, cs = opyF o ∧ RdC w o.ms 3 (o.marks.flatMap markF) := by
  match cs, hc with
  | [a, b, c, d, e, f, g, i], _ =>
    obtain ⟨⟨x0, e0, _⟩, ⟨x1, e1, _⟩, ⟨⟨⟨x2, e2, _⟩, ⟨x3, e3, _⟩, ⟨x4, e4, _⟩, _⟩, ⟨x5, e5, _⟩, _⟩, ⟨x6, e6, _⟩, ⟨s, e7, _, _, h1, h2⟩, _⟩ := y
    cases e0; cases e1; cases e2; cases e3; cases e4; cases e5; cases e6; cases e7
    obtain ⟨l, rfl⟩ := bs_of x6
    obtain ⟨L, _, hL, _⟩ := rd_list markF (fun _ => True) markF_len h1 h2 fun cs hc hr => rdy_mk16 hc hr
    exact ⟨⟨x0, x1, ⟨x2, x3, x4, x5⟩, l, L, s⟩, rfl, hL⟩
theorem rdy_tag16 {w : World} {cs : Array Value} (hc : cs.size = 4) (y : Rdy w Sh_ty_api_Tag (Value.agg cs).cells.toList) : ∃ t : TagM, cs = (tagF t).toArray := by
  obtain ⟨l⟩ := cs
  match l, hc with
  | [a, b, c, d], _ =>
    obtain ⟨⟨⟨x2, e2, _⟩, ⟨x3, e3, _⟩, ⟨x4, e4, _⟩, _⟩, ⟨x5, e5, _⟩, _⟩ := y
    cases e2; cases e3; cases e4; cases e5
    exact ⟨⟨x2, x3, x4, x5⟩, rfl⟩
theorem LocksLeave_walk (W : World) (s0 : Sl) (y0 : Rdy W Sh_ty_s_argosylaw16_Op (Sl.val s0).cells.toList) (c1 : Array Value) (y1 : Rdy W Sh_ty_api_Tag (Value.agg c1).cells.toList) (h1 : c1.size = 4) :
    Calls Tryz.prog 6 #[s0.val, .agg c1] W (Ret fun v w' => v = .bool true ∧ Below W.heap.size W w') := by
  obtain ⟨g1, g2⟩ := rdy_sl y0
  obtain ⟨L, _, hL, hm⟩ := rd_list opyF (fun o => RdC W o.ms 3 (o.marks.flatMap markF)) opyF_len g1 g2 fun cs hc hr => rdy_opY hc hr
  obtain ⟨t, rfl⟩ := rdy_tag16 h1 y1
  exact law_call (LocksLeave_hg (Γ := []) hL hm (fun w h => ⟨rfl, h⟩) W (Holds.start W))
end Go.Proofs.YtfjjocopmknhgaaGreat
