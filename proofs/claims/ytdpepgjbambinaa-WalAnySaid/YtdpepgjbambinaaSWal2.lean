/- The log: parse, Records, Sync, Append. -/
import Derived.Test.YtdpepgjbambinaaSWal
--! use SWal
namespace Go.Proofs.Ytdpepgjbambinaa
open Go Go.Sep
set_option linter.unusedSimpArgs false
set_option linter.unusedVariables false
set_option maxRecDepth 100000
def WalR (l d : Nat) (W : WalD) : HProp := ex fun s : Sl => ex fun rs : RecL => stars [pur (rs.map Prod.snd = W.recs), stars (blk l (.cells (wA d W s) ty_wal_Log (0, 0)) :: SlC ty_s_uint8 1 s (List.map recV rs) :: stars (List.map recB rs) :: (List.nil : List HProp))]
/-- A list of records in memory. -/
def RecR (s : Sl) (recs : List (List UInt8)) : HProp := ex fun rs : RecL => stars [pur (rs.map Prod.snd = recs), SlC ty_s_uint8 1 s (rs.map recV), stars (rs.map recB)]
structure OkW (W : WalD) : Prop where
  name : 1 ≤ W.name.length ∧ W.name.length ≤ 8
  size : 16 ≤ W.size ∧ W.size ≤ 65536
  part : W.part ≤ 9
  used : W.used ≤ 10000000
  few : W.recs.length ≤ 10000000
def WalD.syncW (W : WalD) (D : DiskD) : DiskD × WalD × Int := if W.dirty = false then (D, W, 0) else ((D.sync (fileW W.name W.part)).1, { W with dirty := decide ((D.sync (fileW W.name W.part)).2 ≠ 0) }, (D.sync (fileW W.name W.part)).2)
/-- A record comes into a part. -/
def WalD.put (W : WalD) (D : DiskD) (part used : Nat) (r : List UInt8) : DiskD × WalD × Int :=
  if (D.append (fileW W.name part) (frameL r)).2 ≠ 0 then ((D.append (fileW W.name part) (frameL r)).1, W, (D.append (fileW W.name part) (frameL r)).2)
  else ((D.append (fileW W.name part) (frameL r)).1, { W with part := part, used := used + (frameL r).length, dirty := true, recs := W.recs ++ [r] }, 0)
def WalD.app (W : WalD) (D : DiskD) (r : List UInt8) : DiskD × WalD × Int :=
  if 0 < W.used ∧ W.size < (W.used + (frameL r).length : Nat) then
    if W.part = 9 then (D, W, 2) else if (W.syncW D).2.2 ≠ 0 then W.syncW D else (W.syncW D).2.1.put (W.syncW D).1 (W.part + 1) 0 r
  else W.put D W.part W.used r
section
variable {B w : World} {Γ : List HProp} {l d : Nat} {W : WalD} {s : Sl} {rs : RecL} {D : DiskD}
theorem WalR.opens (h : Holds B (WalR l d W :: Γ) w) : ∃ s rs, rs.map Prod.snd = W.recs ∧ Holds B (blk l (.cells (wA d W s) ty_wal_Log (0, 0)) :: SlC ty_s_uint8 1 s (List.map recV rs) :: stars (List.map recB rs) :: Γ) w := by
  obtain ⟨s, h⟩ := Holds.ex.1 h
  obtain ⟨rs, h⟩ := Holds.ex.1 h
  obtain ⟨h2, h4⟩ := Holds.pur.1 (Holds.flat.1 h)
  exact ⟨s, rs, h2, Holds.flat.1 h4⟩
theorem WalR.shuts (hp : rs.map Prod.snd = W.recs) (h : Holds B (blk l (.cells (wA d W s) ty_wal_Log (0, 0)) :: SlC ty_s_uint8 1 s (List.map recV rs) :: stars (List.map recB rs) :: Γ) w) : Holds B (WalR l d W :: Γ) w :=
  Holds.ex.2 ⟨s, Holds.ex.2 ⟨rs, Holds.flat.2 (Holds.pur.2 ⟨hp, Holds.flat.2 h⟩)⟩⟩
theorem rec_n (h : Holds B (SlC ty_s_uint8 1 s (rs.map recV) :: Γ) w) : rs.length = s.n := by
  have := h.slCap.1
  simpa using this
theorem rec_flat (rs : RecL) : ∀ v ∈ rs.map recV, flatV v = true := fun v hv => by
  obtain ⟨p, _, rfl⟩ := List.mem_map.1 hv
  rfl
/-- A record behind the others. -/
theorem r_rec {f : Sl} {b : List UInt8} {k : Sl → K} (hl : rs.length ≤ 100000000) (h : Holds B (SlC ty_s_uint8 1 s (rs.map recV) :: stars (rs.map recB) :: Bytes ty_uint8 f b :: Γ) w)
    (hk : ∀ s' w, Holds B (SlC ty_s_uint8 1 s' ((rs ++ [(f, b)]).map recV) :: stars ((rs ++ [(f, b)]).map recB) :: Γ) w → k s' w) :
    New ty_s_uint8 #[f.val] (fun t => Do Try.prog (Builtin.append_ #[ty_s_s_uint8, ty_s_s_uint8] ty_s_s_uint8 #[(Sl.val s), (Sl.val (Sl.mk (some t) 1 1))]) Sl.val k) w := by
  have hn := rec_n h
  refine r_new h ?_
  clear h
  intro t w h
  try simp only [add_mk, Nat.zero_add, Nat.reduceAdd]
  have hx := RdC.of_blk (n := 1) (esz := 1) h List.mem_cons_self (vs := [f.val]) rfl rfl 1
  refine r_append (h.pick 1 at1) (by kernel_rfl) (by kernel_rfl) (by' := 24) (by kernel_rfl) zero_ty_s_uint8 rfl hx (fun v hv => by simp only [List.mem_singleton] at hv; subst hv; rfl) (by simp only; omega) (by decide) fun s' w h _ _ => ?_
  try simp only [N1, N2, N3, N4, N5, N6, N7] at h
  have e1 : rs.map recV ++ [f.val] = (rs ++ [(f, b)]).map recV := by simp
  rw [e1] at h
  replace h := P3 h
  replace h := P3 h
  replace h := D3 h
  try simp only [N1, N2, N3, N4, N5, N6, N7] at h
  have h2 : Holds B (stars ((rs ++ [(f, b)]).map recB) :: SlC ty_s_uint8 1 s' ((rs ++ [(f, b)]).map recV) :: Γ) w := stars_put (f := recB) (x := (f, b)) h
  exact hk _ _ h2.swap

theorem wal_parse_spec {data : Sl} {dat : List UInt8} {k : Int → K} (hl : dat.length ≤ 2000000) (hrl : rs.length ≤ 10000000) (h : Holds B (blk l (.cells (wA d W s) ty_wal_Log (0, 0)) :: SlC ty_s_uint8 1 s (List.map recV rs) :: stars (List.map recB rs) :: Γ) w) (hr : ∀ w, Holds B Γ w → RdB w data dat) (hcap : data.n ≤ data.c) (hsp : ∀ a, data.a = some a → a.spot = none)
    (hk : ∀ s' rs' w, rs'.map Prod.snd = rs.map Prod.snd ++ (parseL dat).1 → Holds B (blk l (.cells (wA d W s') ty_wal_Log (0, 0)) :: SlC ty_s_uint8 1 s' (List.map recV rs') :: stars (List.map recB rs') :: Γ) w → k ((parseL dat).2 : Int) w) : wal_Log_parse.call (some ⟨l, 0, none⟩) data k w := by
  have hdn : dat.length = data.n := by have := (hr w h.tail.tail.tail).len; simpa using this
  refine wal_Log_parse_ok _ _ _ _ ?_
  unfold wal_Log_parse
  refine LoopK.of (fun t w => ∃ (g : Nat) (done : List (List UInt8)) (s' : Sl) (rs' : RecL), t = (g : Int) ∧ g ≤ dat.length ∧ rs'.map Prod.snd = rs.map Prod.snd ++ done ∧ parseL dat = (done ++ (parseL (dat.drop g)).1, g + (parseL (dat.drop g)).2) ∧ rs'.length ≤ rs.length + g ∧ Holds B (blk l (.cells (wA d W s') ty_wal_Log (0, 0)) :: SlC ty_s_uint8 1 s' (List.map recV rs') :: stars (List.map recB rs') :: Γ) w) (fun t _ => ((data.n : Int) - t).toNat) ⟨0, [], s, rs, rfl, by omega, by simp, by simp, by omega, h⟩ ?_
  clear h
  rintro t w ⟨g, done, s', rs', rfl, hg, hrs, hpp, hcnt, h⟩
  unfold wal_Log_parse.b2 wal_Log_parse.s1
  refine r_ite (fun hb => ?_) (fun hb => ?_)
  · simp only [decide_eq_true_eq] at hb
    have hdr : dat.drop g ≠ [] := fun e => by
      have := congrArg List.length e
      simp at this
      omega
    have hF := unfF (dat.drop g)
    refine ⟨_, by omega, by omega, by omega, by omega, rfl, ?_⟩
    simp only [Int.toNat_natCast]
    refine code_Unframe_spec (d := dat.drop g) (by simp; omega) h (fun w h => rdB_drop (hr w h.tail.tail.tail) (by omega) hcap hsp) (by simp only; omega) fun f w h => ?_
    refine r_ite (fun he => ?_) (fun he => ?_)
    · have he' : (unframeL (dat.drop g)).2.2 ≠ 0 := by simp only [decide_eq_true_eq] at he; omega
      rw [parse_bad he'] at hpp
      simp only [List.append_nil, Nat.add_zero] at hpp
      have h3 := hk s' rs' w (by rw [hpp]; exact hrs) h.tail
      rw [hpp] at h3
      exact h3
    · have he' : (unframeL (dat.drop g)).2.2 = 0 := by simp only [decide_eq_false_iff_not] at he; omega
      rw [parse_ok hdr he', List.drop_drop] at hpp
      simp only at hpp
      obtain ⟨q1, q2, _⟩ := hF.ok he'
      have q3 := hF.le
      rw [List.length_drop] at q3
      refine r_nn rfl ?_
      try simp only [add_mk, Nat.zero_add, Nat.reduceAdd]
      refine r_ld (x := s') h rfl (by first | with_reducible exact M0 | with_reducible exact M1 | with_reducible exact M2 | with_reducible exact M3 | with_reducible exact M4 | with_reducible exact M5 | with_reducible exact M6 | with_reducible exact M7 | with_reducible exact M8 | with_reducible exact M9 | with_reducible exact M10 | with_reducible exact M11 | with_reducible exact M12) ?_ ?_
      · exact rfl
      replace h := P1 h
      replace h := P1 h
      replace h := P3 h
      replace h := P3 h
      try simp only [N1, N2, N3, N4, N5, N6, N7] at h
      refine r_rec (by omega) h fun s2 w h => ?_
      replace h := P1 h
      replace h := P1 h
      replace h := P2 h
      try simp only [N1, N2, N3, N4, N5, N6, N7] at h
      first | refine S0 h rfl ?_ rfl ?_ | refine S1 h rfl ?_ rfl ?_ | refine S2 h rfl ?_ rfl ?_ | refine S3 h rfl ?_ rfl ?_ | refine S4 h rfl ?_ rfl ?_ | refine S5 h rfl ?_ rfl ?_ | refine S6 h rfl ?_ rfl ?_ | refine S7 h rfl ?_ rfl ?_ | refine S8 h rfl ?_ rfl ?_
      · first | exact Nat.lt_of_ble_eq_true rfl | (simp; done) | (simp; omega)
      clear h
      intro w h
      try simp only [N1, N2, N3, N4, N5, N6, N7] at h
      refine r_ar (e' := ((g + (unframeL (dat.drop g)).2.1 : Nat) : Int)) (by rw [wrap64 (by omega) (by omega)]; omega) ?_
      refine ⟨⟨g + (unframeL (dat.drop g)).2.1, done ++ [(unframeL (dat.drop g)).1], s2, _, rfl, by omega, ?_, ?_, ?_, h⟩, by omega⟩
      · rw [List.map_append, hrs, List.append_assoc]; rfl
      · rw [hpp, List.append_assoc]
        exact Prod.ext rfl (by simp only; omega)
      · rw [List.length_append, List.length_singleton]; omega
  · simp only [decide_eq_false_iff_not] at hb
    have hz : dat.drop g = [] := List.drop_eq_nil_of_le (by omega)
    rw [hz, parse_nil] at hpp
    simp only [List.append_nil, Nat.add_zero] at hpp
    have h3 := hk s' rs' w (by rw [hpp]; exact hrs) h
    rw [hpp] at h3
    exact h3

theorem wal_Records_spec {k : Sl → K} (hW : OkW W) (hlen : ∀ r ∈ W.recs, r.length ≤ 1000000) (h : Holds B (WalR l d W :: Γ) w) (hk : ∀ s w, Holds B (RecR s W.recs :: WalR l d W :: Γ) w → k s w) : wal_Log_Records.call (some ⟨l, 0, none⟩) k w := by
  obtain ⟨s, rs, hp, h⟩ := WalR.opens h
  have hrl : rs.length = W.recs.length := by rw [← hp]; simp
  have hfew := hW.few
  have hn := rec_n h.tail
  refine wal_Log_Records_ok _ _ _ ?_
  unfold wal_Log_Records
  refine r_nn rfl ?_
  try simp only [add_mk, Nat.zero_add, Nat.reduceAdd]
  refine r_ld (x := s) h rfl (by first | with_reducible exact M0 | with_reducible exact M1 | with_reducible exact M2 | with_reducible exact M3 | with_reducible exact M4 | with_reducible exact M5 | with_reducible exact M6 | with_reducible exact M7 | with_reducible exact M8 | with_reducible exact M9 | with_reducible exact M10 | with_reducible exact M11 | with_reducible exact M12) ?_ ?_
  · exact rfl
  have h0 := (h.starsNil).nilSl ty_s_uint8 1
  refine LoopK.of (fun t w => ∃ (j : Nat) (os : RecL), t.2 = (j : Int) ∧ j ≤ rs.length ∧ os.length = j ∧ os.map Prod.snd = (rs.take j).map Prod.snd ∧ Holds B (SlC ty_s_uint8 1 t.1 (os.map recV) :: stars (os.map recB) :: (blk l (.cells (wA d W s) ty_wal_Log (0, 0)) :: SlC ty_s_uint8 1 s (List.map recV rs) :: stars (List.map recB rs) :: Γ)) w) (fun t _ => ((s.n : Int) - t.2).toNat) ⟨0, [], rfl, by omega, rfl, rfl, h0⟩ ?_
  clear h h0
  rintro ⟨o, t⟩ w ⟨j, os, h1, hj, hol, hos, h⟩
  simp only at h1 h
  subst h1
  unfold wal_Log_Records.b1
  refine r_ite (fun hb => ?_) (fun hb => ?_)
  · simp only [decide_eq_true_eq] at hb
    have hjl : j < rs.length := by omega
    have hx : rs[j]? = some rs[j] := List.getElem?_eq_getElem hjl
    have htk : rs.take (j + 1) = rs.take j ++ [rs[j]] := List.take_succ_eq_append_getElem hjl
    generalize rs[j] = x at hx htk
    have hxl : x.2.length ≤ 1000000 := hlen x.2 (by rw [← hp]; exact List.mem_map_of_mem (List.mem_of_getElem? hx))
    have hrd : RdC w s 1 ((rs.map Prod.fst).map Sl.val) := by
      have h9 : RdC w s 1 (rs.map recV) := h.rdC (E := ty_s_uint8) (by first | with_reducible exact M0 | with_reducible exact M1 | with_reducible exact M2 | with_reducible exact M3 | with_reducible exact M4 | with_reducible exact M5 | with_reducible exact M6 | with_reducible exact M7 | with_reducible exact M8 | with_reducible exact M9 | with_reducible exact M10 | with_reducible exact M11 | with_reducible exact M12)
      rw [List.map_map]
      exact h9
    refine r_idx1 (c := Sl.val) (L := rs.map Prod.fst) hrd (x := x.1) (by rw [List.getElem?_map, hx]; rfl) ?_
    refine slices_Clone_spec (b := x.1) (xs := x.2) h (fun w h => stars_rd (f := recB) (x := x) 4 h at4 (List.mem_of_getElem? hx) rfl) (by omega) fun c w h _ => ?_
    replace h := P5 h
    replace h := P5 h
    replace h := P5 h
    replace h := P3 h
    replace h := P5 h
    replace h := P5 h
    try simp only [N1, N2, N3, N4, N5, N6, N7] at h
    refine r_rec (by omega) h fun s2 w h => ?_
    refine r_add64 (by omega) (by omega) ?_
    exact ⟨⟨j + 1, _, by simp, by omega, by simp; omega, by rw [List.map_append, hos, htk, List.map_append]; rfl, h⟩, by omega⟩
  · simp only [decide_eq_false_iff_not] at hb
    have : j = rs.length := by omega
    subst this
    rw [List.take_length, hp] at hos
    have h2 : Holds B (RecR o W.recs :: (blk l (.cells (wA d W s) ty_wal_Log (0, 0)) :: SlC ty_s_uint8 1 s (List.map recV rs) :: stars (List.map recB rs) :: Γ)) w := Holds.ex.2 ⟨os, Holds.flat.2 (Holds.pur.2 ⟨hos, h⟩)⟩
    replace h := h2
    replace h := P3 h
    replace h := P3 h
    replace h := P3 h
    try simp only [N1, N2, N3, N4, N5, N6, N7] at h
    exact hk _ _ (WalR.shuts hp h).swap

theorem wal_Sync_spec {k : Int → K} (hD : OkD D) (hW : OkW W) (h : Holds B (WalR l d W :: DiskR d D :: Γ) w) (hk : ∀ w, OkD (W.syncW D).1 → Holds B (WalR l d (W.syncW D).2.1 :: DiskR d (W.syncW D).1 :: Γ) w → k (W.syncW D).2.2 w) : wal_Log_Sync.call (some ⟨l, 0, none⟩) k w := by
  obtain ⟨s, rs, hp, h⟩ := WalR.opens h
  have hnm := hW.name
  have hpt := hW.part
  refine wal_Log_Sync_ok _ _ _ ?_
  unfold wal_Log_Sync
  unfold WalD.syncW at hk
  refine r_nn rfl ?_
  try simp only [add_mk, Nat.zero_add, Nat.reduceAdd]
  refine r_ld (x := W.dirty) h rfl (by first | with_reducible exact M0 | with_reducible exact M1 | with_reducible exact M2 | with_reducible exact M3 | with_reducible exact M4 | with_reducible exact M5 | with_reducible exact M6 | with_reducible exact M7 | with_reducible exact M8 | with_reducible exact M9 | with_reducible exact M10 | with_reducible exact M11 | with_reducible exact M12) ?_ ?_
  · exact rfl
  refine r_ite (fun hb => ?_) (fun hb => ?_)
  · have hb' : W.dirty = false := by simpa using hb
    rw [if_pos hb'] at hk
    exact hk _ hD (WalR.shuts hp h)
  · have hb' : ¬ W.dirty = false := by simpa using hb
    rw [if_neg hb'] at hk
    have hS : Holds B (blk l (.cells (wA d W s) ty_wal_Log (0, 0)) :: SlC ty_s_uint8 1 s (List.map recV rs) :: stars (List.map recB rs) :: Γ) w := h.del 3 at3
    refine r_dr h ?_
    clear h
    intro w h
    have hS : Holds B (blk l (.cells (wA d W s) ty_wal_Log (0, 0)) :: SlC ty_s_uint8 1 s (List.map recV rs) :: stars (List.map recB rs) :: Γ) w := h.del 3 at3
    refine r_withS hS ?_
    refine r_ldS (x := (some ⟨d, 0, none⟩)) rfl (by first | with_reducible exact M0 | with_reducible exact M1 | with_reducible exact M2 | with_reducible exact M3 | with_reducible exact M4 | with_reducible exact M5 | with_reducible exact M6 | with_reducible exact M7 | with_reducible exact M8 | with_reducible exact M9 | with_reducible exact M10 | with_reducible exact M11 | with_reducible exact M12) ?_ ?_
    · exact rfl
    refine r_ldS (x := (W.part : Int)) rfl (by first | with_reducible exact M0 | with_reducible exact M1 | with_reducible exact M2 | with_reducible exact M3 | with_reducible exact M4 | with_reducible exact M5 | with_reducible exact M6 | with_reducible exact M7 | with_reducible exact M8 | with_reducible exact M9 | with_reducible exact M10 | with_reducible exact M11 | with_reducible exact M12) ?_ ?_
    · exact rfl
    refine wal_file_spec (by omega) (by omega) h ?_
    refine r_sv hS ?_
    replace h := P2 h
    replace h := P2 h
    replace h := P2 h
    replace h := P3 h
    try simp only [N1, N2, N3, N4, N5, N6, N7] at h
    refine sync_spec (n := fileW W.name W.part) hD h fun w hD' h => ?_
    replace h := P3 h
    replace h := P3 h
    replace h := P3 h
    try simp only [N1, N2, N3, N4, N5, N6, N7] at h
    first | refine S0 h rfl ?_ rfl ?_ | refine S1 h rfl ?_ rfl ?_ | refine S2 h rfl ?_ rfl ?_ | refine S3 h rfl ?_ rfl ?_ | refine S4 h rfl ?_ rfl ?_ | refine S5 h rfl ?_ rfl ?_ | refine S6 h rfl ?_ rfl ?_ | refine S7 h rfl ?_ rfl ?_ | refine S8 h rfl ?_ rfl ?_
    · first | exact Nat.lt_of_ble_eq_true rfl | (simp; done) | (simp; omega)
    clear h
    intro w h
    try simp only [N1, N2, N3, N4, N5, N6, N7] at h
    exact hk _ hD' (WalR.shuts (W := { W with dirty := decide ((D.sync (fileW W.name W.part)).2 ≠ 0) }) hp h)
end
end Go.Proofs.Ytdpepgjbambinaa
