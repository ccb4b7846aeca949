/- The log: load, Open. -/
import Derived.Test.YtdpepgjbambinaaSWal3
--! use SWal
namespace Go.Proofs.Ytdpepgjbambinaa
open Go Go.Sep
set_option linter.unusedSimpArgs false
set_option linter.unusedVariables false
set_option maxRecDepth 100000
theorem parse_le : ∀ (n : Nat) (d : List UInt8), d.length = n → (parseL d).1.length ≤ d.length ∧ (parseL d).2 ≤ d.length := by
  intro n
  induction n using Nat.strongRecOn with
  | _ n ih =>
    intro d hd
    by_cases h1 : d = []
    · subst h1; rw [parse_nil]; exact ⟨Nat.le_refl _, Nat.le_refl _⟩
    by_cases h2 : (unframeL d).2.2 = 0
    · have hF := unfF d
      obtain ⟨q1, q2, _⟩ := hF.ok h2
      have q3 := hF.le
      have hl : 0 < d.length := List.length_pos_iff.2 h1
      have := ih (d.drop (unframeL d).2.1).length (by simp; omega) _ rfl
      rw [parse_ok h1 h2]
      simp only [List.length_cons, List.length_drop] at this ⊢
      omega
    · rw [parse_bad h2]; exact ⟨by simp, by simp⟩
theorem parse_rec_le : ∀ (n : Nat) (d : List UInt8), d.length = n → ∀ r ∈ (parseL d).1, r.length ≤ 4096 := by
  intro n
  induction n using Nat.strongRecOn with
  | _ n ih =>
    intro d hd
    by_cases h1 : d = []
    · subst h1; rw [parse_nil]; intro r hr; cases hr
    by_cases h2 : (unframeL d).2.2 = 0
    · have hF := unfF d
      obtain ⟨q1, q2, _⟩ := hF.ok h2
      have hl : 0 < d.length := List.length_pos_iff.2 h1
      have := ih (d.drop (unframeL d).2.1).length (by simp; omega) _ rfl
      rw [parse_ok h1 h2]
      intro r hr
      rcases List.mem_cons.1 hr with rfl | hr
      · exact hF.small
      · exact this r hr
    · rw [parse_bad h2]; intro r hr; cases hr
def loadF (name : List UInt8) : Nat → Nat → DiskD → WalD → DiskD × WalD × Nat × Int
  | 0, part, D, W => (D, W, part, 0)
  | f + 1, part, D, W =>
    if (D.read (fileW name part)).2 = 60 then (D, W, part, 0)
    else if (D.read (fileW name part)).2 ≠ 0 then (D, W, part, (D.read (fileW name part)).2)
    else if (parseL (D.read (fileW name part)).1).2 = (D.read (fileW name part)).1.length then
      loadF name f (part + 1) D { W with recs := W.recs ++ (parseL (D.read (fileW name part)).1).1, part := part, used := (parseL (D.read (fileW name part)).1).2 }
    else if (D.cut (fileW name part) ((parseL (D.read (fileW name part)).1).2 : Int)).2 ≠ 0 then
      ((D.cut (fileW name part) ((parseL (D.read (fileW name part)).1).2 : Int)).1, { W with recs := W.recs ++ (parseL (D.read (fileW name part)).1).1, part := part, used := (parseL (D.read (fileW name part)).1).2 }, part, (D.cut (fileW name part) ((parseL (D.read (fileW name part)).1).2 : Int)).2)
    else ((D.cut (fileW name part) ((parseL (D.read (fileW name part)).1).2 : Int)).1, { W with recs := W.recs ++ (parseL (D.read (fileW name part)).1).1, part := part, used := (parseL (D.read (fileW name part)).1).2 }, part + 1, 0)
def remF (name : List UInt8) : Nat → Nat → DiskD → DiskD × Int
  | 0, _, D => (D, 0)
  | f + 1, part, D => if (D.remove (fileW name (part + f))).2 ≠ 0 ∧ (D.remove (fileW name (part + f))).2 ≠ 60 then D.remove (fileW name (part + f)) else remF name f part (D.remove (fileW name (part + f))).1
def WalD.load (W : WalD) (D : DiskD) : DiskD × WalD × Int :=
  if (loadF W.name 10 0 D W).2.2.2 ≠ 0 then ((loadF W.name 10 0 D W).1, (loadF W.name 10 0 D W).2.1, (loadF W.name 10 0 D W).2.2.2)
  else ((remF W.name (10 - (loadF W.name 10 0 D W).2.2.1) (loadF W.name 10 0 D W).2.2.1 (loadF W.name 10 0 D W).1).1, (loadF W.name 10 0 D W).2.1, (remF W.name (10 - (loadF W.name 10 0 D W).2.2.1) (loadF W.name 10 0 D W).2.2.1 (loadF W.name 10 0 D W).1).2)
section
variable {B w : World} {Γ : List HProp} {l d : Nat} {W : WalD} {s : Sl} {rs : RecL} {D : DiskD}
theorem read_len' {D : DiskD} (hD : OkD D) (n : List UInt8) : (D.read n).1.length ≤ 1048576 := by
  unfold DiskD.read
  split
  · simp
  cases hm : mget n D.files with
  | none => simp
  | some f => have := data_le hD hm; exact this.1

theorem wal_rem_spec {name : List UInt8} {k : Int → K} {part : Nat} (hp : part ≤ 10) (hD : OkD D) (hn : W.name = name) (hnl : name.length ≤ 8) (h : Holds B (WalR l d W :: DiskR d D :: Γ) w)
    (hk : ∀ w, OkD (remF name (10 - part) part D).1 → Holds B (WalR l d W :: DiskR d (remF name (10 - part) part D).1 :: Γ) w → k (remF name (10 - part) part D).2 w) : wal_Log_load.s1 k (some ⟨l, 0, none⟩) (part : Int) w := by
  unfold wal_Log_load.s1
  refine LoopK.of (fun t w => ∃ (f : Nat) (D' : DiskD), t = (part : Int) + f - 1 ∧ part + f ≤ 10 ∧ remF name (10 - part) part D = remF name f part D' ∧ OkD D' ∧ Holds B (WalR l d W :: DiskR d D' :: Γ) w) (fun t _ => (t + 1).toNat) ⟨10 - part, D, by omega, by omega, rfl, hD, h⟩ ?_
  clear h
  rintro t w ⟨f, D', rfl, hf, he, hD', h⟩
  rw [he] at hk
  unfold wal_Log_load.b2
  refine r_ite (fun hb => ?_) (fun hb => ?_)
  · simp only [decide_eq_true_eq] at hb
    obtain ⟨g, rfl⟩ : ∃ g, f = g + 1 := ⟨f - 1, by omega⟩
    obtain ⟨s, rs, hrs, h⟩ := WalR.opens h
    have hi : (part : Int) + ((g + 1 : Nat) : Int) - 1 = ((part + g : Nat) : Int) := by omega
    rw [hi]
    refine r_dr h ?_
    clear h
    intro w h
    have hS : Holds B (blk l (.cells (wA d W s) ty_wal_Log (0, 0)) :: SlC ty_s_uint8 1 s (List.map recV rs) :: stars (List.map recB rs) :: Γ) w := h.del 3 at3
    refine r_withS hS ?_
    refine r_nn rfl ?_
    refine r_ldS (x := some ⟨d, 0, none⟩) rfl M0 rfl ?_
    refine wal_file_spec (by omega) (by rw [hn]; omega) h ?_
    rw [hn]
    refine r_sv hS ?_
    replace h := P2 h
    replace h := P2 h
    replace h := P2 h
    replace h := P3 h
    try simp only [N1, N2, N3, N4, N5, N6, N7] at h
    refine remove_spec (n := fileW name (part + g)) hD' h fun w hD2 h => ?_
    replace h := P3 h
    replace h := P3 h
    replace h := P3 h
    try simp only [N1, N2, N3, N4, N5, N6, N7] at h
    replace h := WalR.shuts (W := W) hrs h
    unfold remF at hk
    have s3 : ∀ t, t = decide ((D'.remove (fileW name (part + g))).2 ≠ 0 ∧ (D'.remove (fileW name (part + g))).2 ≠ 60) → wal_Log_load.s3 k (fun t w' => (∃ (f : Nat) (D' : DiskD), t = (part : Int) + f - 1 ∧ part + f ≤ 10 ∧ remF name (10 - part) part D = remF name f part D' ∧ OkD D' ∧ Holds B (WalR l d W :: DiskR d D' :: Γ) w') ∧ (t + 1).toNat < (((part + g : Nat) : Int) + 1).toNat) ⟨l, 0, none⟩ (part : Int) ((part + g : Nat) : Int) (D'.remove (fileW name (part + g))).2 t w := by
      rintro t rfl
      unfold wal_Log_load.s3
      refine r_ite (fun hq => ?_) (fun hq => ?_)
      · rw [if_pos (by simpa using hq)] at hk
        exact hk _ hD2 h
      · have hq' := of_decide_eq_false hq
        refine r_ar (e' := (part : Int) + g - 1) (by rw [wrap64 (by omega) (by omega)]; omega) ?_
        refine ⟨⟨g, _, rfl, by omega, ?_, hD2, h⟩, by omega⟩
        rw [he, remF, if_neg hq']
    refine r_ite (fun hq => ?_) (fun hq => ?_)
    · simp only [decide_eq_true_eq] at hq
      exact s3 _ (by simp [hq])
    · simp only [decide_eq_false_iff_not, Decidable.not_not] at hq
      exact s3 _ (by simp [hq])
  · simp only [decide_eq_false_iff_not] at hb
    have : f = 0 := by omega
    subst this
    exact hk _ hD' h

theorem wal_load_spec {k : Int → K} (hD : OkD D) (hnl : W.name.length ≤ 8) (hr0 : W.recs = []) (h : Holds B (WalR l d W :: DiskR d D :: Γ) w)
    (hk : ∀ w, OkD (W.load D).1 → Holds B (WalR l d (W.load D).2.1 :: DiskR d (W.load D).1 :: Γ) w → k (W.load D).2.2 w) : wal_Log_load.call (some ⟨l, 0, none⟩) k w := by
  unfold WalD.load at hk
  generalize hLF : loadF W.name 10 0 D W = LF at hk
  refine wal_Log_load_ok _ _ _ ?_
  unfold wal_Log_load
  refine LoopK.of (fun t w => ∃ (part : Nat) (D' : DiskD) (W' : WalD), t.2 = (part : Int) ∧ part ≤ 10 ∧ OkD D' ∧ W'.name = W.name ∧ W'.recs.length ≤ part * 1048576 ∧
      (t.1 = true → LF = loadF W.name (10 - part) part D' W') ∧ (t.1 = false → LF = (D', W', part, 0)) ∧ Holds B (WalR l d W' :: DiskR d D' :: Γ) w) (fun t _ => (10 - t.2).toNat) ⟨0, D, W, rfl, by omega, hD, rfl, by rw [hr0]; simp, (fun _ => hLF.symm), (fun hf => by cases hf), h⟩ ?_
  clear h
  rintro ⟨wh, t⟩ w ⟨part, D', W', h1, hpt, hD', hnm, hcnt, hT, hF, h⟩
  simp only at h1 hT hF
  subst h1
  unfold wal_Log_load.b4
  -- out of the loop: the files behind
  have out : LF = (D', W', part, 0) → Holds B (WalR l d W' :: DiskR d D' :: Γ) w → wal_Log_load.s1 k (some ⟨l, 0, none⟩) (part : Int) w := fun he h => by
    rw [he, if_neg (by simp)] at hk
    exact wal_rem_spec hpt hD' hnm hnl h hk
  refine r_ite (fun hwh => ?_) (fun hwh => ?_)
  · have hT' := hT hwh
    unfold wal_Log_load.s5
    refine r_ite (fun hb => ?_) (fun hb => ?_)
    · simp only [decide_eq_true_eq] at hb
      obtain ⟨f, hf⟩ : ∃ f, 10 - part = f + 1 := ⟨9 - part, by omega⟩
      rw [hf] at hT'
      obtain ⟨s, rs, hrs, h⟩ := WalR.opens h
      have hrl : rs.length = W'.recs.length := by rw [← hrs]; simp
      refine r_dr h ?_
      clear h
      intro w h
      have hS : Holds B (blk l (.cells (wA d W' s) ty_wal_Log (0, 0)) :: SlC ty_s_uint8 1 s (List.map recV rs) :: stars (List.map recB rs) :: Γ) w := h.del 3 at3
      refine r_withS hS ?_
      refine r_nn rfl ?_
      refine r_ldS (x := some ⟨d, 0, none⟩) rfl M0 rfl ?_
      refine wal_file_spec (by omega) (by rw [hnm]; omega) h ?_
      rw [hnm]
      refine r_sv hS ?_
      replace h := P2 h
      replace h := P2 h
      replace h := P2 h
      replace h := P3 h
      try simp only [N1, N2, N3, N4, N5, N6, N7] at h
      have hRl := read_len' hD' (fileW W.name part)
      refine read_spec (n := fileW W.name part) hD' h fun sd w h => ?_
      have hdc := h.slCap
      rw [loadF] at hT'
      generalize hR : D'.read (fileW W.name part) = R at hT' h hRl
      obtain ⟨x, e⟩ := R
      simp only at hT' h hRl ⊢
      refine r_ite (fun he60 => ?_) (fun he60 => ?_)
      · simp only [decide_eq_true_eq] at he60
        rw [if_pos he60] at hT'
        replace h := P1 h
        replace h := P4 h
        replace h := P4 h
        replace h := P4 h
        replace h := D4 h
        try simp only [N1, N2, N3, N4, N5, N6, N7] at h
        have h6 := WalR.shuts (W := W') hrs h
        rw [hT', if_neg (by simp)] at hk
        exact wal_rem_spec hpt hD' hnm hnl h6 hk
      · have he60' : ¬ e = 60 := by simpa using he60
        rw [if_neg he60'] at hT'
        refine r_ite (fun he0 => ?_) (fun he0 => ?_)
        · have he0' : e ≠ 0 := by simpa using he0
          rw [if_pos he0'] at hT'
          replace h := P1 h
          replace h := P4 h
          replace h := P4 h
          replace h := P4 h
          replace h := D4 h
          try simp only [N1, N2, N3, N4, N5, N6, N7] at h
          have h6 := WalR.shuts (W := W') hrs h
          rw [hT', if_pos he0'] at hk
          exact hk _ hD' h6
        · have he0' : ¬ e ≠ 0 := by simpa using he0
          rw [if_neg he0'] at hT'
          have hPl := parse_le _ x rfl
          have hxn : x.length = sd.n := by have := hdc.1; rw [hR] at this; simpa using this
          replace h := P1 h
          replace h := P1 h
          replace h := P4 h
          replace h := P4 h
          replace h := P4 h
          try simp only [N1, N2, N3, N4, N5, N6, N7] at h
          refine wal_parse_spec (dat := x) (by omega) (by omega) h (fun w h => Bytes.rd h List.mem_cons_self) hdc.2.1 hdc.2.2.1 fun s' rs' w hrs' h => ?_
          generalize parseL x = P at hT' hPl hrs' h
          obtain ⟨nr, g⟩ := P
          simp only at hT' hPl hrs' h ⊢
          first | refine S0 h rfl ?_ rfl ?_ | refine S1 h rfl ?_ rfl ?_ | refine S2 h rfl ?_ rfl ?_ | refine S3 h rfl ?_ rfl ?_ | refine S4 h rfl ?_ rfl ?_ | refine S5 h rfl ?_ rfl ?_ | refine S6 h rfl ?_ rfl ?_ | refine S7 h rfl ?_ rfl ?_ | refine S8 h rfl ?_ rfl ?_
          · first | exact Nat.lt_of_ble_eq_true rfl | (simp; done) | (simp; omega)
          clear h
          intro w h
          try simp only [N1, N2, N3, N4, N5, N6, N7] at h
          first | refine S0 h rfl ?_ rfl ?_ | refine S1 h rfl ?_ rfl ?_ | refine S2 h rfl ?_ rfl ?_ | refine S3 h rfl ?_ rfl ?_ | refine S4 h rfl ?_ rfl ?_ | refine S5 h rfl ?_ rfl ?_ | refine S6 h rfl ?_ rfl ?_ | refine S7 h rfl ?_ rfl ?_ | refine S8 h rfl ?_ rfl ?_
          · first | exact Nat.lt_of_ble_eq_true rfl | (simp; done) | (simp; omega)
          clear h
          intro w h
          try simp only [N1, N2, N3, N4, N5, N6, N7] at h
          have hrs2 : rs'.map Prod.snd = ({ W' with recs := W'.recs ++ nr, part := part, used := g } : WalD).recs := by rw [hrs', hrs]
          have hc2 : (W'.recs ++ nr).length ≤ (part + 1) * 1048576 := by rw [List.length_append]; omega
          have s6 : ∀ (D2 : DiskD) (wh : Bool) w, OkD D2 → (wh = true → LF = loadF W.name (10 - (part + 1)) (part + 1) D2 { W' with recs := W'.recs ++ nr, part := part, used := g }) → (wh = false → LF = (D2, { W' with recs := W'.recs ++ nr, part := part, used := g }, part + 1, 0)) →
              Holds B (WalR l d { W' with recs := W'.recs ++ nr, part := part, used := g } :: DiskR d D2 :: Γ) w → wal_Log_load.s6 k (fun a1 a2 w' => (∃ (part : Nat) (D' : DiskD) (W' : WalD), a2 = (part : Int) ∧ part ≤ 10 ∧ OkD D' ∧ W'.name = W.name ∧ W'.recs.length ≤ part * 1048576 ∧
      (a1 = true → LF = loadF W.name (10 - part) part D' W') ∧ (a1 = false → LF = (D', W', part, 0)) ∧ Holds B (WalR l d W' :: DiskR d D' :: Γ) w') ∧ (10 - a2).toNat < (10 - (part : Int)).toNat) (some ⟨l, 0, none⟩) wh (part : Int) w := by
            intro D2 wh w hD2 q1 q2 h
            unfold wal_Log_load.s6
            refine r_add64 (by omega) (by omega) ?_
            exact ⟨⟨part + 1, D2, { W' with recs := W'.recs ++ nr, part := part, used := g }, by omega, by omega, hD2, hnm, hc2, q1, q2, h⟩, by omega⟩
          by_cases hg : g = x.length
          · rw [if_pos hg] at hT'
            rw [decide_eq_true (show (g : Int) = (sd.n : Int) by omega)]
            refine r_ite_f rfl ?_
            replace h := P4 h
            replace h := P3 h
            replace h := P3 h
            replace h := P3 h
            replace h := D4 h
            try simp only [N1, N2, N3, N4, N5, N6, N7] at h
            have h6 := WalR.shuts (W := { W' with recs := W'.recs ++ nr, part := part, used := g }) hrs2 h
            refine s6 D' true w hD' (fun _ => ?_) (fun hf => by cases hf) h6
            rw [hT', show 10 - (part + 1) = f by omega]
          · rw [if_neg hg] at hT'
            rw [decide_eq_false (show ¬ (g : Int) = (sd.n : Int) by omega)]
            refine r_ite_t rfl ?_
            replace h := P4 h
            replace h := P3 h
            replace h := P3 h
            replace h := P3 h
            replace h := D4 h
            try simp only [N1, N2, N3, N4, N5, N6, N7] at h
            refine r_dr h ?_
            clear h
            intro w h
            have hS : Holds B (blk l (.cells (wA d ({ W' with part := part, used := g } : WalD) s') ty_wal_Log (0, 0)) :: SlC ty_s_uint8 1 s' (List.map recV rs') :: stars (List.map recB rs') :: Γ) w := h.del 3 at3
            refine r_withS hS ?_
            refine r_ldS (x := some ⟨d, 0, none⟩) rfl M0 rfl ?_
            refine wal_file_spec (W := { W' with part := part, used := g }) (by omega) (by simp only; rw [hnm]; omega) h ?_
            rw [show fileW ({ W' with part := part, used := g } : WalD).name part = fileW W.name part by show fileW W'.name part = _; rw [hnm]]
            refine r_sv hS ?_
            replace h := P2 h
            replace h := P2 h
            replace h := P2 h
            replace h := P3 h
            try simp only [N1, N2, N3, N4, N5, N6, N7] at h
            refine cut_spec (n := fileW W.name part) (c := (g : Int)) hD' h fun w hD2 h => ?_
            replace h := P3 h
            replace h := P3 h
            replace h := P3 h
            try simp only [N1, N2, N3, N4, N5, N6, N7] at h
            have h6 := WalR.shuts (W := { W' with recs := W'.recs ++ nr, part := part, used := g }) hrs2 h
            refine r_ite (fun hz => ?_) (fun hz => ?_)
            · have hz' : (D'.cut (fileW W.name part) (g : Int)).2 ≠ 0 := by simpa using hz
              rw [if_pos hz'] at hT'
              rw [hT', if_pos hz'] at hk
              exact hk _ hD2 h6
            · have hz' : ¬ (D'.cut (fileW W.name part) (g : Int)).2 ≠ 0 := by simpa using hz
              rw [if_neg hz'] at hT'
              exact s6 _ false w hD2 (fun hf => by cases hf) (fun _ => hT') h6
    · simp only [decide_eq_false_iff_not] at hb
      have hp10 : part = 10 := by omega
      subst hp10
      exact out (by rw [hT']; rfl) h
  · have hF' := hF hwh
    unfold wal_Log_load.s5
    exact r_ite_f rfl (out hF' h)
end
end Go.Proofs.Ytdpepgjbambinaa
