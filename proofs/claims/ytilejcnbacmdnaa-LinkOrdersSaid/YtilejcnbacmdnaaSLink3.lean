/- Are two lists of packets, or of data, the same? -/
import Derived.Test.YtilejcnbacmdnaaSLink2
import Derived.Test.YtilejcnbacmdnaaIRRef19
import Derived.Test.YtilejcnbacmdnaaIRRef191
import Derived.Test.YtilejcnbacmdnaaIRLaw194
import Derived.Test.YtilejcnbacmdnaaIRLaw193
namespace Go.Proofs.Ytilejcnbacmdnaa
open Go Go.Sep
set_option linter.unusedSimpArgs false
set_option linter.unusedVariables false
set_option maxRecDepth 100000
section
variable {B w : World} {Γ : List HProp}

theorem r_ldF {α : Type} {t : Addr} {cs : Array Value} {c : α → Value} {x : α} {k : α → K} (j : Nat) (ht : RdN w t cs) (hj : j < cs.size) (hv : cs[j]? = some (c x)) (hk : k x w) : Ld (t.add j) c k w :=
  r_ld_of ((ht j hj).trans hv) hk
theorem add_zero' (t : Addr) : t.add 0 = t := by simp [Addr.add]

theorem map_ne {α β : Type} [DecidableEq α] {la lb : List (α × β)} {j : Nat} {x y : α × β} (hx : la[j]? = some x) (hy : lb[j]? = some y) (h : x.1 ≠ y.1) : decide (la.map Prod.fst = lb.map Prod.fst) = true → False := by
  intro he
  have := congrArg (·[j]?) (of_decide_eq_true he)
  simp only [List.getElem?_map, hx, hy, Option.map_some, Option.some.injEq] at this
  exact h this

theorem take_map_succ {α β : Type} {la : List (α × β)} {j : Nat} {x : α × β} (hx : la[j]? = some x) : (la.take (j + 1)).map Prod.fst = (la.take j).map Prod.fst ++ [x.1] := by
  have hj : j < la.length := (List.getElem?_eq_some_iff.1 hx).1
  have e : la[j] = x := (List.getElem?_eq_some_iff.1 hx).2
  rw [List.take_succ_eq_append_getElem hj, List.map_append, e]
  rfl

/-- Lists of the same length: the places of a walk through both. -/
theorem SameData_spec {a b : Sl} {la lb : List BS} {k : Bool → K} (hal : la.length ≤ 1000000000) (h : Holds B Γ w) (ha : ∀ w, Holds B Γ w → RdC w a 1 (la.map bsV)) (hb : ∀ w, Holds B Γ w → RdC w b 1 (lb.map bsV))
    (hda : ∀ x ∈ la, ∀ w, Holds B Γ w → RdB w x.2 x.1) (hdb : ∀ x ∈ lb, ∀ w, Holds B Γ w → RdB w x.2 x.1)
    (hk : ∀ w, Holds B Γ w → k (decide (la.map Prod.fst = lb.map Prod.fst)) w) : ref19_SameData.call a b k w := by
  have han : la.length = a.n := by have := (ha w h).len; simpa using this
  have hbn : lb.length = b.n := by have := (hb w h).len; simpa using this
  refine ref19_SameData_ok _ _ _ _ ?_
  unfold ref19_SameData
  refine r_ite (fun hc => ?_) (fun hc => ?_)
  · simp only [decide_eq_true_eq] at hc
    have e : decide (la.map Prod.fst = lb.map Prod.fst) = false := by
      simp only [decide_eq_false_iff_not]
      intro e
      have := congrArg List.length e
      simp at this; omega
    rw [← e]; exact hk _ h
  simp only [decide_eq_false_iff_not, ne_eq, Decidable.not_not] at hc
  have hll : la.length = lb.length := by omega
  refine LoopK.of (fun t w => ∃ j : Nat, t = (j : Int) ∧ j ≤ la.length ∧ (la.take j).map Prod.fst = (lb.take j).map Prod.fst ∧ Holds B Γ w) (fun t _ => ((a.n : Int) - t).toNat) ⟨0, rfl, by omega, rfl, h⟩ ?_
  clear h
  rintro t w ⟨j, rfl, hj, he, h⟩
  unfold ref19_SameData.b1
  refine r_ite (fun hlt => ?_) (fun hlt => ?_)
  · simp only [decide_eq_true_eq] at hlt
    have hja : j < la.length := by omega
    have hx : la[j]? = some la[j] := List.getElem?_eq_getElem hja
    generalize la[j] = x at hx
    have hy : lb[j]? = some (lb[j]'(by omega)) := List.getElem?_eq_getElem (by omega)
    generalize lb[j]'(by omega) = y at hy
    refine r_dr h ?_
    clear h
    intro w h
    refine r_idx1 (c := Sl.val) (L := la.map Prod.snd) (x := x.2) (by rw [List.map_map]; exact ha w h) (by simp [hx]) ?_
    refine r_str (by kernel_rfl) (hda x (List.mem_of_getElem? hx) w h) ?_
    refine r_idx1 (c := Sl.val) (L := lb.map Prod.snd) (x := y.2) (by rw [List.map_map]; exact hb w h) (by simp [hy]) ?_
    refine r_str (by kernel_rfl) (hdb y (List.mem_of_getElem? hy) w h) ?_
    rw [str_toList, str_toList]
    refine r_ite (fun hne => ?_) (fun hne => ?_)
    · have hne2 : x.1 ≠ y.1 := by simpa using hne
      have e : decide (la.map Prod.fst = lb.map Prod.fst) = false := by
        cases hd : decide (la.map Prod.fst = lb.map Prod.fst) with
        | false => rfl
        | true => exact (map_ne hx hy hne2 hd).elim
      rw [← e]; exact hk _ h
    · have heq : x.1 = y.1 := by simpa using hne
      refine r_add64 (by omega) (by omega) ?_
      refine ⟨⟨j + 1, by omega, by omega, ?_, h⟩, by omega⟩
      rw [take_map_succ hx, take_map_succ hy, he, heq]
  · simp only [decide_eq_false_iff_not] at hlt
    rw [List.take_of_length_le (by omega), List.take_of_length_le (by omega)] at he
    rw [← decide_eq_true he]
    exact hk _ h

theorem SamePackets_spec {a b : Sl} {la lb : List (PacketD × Sl)} {k : Bool → K} (hal : la.length ≤ 1000000000) (h : Holds B Γ w) (ha : ∀ w, Holds B Γ w → RdC w a 5 (la.flatMap pkF)) (hb : ∀ w, Holds B Γ w → RdC w b 5 (lb.flatMap pkF))
    (hda : ∀ x ∈ la, ∀ w, Holds B Γ w → RdB w x.2 x.1.da) (hdb : ∀ x ∈ lb, ∀ w, Holds B Γ w → RdB w x.2 x.1.da)
    (hk : ∀ w, Holds B Γ w → k (decide (la.map Prod.fst = lb.map Prod.fst)) w) : ref19_SamePackets.call a b k w := by
  have han : la.length = a.n := by have := (ha w h).len; rw [flatMap_len pkF 5 pkF_len] at this; omega
  have hbn : lb.length = b.n := by have := (hb w h).len; rw [flatMap_len pkF 5 pkF_len] at this; omega
  refine ref19_SamePackets_ok _ _ _ _ ?_
  unfold ref19_SamePackets
  refine r_ite (fun hc => ?_) (fun hc => ?_)
  · simp only [decide_eq_true_eq] at hc
    have e : decide (la.map Prod.fst = lb.map Prod.fst) = false := by
      simp only [decide_eq_false_iff_not]
      intro e
      have := congrArg List.length e
      simp at this; omega
    rw [← e]; exact hk _ h
  simp only [decide_eq_false_iff_not, ne_eq, Decidable.not_not] at hc
  have hll : la.length = lb.length := by omega
  refine LoopK.of (fun t w => ∃ j : Nat, t = (j : Int) ∧ j ≤ la.length ∧ (la.take j).map Prod.fst = (lb.take j).map Prod.fst ∧ Holds B Γ w) (fun t _ => ((a.n : Int) - t).toNat) ⟨0, rfl, by omega, rfl, h⟩ ?_
  clear h
  rintro t w ⟨j, rfl, hj, he, h⟩
  unfold ref19_SamePackets.b1
  refine r_ite (fun hlt => ?_) (fun hlt => ?_)
  · simp only [decide_eq_true_eq] at hlt
    have hja : j < la.length := by omega
    have hx : la[j]? = some la[j] := List.getElem?_eq_getElem hja
    generalize la[j] = x at hx
    have hy : lb[j]? = some (lb[j]'(by omega)) := List.getElem?_eq_getElem (by omega)
    generalize lb[j]'(by omega) = y at hy
    refine r_dr h ?_
    clear h
    intro w h
    have hno : x.1 ≠ y.1 → k false w := fun hne2 => by
      have e : decide (la.map Prod.fst = lb.map Prod.fst) = false := by
        cases hd : decide (la.map Prod.fst = lb.map Prod.fst) with
        | false => rfl
        | true => exact (map_ne hx hy hne2 hd).elim
      rw [← e]; exact hk _ h
    unfold ref19_SamePackets.s2
    refine r_idxA pkF pkF_len (by decide) (ha w h) hx fun t19 ht1 => ?_
    rw [← add_zero' t19]
    refine r_ldF (x := x.1.ep) 0 (ht1 w (ha w h)) (show 0 < 5 by decide) rfl ?_
    refine r_idxA pkF pkF_len (by decide) (hb w h) hy fun t24 ht2 => ?_
    rw [← add_zero' t24]
    refine r_ldF (x := y.1.ep) 0 (ht2 w (hb w h)) (show 0 < 5 by decide) rfl ?_
    refine r_ite (fun hne => r_ite_t rfl (hno fun e => by rw [e] at hne; simp at hne)) (fun hq1 => ?_)
    refine r_idxA pkF pkF_len (by decide) (ha w h) hx fun t19 ht1 => ?_
    refine r_ldF (x := x.1.pe) 1 (ht1 w (ha w h)) (show 1 < 5 by decide) rfl ?_
    refine r_idxA pkF pkF_len (by decide) (hb w h) hy fun t24 ht2 => ?_
    refine r_ldF (x := y.1.pe) 1 (ht2 w (hb w h)) (show 1 < 5 by decide) rfl ?_
    refine r_ite (fun hne => r_ite_t rfl (hno fun e => by rw [e] at hne; simp at hne)) (fun hq2 => ?_)
    refine r_idxA pkF pkF_len (by decide) (ha w h) hx fun t19 ht1 => ?_
    refine r_ldF (x := x.1.sq) 2 (ht1 w (ha w h)) (show 2 < 5 by decide) rfl ?_
    refine r_idxA pkF pkF_len (by decide) (hb w h) hy fun t24 ht2 => ?_
    refine r_ldF (x := y.1.sq) 2 (ht2 w (hb w h)) (show 2 < 5 by decide) rfl ?_
    refine r_ite (fun hne => r_ite_t rfl (hno fun e => by rw [e] at hne; simp at hne)) (fun hq3 => ?_)
    refine r_idxA pkF pkF_len (by decide) (ha w h) hx fun t19 ht1 => ?_
    refine r_ldF (x := x.1.ak) 3 (ht1 w (ha w h)) (show 3 < 5 by decide) rfl ?_
    refine r_idxA pkF pkF_len (by decide) (hb w h) hy fun t24 ht2 => ?_
    refine r_ldF (x := y.1.ak) 3 (ht2 w (hb w h)) (show 3 < 5 by decide) rfl ?_
    refine r_ite (fun hne => r_ite_t rfl (hno fun e => by rw [e] at hne; simp at hne)) (fun hq4 => ?_)
    refine r_idxA pkF pkF_len (by decide) (ha w h) hx fun t19 ht1 => ?_
    refine r_ldF (x := x.2) 4 (ht1 w (ha w h)) (show 4 < 5 by decide) rfl ?_
    refine r_str (by kernel_rfl) (hda x (List.mem_of_getElem? hx) w h) ?_
    refine r_idxA pkF pkF_len (by decide) (hb w h) hy fun t24 ht2 => ?_
    refine r_ldF (x := y.2) 4 (ht2 w (hb w h)) (show 4 < 5 by decide) rfl ?_
    refine r_str (by kernel_rfl) (hdb y (List.mem_of_getElem? hy) w h) ?_
    rw [str_toList, str_toList]
    refine r_ite (fun hne => hno fun e => by rw [e] at hne; simp at hne) (fun hq5 => ?_)
    have heq : x.1 = y.1 := by
      obtain ⟨⟨a1, a2, a3, a4, a5⟩, sx⟩ := x
      obtain ⟨⟨b1, b2, b3, b4, b5⟩, sy⟩ := y
      simp at hq1 hq2 hq3 hq4 hq5
      simp [hq1, hq2, hq3, hq4, hq5]
    refine r_add64 (by omega) (by omega) ?_
    refine ⟨⟨j + 1, by omega, by omega, ?_, h⟩, by omega⟩
    rw [take_map_succ hx, take_map_succ hy, he, heq]
  · simp only [decide_eq_false_iff_not] at hlt
    rw [List.take_of_length_le (by omega), List.take_of_length_le (by omega)] at he
    rw [← decide_eq_true he]
    exact hk _ h

theorem SamePkR {a b : Sl} {l m : List PacketD} {k : Bool → K} (hl : l.length ≤ 1000000000) (h : Holds B (PkR a l :: PkR b m :: Γ) w) (hk : ∀ w, Holds B (PkR a l :: PkR b m :: Γ) w → k (decide (l = m)) w) : ref19_SamePackets.call a b k w := by
  obtain ⟨la, hla, h⟩ := PkR.opens h
  replace h := h.pick 2 at2
  try simp only [List.set_cons_zero, List.set_cons_succ, List.eraseIdx_zero, List.eraseIdx_cons_zero, List.eraseIdx_cons_succ, List.setIfInBounds_toArray, List.tail_cons] at h
  obtain ⟨lb, hlb, h⟩ := PkR.opens h
  refine SamePackets_spec (la := la) (lb := lb) (by have := congrArg List.length hla; simp at this; omega) h (fun w h => h.rdC (List.mem_cons_of_mem _ (List.mem_cons_of_mem _ List.mem_cons_self))) (fun w h => h.rdC List.mem_cons_self)
    (fun x hx w h => stars_rd (f := pkB) 3 h rfl hx rfl) (fun x hx w h => stars_rd (f := pkB) 1 h rfl hx rfl) fun w h => ?_
  rw [hla, hlb]
  replace h := PkR.shuts hlb h
  replace h := h.pick 2 at2
  try simp only [List.set_cons_zero, List.set_cons_succ, List.eraseIdx_zero, List.eraseIdx_cons_zero, List.eraseIdx_cons_succ, List.setIfInBounds_toArray, List.tail_cons] at h
  replace h := h.pick 2 at2
  try simp only [List.set_cons_zero, List.set_cons_succ, List.eraseIdx_zero, List.eraseIdx_cons_zero, List.eraseIdx_cons_succ, List.setIfInBounds_toArray, List.tail_cons] at h
  exact hk _ (PkR.shuts hla h)
theorem map_one {α β : Type} {ls : List (α × β)} {p : α} (h : ls.map Prod.fst = [p]) : ∃ x, ls = [x] ∧ x.1 = p := by
  cases ls with
  | nil => cases h
  | cons x l =>
    cases l with
    | nil => exact ⟨x, rfl, by simpa using h⟩
    | cons y l => simp at h
theorem PkR.one' {b : Nat} {p : PacketD} {d : Sl} (h : Holds B (blk b (.cells (pkV p d) ty_api_Packet (0, 0)) :: Bytes ty_uint8 d p.da :: Γ) w) : Holds B (PkR ⟨some ⟨b, 0, none⟩, 1, 1⟩ [p] :: Γ) w := by
  refine PkR.shuts (ls := [(p, d)]) rfl ?_
  have h1 : Holds B (SlC ty_api_Packet 5 ⟨some ⟨b, 0, none⟩, 1, 1⟩ (pkF (p, d)) :: Bytes ty_uint8 d p.da :: Γ) w := h.imp (blk_SlC rfl rfl)
  have h3 : Holds B (stars ([pkB (p, d)]) :: SlC ty_api_Packet 5 ⟨some ⟨b, 0, none⟩, 1, 1⟩ (pkF (p, d)) :: Γ) w := Holds.flat.2 h1.swap
  exact h3.swap

theorem new_ok (ep : Int) : (LinkD.mk ep 0 1 1 [] []).ok 100 := ⟨by simp, by simp, by simp, by simp, by simp, by simp⟩
theorem wire_x : ([120] : List UInt8).map byteV = [Value.int .u8 120] := rfl

theorem law19_speaks_spec {k : Bool → K} (h : Holds B Γ w) (hk : ∀ w, Holds B Γ w → k true w) : law19_speaks.call k w := by
  refine law19_speaks_ok _ _ ?_
  unfold law19_speaks
  refine link_New_spec h fun a w h => ?_
  refine link_New_spec h fun b w h => ?_
  refine r_ite_f rfl ?_
  refine r_ite_f rfl ?_
  refine r_new h ?_
  clear h
  intro t16 w h
  try simp only [add_mk, Nat.zero_add, Nat.reduceAdd]
  refine r_mark (by kernel_rfl) h rfl fun w h => ?_
  refine link_Send_spec (xs := [120]) (h.pick 2 at2) (fun w h => h.rdC (List.mem_cons_of_mem _ List.mem_cons_self)) (by simp) (fun hb => by simp at hb) fun _ w h => ?_
  unfold law19_speaks.s1
  refine r_ite_f rfl ?_
  simp only [List.nil_append] at h
  have hoka : (LinkD.mk 1 0 1 1 [[120]] []).ok 100 := ⟨by simp, by simp, by simp, by simp, by simp, by simp⟩
  refine link_Packets_spec (hoka.mono (by decide)) h fun s1 w h => ?_
  rw [show LinkD.packets ⟨1, 0, 1, 1, [[120]], []⟩ = [⟨1, 0, 0, 0, []⟩] by simp [LinkD.packets]] at h
  refine r_bld1 rfl rfl ?_
  refine r_new h ?_
  clear h
  intro t25 w h
  try simp only [add_mk, Nat.zero_add, Nat.reduceAdd]
  replace h := (PkR.one (p := ⟨1, 0, 0, 0, []⟩) rfl h).swap
  refine SamePkR (by simp) h fun w h => ?_
  refine r_ite_f (by simp) ?_
  try simp only [List.set_cons_zero, List.set_cons_succ, List.eraseIdx_zero, List.eraseIdx_cons_zero, List.eraseIdx_cons_succ, List.setIfInBounds_toArray, List.tail_cons] at h
  obtain ⟨ls, hls, h⟩ := PkR.opens h
  obtain ⟨x, rfl, hx⟩ := map_one hls
  refine r_idxN pkF pkF_len (by decide) (j := 0) (x := x) (cs := pkV x.1 x.2) (h.rdC List.mem_cons_self) rfl rfl fun t31 => ?_
  rw [hx]
  replace h := h.pick 3 at3
  try simp only [List.set_cons_zero, List.set_cons_succ, List.eraseIdx_zero, List.eraseIdx_cons_zero, List.eraseIdx_cons_succ, List.setIfInBounds_toArray, List.tail_cons] at h
  replace h := h.pick 2 at2
  try simp only [List.set_cons_zero, List.set_cons_succ, List.eraseIdx_zero, List.eraseIdx_cons_zero, List.eraseIdx_cons_succ, List.setIfInBounds_toArray, List.tail_cons] at h
  replace h := h.pick 2 at2
  try simp only [List.set_cons_zero, List.set_cons_succ, List.eraseIdx_zero, List.eraseIdx_cons_zero, List.eraseIdx_cons_succ, List.setIfInBounds_toArray, List.tail_cons] at h
  replace h := h.pick 5 at5
  try simp only [List.set_cons_zero, List.set_cons_succ, List.eraseIdx_zero, List.eraseIdx_cons_zero, List.eraseIdx_cons_succ, List.setIfInBounds_toArray, List.tail_cons] at h
  replace h := h.del 4 at4
  try simp only [List.set_cons_zero, List.set_cons_succ, List.eraseIdx_zero, List.eraseIdx_cons_zero, List.eraseIdx_cons_succ, List.setIfInBounds_toArray, List.tail_cons] at h
  replace h := h.del 4 at4
  try simp only [List.set_cons_zero, List.set_cons_succ, List.eraseIdx_zero, List.eraseIdx_cons_zero, List.eraseIdx_cons_succ, List.setIfInBounds_toArray, List.tail_cons] at h
  refine link_Receive_spec (p := ⟨1, 0, 0, 0, []⟩) (data := x.2) ((new_ok 2).mono (by decide)) (by simp) (by simp) (by simp) (by simp) h (fun w h => by have := stars_rd (f := pkB) 1 h rfl (List.mem_singleton.2 rfl : x ∈ [x]) rfl; rw [hx] at this; exact this) fun c1 a1 w h => ?_
  rw [show LinkD.receive ⟨2, 0, 1, 1, [], []⟩ ⟨1, 0, 0, 0, []⟩ = (⟨2, 1, 1, 1, [], []⟩, [], [⟨2, 1, 0, 0, []⟩]) by simp [LinkD.receive, LinkD.meet, LinkD.helloP]] at h
  simp only at h
  replace h := h.pick 5 at5
  try simp only [List.set_cons_zero, List.set_cons_succ, List.eraseIdx_zero, List.eraseIdx_cons_zero, List.eraseIdx_cons_succ, List.setIfInBounds_toArray, List.tail_cons] at h
  replace h := h.pick 2 at2
  try simp only [List.set_cons_zero, List.set_cons_succ, List.eraseIdx_zero, List.eraseIdx_cons_zero, List.eraseIdx_cons_succ, List.setIfInBounds_toArray, List.tail_cons] at h
  replace h := h.del 2 at2
  try simp only [List.set_cons_zero, List.set_cons_succ, List.eraseIdx_zero, List.eraseIdx_cons_zero, List.eraseIdx_cons_succ, List.setIfInBounds_toArray, List.tail_cons] at h
  replace h := h.del 2 at2
  try simp only [List.set_cons_zero, List.set_cons_succ, List.eraseIdx_zero, List.eraseIdx_cons_zero, List.eraseIdx_cons_succ, List.setIfInBounds_toArray, List.tail_cons] at h
  replace h := h.del 2 at2
  try simp only [List.set_cons_zero, List.set_cons_succ, List.eraseIdx_zero, List.eraseIdx_cons_zero, List.eraseIdx_cons_succ, List.setIfInBounds_toArray, List.tail_cons] at h
  replace h := h.del 2 at2
  try simp only [List.set_cons_zero, List.set_cons_succ, List.eraseIdx_zero, List.eraseIdx_cons_zero, List.eraseIdx_cons_succ, List.setIfInBounds_toArray, List.tail_cons] at h
  refine r_bld1 rfl rfl ?_
  refine r_new h ?_
  clear h
  intro t38 w h
  try simp only [add_mk, Nat.zero_add, Nat.reduceAdd]
  replace h := (PkR.one (p := ⟨2, 1, 0, 0, []⟩) rfl h).swap
  refine SamePkR (by simp) h fun w h => ?_
  refine r_ite_f (by simp) ?_
  obtain ⟨ls, hls, h⟩ := PkR.opens h
  obtain ⟨y, rfl, hy⟩ := map_one hls
  refine r_idxN pkF pkF_len (by decide) (j := 0) (x := y) (cs := pkV y.1 y.2) (h.rdC List.mem_cons_self) rfl rfl fun t31 => ?_
  rw [hy]
  replace h := h.pick 1 at1
  try simp only [List.set_cons_zero, List.set_cons_succ, List.eraseIdx_zero, List.eraseIdx_cons_zero, List.eraseIdx_cons_succ, List.setIfInBounds_toArray, List.tail_cons] at h
  replace h := h.pick 3 at3
  try simp only [List.set_cons_zero, List.set_cons_succ, List.eraseIdx_zero, List.eraseIdx_cons_zero, List.eraseIdx_cons_succ, List.setIfInBounds_toArray, List.tail_cons] at h
  replace h := h.del 2 at2
  try simp only [List.set_cons_zero, List.set_cons_succ, List.eraseIdx_zero, List.eraseIdx_cons_zero, List.eraseIdx_cons_succ, List.setIfInBounds_toArray, List.tail_cons] at h
  replace h := h.del 2 at2
  try simp only [List.set_cons_zero, List.set_cons_succ, List.eraseIdx_zero, List.eraseIdx_cons_zero, List.eraseIdx_cons_succ, List.setIfInBounds_toArray, List.tail_cons] at h
  refine link_Receive_spec (p := ⟨2, 1, 0, 0, []⟩) (data := y.2) (hoka.mono (by decide)) (by simp) (by simp) (by simp) (by simp) h (fun w h => by have := stars_rd (f := pkB) 0 h rfl (List.mem_singleton.2 rfl : y ∈ [y]) rfl; rw [hy] at this; exact this) fun c2 a2 w h => ?_
  rw [show LinkD.receive ⟨1, 0, 1, 1, [[120]], []⟩ ⟨2, 1, 0, 0, []⟩ = (⟨1, 2, 1, 1, [[120]], []⟩, [], []) by simp [LinkD.receive, LinkD.meet, LinkD.helloP, LinkD.ack, ackL]] at h
  simp only at h
  replace h := h.pick 2 at2
  try simp only [List.set_cons_zero, List.set_cons_succ, List.eraseIdx_zero, List.eraseIdx_cons_zero, List.eraseIdx_cons_succ, List.setIfInBounds_toArray, List.tail_cons] at h
  replace h := h.del 1 at1
  try simp only [List.set_cons_zero, List.set_cons_succ, List.eraseIdx_zero, List.eraseIdx_cons_zero, List.eraseIdx_cons_succ, List.setIfInBounds_toArray, List.tail_cons] at h
  replace h := h.del 1 at1
  try simp only [List.set_cons_zero, List.set_cons_succ, List.eraseIdx_zero, List.eraseIdx_cons_zero, List.eraseIdx_cons_succ, List.setIfInBounds_toArray, List.tail_cons] at h
  replace h := h.del 1 at1
  try simp only [List.set_cons_zero, List.set_cons_succ, List.eraseIdx_zero, List.eraseIdx_cons_zero, List.eraseIdx_cons_succ, List.setIfInBounds_toArray, List.tail_cons] at h
  have hoka : (LinkD.mk 1 2 1 1 [[120]] []).ok 100 := ⟨by simp, by simp, by simp, by simp, by simp, by simp⟩
  refine link_Packets_spec (hoka.mono (by decide)) h fun s3 w h => ?_
  rw [show LinkD.packets ⟨1, 2, 1, 1, [[120]], []⟩ = [⟨1, 2, 1, 0, [120]⟩] by simp [LinkD.packets]] at h
  refine r_new h ?_
  clear h
  intro t48 w h
  try simp only [add_mk, Nat.zero_add, Nat.reduceAdd]
  refine r_mark (by kernel_rfl) h rfl fun w h => ?_
  refine r_bld1 rfl rfl ?_
  refine r_new h ?_
  clear h
  intro t51 w h
  try simp only [add_mk, Nat.zero_add, Nat.reduceAdd]
  replace h := (PkR.one' (p := ⟨1, 2, 1, 0, [120]⟩) h).swap
  refine SamePkR (by simp) h fun w h => ?_
  exact hk _ h.tail.tail.tail
end
end Go.Proofs.Ytilejcnbacmdnaa
