/- A B-tree: New, Get and Put. Holds for every program. -/
import Derived.Test.YtfjjocopmknhgaaBt4
namespace Go.Sep
open Go Go.RowKit
set_option linter.unusedSimpArgs false
set_option linter.unusedVariables false
namespace Bt
section
variable {κ : Type} {G : BtT κ} {c : κ → κ → Int} {B : World} {Γ Δ : List HProp}
/-- A tree of the items L, in their keys' order. -/
def TreeR (G : BtT κ) (c : κ → κ → Int) (t : Nat) (L : List G.It) : HProp := ex fun d => ex fun b => Sep.stars [pur (Srt c L), blk t (.cells [.pointer (some ⟨b, 0, none⟩), .int .i64 L.length].toArray G.tT (0, 0)), NodeR G d 1 b L]
instance (priority := high) own_tree {t : Nat} {L : List G.It} : Own t (TreeR G c t L :: Γ) (TreeR G c t L) Γ := ⟨.refl _⟩
theorem s_tree {t : Nat} {L : List G.It} {k : K} (h : ∀ d b, Srt c L → HG B (blk t (.cells [.pointer (some ⟨b, 0, none⟩), .int .i64 L.length].toArray G.tT (0, 0)) :: NodeR G d 1 b L :: Γ) k) : HG B (TreeR G c t L :: Γ) k :=
  s_ex fun d => s_ex fun b => s_flat <| s_pur fun h1 => h d b h1
theorem tree_of {t d b : Nat} {L : List G.It} {w : World} (h1 : Srt c L) (hw : Holds B (blk t (.cells [.pointer (some ⟨b, 0, none⟩), .int .i64 L.length].toArray G.tT (0, 0)) :: NodeR G d 1 b L :: Γ) w) : Holds B (TreeR G c t L :: Γ) w := by
  have h3 : Holds B (Sep.stars [pur (Srt c L), blk t (.cells [.pointer (some ⟨b, 0, none⟩), .int .i64 L.length].toArray G.tT (0, 0)), NodeR G d 1 b L] :: Γ) w := Holds.flat.2 (Holds.pur.2 ⟨h1, hw⟩)
  exact h3.imp fun g hg => ⟨d, b, hg⟩
theorem s_mkTree {t d b : Nat} {L : List G.It} {k : K} (h1 : Srt c L) (h : HG B (TreeR G c t L :: Γ) k) : HG B (blk t (.cells [.pointer (some ⟨b, 0, none⟩), .int .i64 L.length].toArray G.tT (0, 0)) :: NodeR G d 1 b L :: Γ) k := fun w hw => h w (tree_of h1 hw)
/-- Tree's facts. -/
theorem tree_srt {t : Nat} {L : List G.It} {k : K} (h : Srt c L → HG B (TreeR G c t L :: Γ) k) : HG B (TreeR G c t L :: Γ) k := s_tree fun d b h1 => s_mkTree h1 (h h1)

theorem tnew_spec {Q : Option Addr → K} (h : ∀ t, HG B (TreeR G c t [] :: Γ) (Q (some ⟨t, 0, none⟩))) : HG B Γ (tnew G Q) := by
  unfold tnew
  refine s_new fun b => ?_
  refine s_new fun t => ?_
  refine fun w hw => ?_
  refine hg (show Holds B (SlC G.tI (G.nv + 1) ⟨none, 0, 0⟩ [] :: _) w from hw.nilSl G.tI (G.nv + 1)) ?_
  refine fun w hw => ?_
  refine hg (show Holds B (SlC G.tK 1 ⟨none, 0, 0⟩ [] :: _) w from hw.nilSl G.tK 1) ?_
  refine s_end (Δ := nodeB G b ⟨none, 0, 0⟩ ⟨none, 0, 0⟩ :: SlC G.tI (G.nv + 1) ⟨none, 0, 0⟩ [] :: SlC G.tK 1 ⟨none, 0, 0⟩ [] :: blk t (.cells [.pointer (some ⟨b, 0, none⟩), .int .i64 0].toArray G.tT (0, 0)) :: Γ) ?_
  refine s_mk0 (m := 1) (L := []) (by simp) (by simp) ?_
  refine s_swap ?_
  exact s_mkTree (L := []) List.Pairwise.nil (h t)

theorem NodeR.weak {d m m' b : Nat} {L : List G.It} (hm : m' = 2 → m = 2) (hm' : 1 ≤ m' → 1 ≤ m) : ∀ h, NodeR G d m b L h → NodeR G d m' b L h := fun h hh => by
  cases d with
  | zero =>
    obtain ⟨s, kd, hh⟩ := hh
    exact ⟨s, kd, stars_cons_imp (fun g hg => ⟨fun h2 => hg.1 (hm h2), hg.2⟩) (fun _ h => h) hh⟩
  | succ d =>
    obtain ⟨s, kd, q0, ps, hh⟩ := hh
    exact ⟨s, kd, q0, ps, stars_cons_imp (fun g hg => ⟨fun h2 => hg.1 (hm' h2), hg.2⟩) (fun _ h => h) hh⟩

theorem PutR.srt (ok : BtOk G c) {ν : Type} {z v old : ν} {L L' : List (κ × ν)} {k : κ} {had : Bool} (h : PutR c z L k v L' old had) (hs : Srt c L) : Srt c L' := by
  rcases h with ⟨A, C, rfl, rfl, rfl⟩ | ⟨A, C, rfl, h1, h2, rfl, rfl, rfl⟩
  · obtain ⟨a1, a2, a3⟩ := List.pairwise_append.1 hs
    obtain ⟨b1, b2⟩ := List.pairwise_cons.1 a2
    refine List.pairwise_append.2 ⟨a1, List.pairwise_cons.2 ⟨fun y hy => b1 y hy, b2⟩, fun x hx y hy => ?_⟩
    rcases List.mem_cons.1 hy with rfl | hy
    · exact a3 x hx (k, old) List.mem_cons_self
    · exact a3 x hx y (List.mem_cons_of_mem _ hy)
  · obtain ⟨a1, a2, a3⟩ := List.pairwise_append.1 hs
    refine List.pairwise_append.2 ⟨a1, List.pairwise_cons.2 ⟨fun y hy => h2 y hy, a2⟩, fun x hx y hy => ?_⟩
    rcases List.mem_cons.1 hy with rfl | hy
    · exact h1 x hx
    · exact a3 x hx y hy
theorem PutR.len {ν : Type} {z v old : ν} {L L' : List (κ × ν)} {k : κ} {had : Bool} (h : PutR c z L k v L' old had) : L'.length = L.length + (if had then 0 else 1) := by
  rcases h with ⟨A, C, rfl, rfl, rfl⟩ | ⟨A, C, rfl, h1, h2, rfl, rfl, rfl⟩
  · simp
  · simp; omega

theorem fill_kv {kz a : Value} {vz us : List Value} {n : Nat} (ha : flatV a = true) (hz : vz.length = n) (hu : us.length = n) : Instr.fill ([(0, 1), (1, n)][·]?) (kz :: vz).toArray [(0, a), (1, .agg us.toArray)] = some (a :: us).toArray := by
  have h0 : a.cells = #[a] := by cases a <;> first | rfl | (simp [flatV] at ha)
  have h1 : (Value.agg us.toArray).cells = us.toArray := rfl
  have e0 : ([(0, 1), (1, n)] : List (Nat × Nat))[0]? = some (0, 1) := rfl
  have e1 : ([(0, 1), (1, n)] : List (Nat × Nat))[1]? = some (1, n) := rfl
  simp only [Instr.fill, h0, h1, e0, e1]
  have h2 := foldl_set_all us [a] vz (by simp; omega)
  simp [hu, hz]
  refine ⟨by omega, ?_⟩
  rw [show [a].length = 1 from rfl, List.zipIdx_eq_map_add, List.foldl_map] at h2
  simpa [Nat.add_comm] using h2
theorem s_tput3 (ok : BtOk G c) {o t6 : Nat} {old : Cel G.nv} {v6 : Cel G.nv} {had : Bool} {Q : Array Value → Bool → K} (h : HG B Γ (Q old.1.toArray had)) : HG B (valB G o old :: valB G t6 v6 :: Γ) (tput_s3 G Q ⟨t6, 0, none⟩ ⟨o, 0, none⟩ had) := by
  unfold tput_s3
  have e : (old.1.drop 0).take G.nv = old.1 := by rw [List.drop_zero, List.take_of_length_le (Nat.le_of_eq old.2.1)]
  refine s_ldN (b := o) ?_ e old.2.1
  refine s_stN (b := t6) ?_ v6.2.1 old.2.1 old.2.2
  refine s_ldN (b := t6) ?_ e old.2.1
  exact s_end h
theorem s_tput2 (ok : BtOk G c) {o t t6 d b n : Nat} {L L' : List G.It} {k : κ} {v old v6 : Cel G.nv} {had : Bool} {Q : Array Value → Bool → K} (hs : Srt c L) (hL : L.length < 1000000000) (hp : PutR c (G.z0 ok.vz) L k v L' old had)
    (h : HG B (TreeR G c t L' :: Γ) (Q old.1.toArray had)) :
    HG B (valB G o old :: valB G t6 v6 :: blk t (.cells [.pointer (some ⟨b, 0, none⟩), .int .i64 L.length].toArray G.tT (0, 0)) :: NodeR G d 1 b L' :: Γ) (tput_s2 G Q (some ⟨t, 0, none⟩) ⟨t6, 0, none⟩ ⟨o, 0, none⟩ had) := by
  unfold tput_s2
  have hlen := hp.len
  refine s_ite (fun hb => ?_) fun hb => ?_
  · have h0 : had = false := by simpa using hb
    refine s_nn ?_
    refine s_ld (b := t) (x := (L.length : Int)) ?_
    refine s_ai ?_
    refine s_st (b := t) ?_
    rw [show ((L.length : Nat) : Int) + 1 = ((L'.length : Nat) : Int) by rw [hlen, h0]; simp]
    refine s_end (Δ := valB G o old :: valB G t6 v6 :: blk t (.cells [.pointer (some ⟨b, 0, none⟩), .int .i64 L'.length].toArray G.tT (0, 0)) :: NodeR G d 1 b L' :: Γ) ?_
    refine s_tput3 ok ?_
    exact s_mkTree (hp.srt ok hs) h
  · have h0 : had = true := by simpa using hb
    rw [show ((L.length : Nat) : Int) = ((L'.length : Nat) : Int) by rw [hlen, h0]; simp]
    refine s_tput3 ok ?_
    exact s_mkTree (hp.srt ok hs) h

theorem s_tput1 (ok : BtOk G c) {o t t6 d b n : Nat} {L L' : List G.It} {k : κ} {v old v6 : Cel G.nv} {had : Bool} {Q : Array Value → Bool → K} (hs : Srt c L) (hL : L.length < 1000000000) (hp : PutR c (G.z0 ok.vz) L k v L' old had)
    (h : HG B (TreeR G c t L' :: Γ) (Q old.1.toArray had)) :
    HG B (valB G o old :: valB G t6 v6 :: blk t (.cells [.pointer (some ⟨b, 0, none⟩), .int .i64 L.length].toArray G.tT (0, 0)) :: NodeR G d 2 b L' :: Γ) (tput_s1 G Q (some ⟨t, 0, none⟩) ⟨t6, 0, none⟩ ⟨o, 0, none⟩ had none none) := by
  unfold tput_s1
  refine s_f ?_
  refine s_own b ?_
  refine s_conv (NodeR.weak (m' := 1) (by simp) (by simp)) ?_
  refine s_end (Δ := valB G o old :: valB G t6 v6 :: blk t (.cells [.pointer (some ⟨b, 0, none⟩), .int .i64 L.length].toArray G.tT (0, 0)) :: NodeR G d 1 b L' :: Γ) ?_
  exact s_tput2 ok (n := n) hs hL hp h
theorem s_root {b r b2 t1 t2 d : Nat} {M1 M2 : List G.It} {x : G.It} {k : K} (h : HG B (NodeR G (d + 1) 1 b2 (M1 ++ x :: M2) :: Γ) k) :
    HG B (nodeB G b2 ⟨some ⟨t1, 0, none⟩, 1, 1⟩ ⟨some ⟨t2, 0, none⟩, 2, 2⟩ :: blk t1 (.cells (G.f x).toArray G.tI (0, 0)) :: blk t2 (.cells [.pointer (some ⟨b, 0, none⟩), .pointer (some ⟨r, 0, none⟩)].toArray G.tK (0, 0)) :: NodeR G d 2 b M1 :: NodeR G d 2 r M2 :: Γ) k := by
  refine s_own t1 ?_
  refine s_conv (A' := itsR G ⟨some ⟨t1, 0, none⟩, 1, 1⟩ [x]) (blk_SlC (vs := [x].flatMap G.f) (by simp) (by simp [G.f_len])) ?_
  refine s_own t2 ?_
  refine s_conv (A' := kpsR G ⟨some ⟨t2, 0, none⟩, 2, 2⟩ [some ⟨b, 0, none⟩, some ⟨r, 0, none⟩]) (blk_SlC (vs := [Value.pointer (some ⟨b, 0, none⟩), Value.pointer (some ⟨r, 0, none⟩)]) (by simp) (by simp)) ?_
  refine fun w hw => ?_
  refine hg (show Holds B (kidsR G d [] :: _) w from Holds.flat.2 hw) ?_
  refine s_end (Δ := NodeR G d 2 r M2 :: kidsR G d [] :: NodeR G d 2 b M1 :: nodeB G b2 ⟨some ⟨t1, 0, none⟩, 1, 1⟩ ⟨some ⟨t2, 0, none⟩, 2, 2⟩ :: itsR G ⟨some ⟨t1, 0, none⟩, 1, 1⟩ [x] :: kpsR G ⟨some ⟨t2, 0, none⟩, 2, 2⟩ [some ⟨b, 0, none⟩, some ⟨r, 0, none⟩] :: Γ) ?_
  show HG B (_ :: kidsR G d ([] ++ []) :: _) k
  refine s_unkid (A := []) (C := []) (q := (r, M2)) ?_
  refine s_swap ?_
  refine s_unkid (A := []) (C := [(r, M2)]) (q := (b, M1)) ?_
  show HG B (kidsR G d (((b, M1) : Kid G) :: [(x, ((r, M2) : Kid G))].map Prod.snd) :: _ :: itsR G ⟨some ⟨t1, 0, none⟩, 1, 1⟩ ([(x, ((r, M2) : Kid G))].map Prod.fst) :: kpsR G ⟨some ⟨t2, 0, none⟩, 2, 2⟩ ((((b, M1) : Kid G) :: [(x, ((r, M2) : Kid G))].map Prod.snd).map ptr) :: _) k
  refine s_end (Δ := nodeB G b2 ⟨some ⟨t1, 0, none⟩, 1, 1⟩ ⟨some ⟨t2, 0, none⟩, 2, 2⟩ :: itsR G ⟨some ⟨t1, 0, none⟩, 1, 1⟩ ([(x, ((r, M2) : Kid G))].map Prod.fst) :: kpsR G ⟨some ⟨t2, 0, none⟩, 2, 2⟩ ((((b, M1) : Kid G) :: [(x, ((r, M2) : Kid G))].map Prod.snd).map ptr) :: kidsR G d (((b, M1) : Kid G) :: [(x, ((r, M2) : Kid G))].map Prod.snd) :: Γ) ?_
  refine s_mkS (m := 1) (by simp) (by simp) ?_
  have e : psL ((b, M1) : Kid G) [(x, (r, M2))] = M1 ++ x :: M2 := by simp [psL]
  rw [e]; exact h
theorem s_tput1b (ok : BtOk G c) {o t t6 d b n r mb : Nat} {L M1 M2 : List G.It} {x : G.It} {k : κ} {v old v6 : Cel G.nv} {had : Bool} {Q : Array Value → Bool → K} (hs : Srt c L) (hL : L.length < 1000000000) (hp : PutR c (G.z0 ok.vz) L k v (M1 ++ x :: M2) old had)
    (h : HG B (TreeR G c t (M1 ++ x :: M2) :: Γ) (Q old.1.toArray had)) :
    HG B (valB G o old :: valB G t6 v6 :: blk t (.cells [.pointer (some ⟨b, 0, none⟩), .int .i64 L.length].toArray G.tT (0, 0)) :: blk mb (.cells (G.f x).toArray G.tI (0, 0)) :: NodeR G d 2 b M1 :: NodeR G d 2 r M2 :: Γ) (tput_s1 G Q (some ⟨t, 0, none⟩) ⟨t6, 0, none⟩ ⟨o, 0, none⟩ had (some ⟨mb, 0, none⟩) (some ⟨r, 0, none⟩)) := by
  unfold tput_s1
  refine s_t ?_
  refine s_dr ?_
  refine s_ws ?_
  refine s_nn ?_
  refine s_nn ?_
  refine s_ldNS (b := mb) (l' := G.f x) ?_ (List.take_of_length_le (by simp [G.f_len])) (G.f_len _)
  refine s_ldS (b := t) (x := some ⟨b, 0, none⟩) ?_
  refine s_all2 ?_ ?_
  · refine s_bld1 ?_ (by simp [ok.vz.1]) (G.f_len _)
    refine s_new fun t1 => ?_
    refine s_sv ?_
    refine s_new fun t2 => ?_
    refine s_sv ?_
    refine s_new fun b2 => ?_
    refine s_st (b := t) ?_
    refine s_end (Δ := nodeB G b2 ⟨some ⟨t1, 0, none⟩, 1, 1⟩ ⟨some ⟨t2, 0, none⟩, 2, 2⟩ :: blk t1 (.cells (G.f x).toArray G.tI (0, 0)) :: blk t2 (.cells [.pointer (some ⟨b, 0, none⟩), .pointer (some ⟨r, 0, none⟩)].toArray G.tK (0, 0)) :: NodeR G d 2 b M1 :: NodeR G d 2 r M2 :: valB G o old :: valB G t6 v6 :: blk t (.cells [.pointer (some ⟨b2, 0, none⟩), .int .i64 L.length].toArray G.tT (0, 0)) :: Γ) ?_
    refine s_root ?_
    refine s_end (Δ := valB G o old :: valB G t6 v6 :: blk t (.cells [.pointer (some ⟨b2, 0, none⟩), .int .i64 L.length].toArray G.tT (0, 0)) :: NodeR G (d + 1) 1 b2 (M1 ++ x :: M2) :: Γ) ?_
    exact s_tput2 ok (n := n) hs hL hp h
  · refine s_new fun t2 => ?_
    refine s_sv ?_
    refine s_bld1 ?_ (by simp [ok.vz.1]) (G.f_len _)
    refine s_new fun t1 => ?_
    refine s_sv ?_
    refine s_new fun b2 => ?_
    refine s_st (b := t) ?_
    refine s_end (Δ := nodeB G b2 ⟨some ⟨t1, 0, none⟩, 1, 1⟩ ⟨some ⟨t2, 0, none⟩, 2, 2⟩ :: blk t1 (.cells (G.f x).toArray G.tI (0, 0)) :: blk t2 (.cells [.pointer (some ⟨b, 0, none⟩), .pointer (some ⟨r, 0, none⟩)].toArray G.tK (0, 0)) :: NodeR G d 2 b M1 :: NodeR G d 2 r M2 :: valB G o old :: valB G t6 v6 :: blk t (.cells [.pointer (some ⟨b2, 0, none⟩), .int .i64 L.length].toArray G.tT (0, 0)) :: Γ) ?_
    refine s_root ?_
    refine s_end (Δ := valB G o old :: valB G t6 v6 :: blk t (.cells [.pointer (some ⟨b2, 0, none⟩), .int .i64 L.length].toArray G.tT (0, 0)) :: NodeR G (d + 1) 1 b2 (M1 ++ x :: M2) :: Γ) ?_
    exact s_tput2 ok (n := n) hs hL hp h

/-- Put. -/
theorem tput_spec (ok : BtOk G c) {t : Nat} {L : List G.It} {k : κ} {v : Cel G.nv} {Q : Array Value → Bool → K} (hL : L.length < 1000000000) (h : ∀ L' old had, PutR c (G.z0 ok.vz) L k v L' old had → HG B (TreeR G c t L' :: Γ) (Q old.1.toArray had)) :
    HG B (TreeR G c t L :: Γ) (tput G (some ⟨t, 0, none⟩) k v.1.toArray Q) := by
  refine s_tree fun d b hs => ?_
  unfold tput
  refine s_new fun v5 => ?_
  refine s_new fun t6 => ?_
  refine s_dr ?_
  refine s_ws ?_
  refine s_nn ?_
  refine s_ldS (b := t) (x := some ⟨b, 0, none⟩) ?_
  refine s_ldNS (b := v5) (off := 0) (l := v.1) (l' := v.1) ?_ (List.take_of_length_le (Nat.le_of_eq v.2.1)) v.2.1
  refine s_bld (cs := G.f (k, v)) ?_ (fill_kv (ok.kf k) ok.vz.1 v.2.1)
  refine s_all2 ?_ ?_
  · refine s_end (Δ := NodeR G d 1 b L :: blk t (.cells [.pointer (some ⟨b, 0, none⟩), .int .i64 L.length].toArray G.tT (0, 0)) :: valB G t6 (G.z0 ok.vz) :: Γ) ?_
    refine nput_spec ok d (m := 1) (Nat.le_refl _) hs (fun M' old had hp => ?_) fun M1 x M2 old had r mb hp => ?_
    · refine s_new fun o => ?_
      refine s_stN (b := o) ?_ ok.vz.1 old.2.1 old.2.2
      refine s_end (Δ := valB G o old :: valB G t6 (G.z0 ok.vz) :: blk t (.cells [.pointer (some ⟨b, 0, none⟩), .int .i64 L.length].toArray G.tT (0, 0)) :: NodeR G d 2 b M' :: Γ) ?_
      exact s_tput1 ok (n := 0) hs hL hp (h _ _ _ hp)
    · refine s_new fun o => ?_
      refine s_stN (b := o) ?_ ok.vz.1 old.2.1 old.2.2
      refine s_end (Δ := valB G o old :: valB G t6 (G.z0 ok.vz) :: blk t (.cells [.pointer (some ⟨b, 0, none⟩), .int .i64 L.length].toArray G.tT (0, 0)) :: blk mb (.cells (G.f x).toArray G.tI (0, 0)) :: NodeR G d 2 b M1 :: NodeR G d 2 r M2 :: Γ) ?_
      exact s_tput1b ok (n := 0) hs hL hp (h _ _ _ hp)
  · refine s_new fun o => ?_
    refine s_sv ?_
    refine s_end (Δ := NodeR G d 1 b L :: blk t (.cells [.pointer (some ⟨b, 0, none⟩), .int .i64 L.length].toArray G.tT (0, 0)) :: valB G t6 (G.z0 ok.vz) :: valB G o (G.z0 ok.vz) :: Γ) ?_
    refine nput_spec ok d (m := 1) (Nat.le_refl _) hs (fun M' old had hp => ?_) fun M1 x M2 old had r mb hp => ?_
    · refine s_stN (b := o) ?_ ok.vz.1 old.2.1 old.2.2
      refine s_end (Δ := valB G o old :: valB G t6 (G.z0 ok.vz) :: blk t (.cells [.pointer (some ⟨b, 0, none⟩), .int .i64 L.length].toArray G.tT (0, 0)) :: NodeR G d 2 b M' :: Γ) ?_
      exact s_tput1 ok (n := 0) hs hL hp (h _ _ _ hp)
    · refine s_stN (b := o) ?_ ok.vz.1 old.2.1 old.2.2
      refine s_end (Δ := valB G o old :: valB G t6 (G.z0 ok.vz) :: blk t (.cells [.pointer (some ⟨b, 0, none⟩), .int .i64 L.length].toArray G.tT (0, 0)) :: blk mb (.cells (G.f x).toArray G.tI (0, 0)) :: NodeR G d 2 b M1 :: NodeR G d 2 r M2 :: Γ) ?_
      exact s_tput1b ok (n := 0) hs hL hp (h _ _ _ hp)

/-- Where a search in a tree stands. -/
structure At (G : BtT κ) where
  d : Nat
  m : Nat
  b : Nat
  M : List G.It
  W : List HProp
  A : List G.It
  C : List G.It
/-- Get. -/
theorem tget_spec (ok : BtOk G c) {t : Nat} {L : List G.It} {k : κ} {Q : Array Value → Bool → K} (hfound : ∀ A v C, L = A ++ (k, v) :: C → HG B (TreeR G c t L :: Γ) (Q v.1.toArray true)) (hnot : (∀ A C, L = A ++ C → (∀ x ∈ A, c x.1 k < 0) → (∀ x ∈ C, c k x.1 < 0) → HG B (TreeR G c t L :: Γ) (Q G.vz.toArray false))) :
    HG B (TreeR G c t L :: Γ) (tget G (some ⟨t, 0, none⟩) k Q) := by
  refine s_tree fun d b hs => ?_
  unfold tget
  refine s_new fun o => ?_
  refine s_nn ?_
  refine s_ld (b := t) (x := some ⟨b, 0, none⟩) ?_
  let W0 : List HProp := blk t (.cells [.pointer (some ⟨b, 0, none⟩), .int .i64 L.length].toArray G.tT (0, 0)) :: Γ
  refine s_end (Δ := NodeR G d 1 b L :: valB G o (G.z0 ok.vz) :: W0) ?_
  refine s_loop (ι := At G) (fun x i => x = some ⟨i.b, 0, none⟩ ∧ L = i.A ++ i.M ++ i.C ∧ (∀ x ∈ i.A, c x.1 k < 0) ∧ (∀ x ∈ i.C, c k x.1 < 0) ∧ ∀ k', HG B (TreeR G c t L :: Γ) k' → HG B (NodeR G i.d i.m i.b i.M :: i.W) k')
    (fun x i => NodeR G i.d i.m i.b i.M :: valB G o (G.z0 ok.vz) :: i.W) (fun x i => i.d) (⟨d, 1, b, L, W0, [], []⟩ : At G) ⟨rfl, by simp, by simp, by simp, fun k' hk => ?_⟩ ?_
  · refine s_end (Δ := blk t (.cells [.pointer (some ⟨b, 0, none⟩), .int .i64 L.length].toArray G.tT (0, 0)) :: NodeR G d 1 b L :: Γ) ?_
    exact s_mkTree hs hk
  clear d b W0
  rintro k' _ ⟨d, m, b, M, W, A, C⟩ ⟨rfl, hL, hA, hC, cl⟩ hk
  simp only at hL hA hC cl hk ⊢
  have hsM : Srt c M := by rw [hL] at hs; exact (List.pairwise_append.1 (List.pairwise_append.1 hs).1).2.1
  unfold tget_b1
  cases d with
  | zero =>
    refine s_node0 fun s kd hm hl => ?_
    refine s_search ok (s := s) (kd := kd) hsM (by omega) (fun A' v C' e => ?_) fun A' C' e hA' hC' => ?_
    · subst e
      refine s_t ?_
      refine s_nn ?_
      refine s_cap s fun l1 l2 l3 l4 => ?_
      rw [flatMap_len G.f _ G.f_len] at l1
      have hn : s.n = (A' ++ (k, v) :: C').length := (Nat.eq_of_mul_eq_mul_right (by omega) l1).symm
      have hlen : (A' ++ (k, v) :: C').length = A'.length + (C'.length + 1) := List.length_append
      refine s_ld (b := b) (x := s) ?_
      refine s_idx (s := s) (i := A'.length) ?_
      refine s_ldEN (s := s) (l' := v.1) drop_val v.2.1 ?_
      refine s_stN (b := o) ?_ ok.vz.1 v.2.1 v.2.2
      refine s_ldN (b := o) (off := 0) (l := v.1) (l' := v.1) ?_ (List.take_of_length_le (Nat.le_of_eq v.2.1)) v.2.1
      refine s_end (Δ := nodeB G b s kd :: itsR G s (A' ++ (k, v) :: C') :: kpsR G kd [] :: W) ?_
      refine s_mk0 hm hl (cl _ (hfound (A ++ A') v (C' ++ C) ?_))
      rw [hL]; simp
    · subst e
      refine s_f ?_
      refine s_nn ?_
      refine s_cap kd fun m1 m2 m3 m4 => ?_
      refine s_ld (b := b) (x := kd) ?_
      refine s_t ?_ (by simpa using m1.symm)
      refine s_ret3 (v := G.z0 ok.vz) ?_
      refine s_end (Δ := nodeB G b s kd :: itsR G s (A' ++ C') :: kpsR G kd [] :: W) ?_
      refine s_mk0 hm hl (cl _ (hnot (A ++ A') (C' ++ C) ?_ (fun x hx => ?_) fun x hx => ?_))
      · rw [hL]; simp
      · rcases List.mem_append.1 hx with hx | hx
        · exact hA x hx
        · exact hA' x hx
      · rcases List.mem_append.1 hx with hx | hx
        · exact hC' x hx
        · exact hC x hx
  | succ d =>
    refine s_nodeS fun s kd q0 ps hne hl hM => ?_
    subst hM
    refine s_search ok (s := s) (kd := kd) (hsM.sub (its_sub q0 ps)) (by simp; omega) (fun A' v C' e => ?_) fun A' C' e hA' hC' => ?_
    · rw [e]
      refine s_t ?_
      refine s_nn ?_
      refine s_cap s fun l1 l2 l3 l4 => ?_
      rw [flatMap_len G.f _ G.f_len] at l1
      have hn : s.n = (A' ++ (k, v) :: C').length := (Nat.eq_of_mul_eq_mul_right (by omega) l1).symm
      have hlen : (A' ++ (k, v) :: C').length = A'.length + (C'.length + 1) := List.length_append
      refine s_ld (b := b) (x := s) ?_
      refine s_idx (s := s) (i := A'.length) ?_
      refine s_ldEN (s := s) (l' := v.1) drop_val v.2.1 ?_
      refine s_stN (b := o) ?_ ok.vz.1 v.2.1 v.2.2
      refine s_ldN (b := o) (off := 0) (l := v.1) (l' := v.1) ?_ (List.take_of_length_le (Nat.le_of_eq v.2.1)) v.2.1
      rw [← e]
      refine s_end (Δ := nodeB G b s kd :: itsR G s (ps.map Prod.fst) :: kpsR G kd ((q0 :: ps.map Prod.snd).map ptr) :: kidsR G d (q0 :: ps.map Prod.snd) :: W) ?_
      obtain ⟨A2, C2, e2⟩ : ∃ A2 C2, psL q0 ps = A2 ++ (k, v) :: C2 := List.append_of_mem ((its_sub q0 ps).subset (by rw [e]; simp))
      refine s_mkS hne hl (cl _ (hfound (A ++ A2) v (C2 ++ C) ?_))
      rw [hL, e2]; simp
    · obtain ⟨l, q, r, rfl, rfl, hK, hL2, hlen⟩ := zip_of (q0 := q0) e
      rw [hK]
      rw [hL2] at hsM hL
      refine s_f ?_
      refine s_nn ?_
      have hkl : ((l.map Prod.fst ++ q :: r.map Prod.snd).map ptr).length = l.length + r.length + 1 := by simp; omega
      refine s_cap kd fun m1 m2 m3 m4 => ?_
      rw [kp_len, hkl] at m1
      refine s_ld (b := b) (x := kd) ?_
      refine s_f ?_ (by simp; omega)
      refine s_ld (b := b) (x := kd) ?_
      refine s_idx (s := kd) (i := l.length) ?_ (by simp)
      refine s_ldE0 (s := kd) (x := ptr q) (by simp) ?_
      refine s_pick (kidsR G d (l.map Prod.fst ++ q :: r.map Prod.snd)) ?_
      refine s_kid ?_
      have hs1 := List.pairwise_append.1 hsM
      have hs2 := List.pairwise_append.1 hs1.1
      have hpre := pre_lt ok l hs2.1 hA'
      have hpost := post_gt ok r hs1.2.1 hC'
      refine s_end (Δ := NodeR G d 2 q.1 q.2 :: valB G o (G.z0 ok.vz) :: kidsR G d (l.map Prod.fst ++ r.map Prod.snd) :: nodeB G b s kd :: itsR G s (ps.map Prod.fst) :: kpsR G kd ((l.map Prod.fst ++ q :: r.map Prod.snd).map ptr) :: W) ?_
      refine hk _ (⟨d, 2, q.1, q.2, kidsR G d (l.map Prod.fst ++ r.map Prod.snd) :: nodeB G b s kd :: itsR G s (ps.map Prod.fst) :: kpsR G kd ((l.map Prod.fst ++ q :: r.map Prod.snd).map ptr) :: W, A ++ preL l, postL r ++ C⟩ : At G) ⟨rfl, ?_, fun x hx => ?_, fun x hx => ?_, fun k' hk' => ?_⟩ (Nat.lt_succ_self _)
      · rw [hL]; simp
      · rcases List.mem_append.1 hx with hx | hx
        · exact hA x hx
        · exact hpre x hx
      · rcases List.mem_append.1 hx with hx | hx
        · exact hpost x hx
        · exact hC x hx
      · refine s_unkid ?_
        rw [← hK]
        refine s_end (Δ := nodeB G b s kd :: itsR G s (ps.map Prod.fst) :: kpsR G kd ((q0 :: ps.map Prod.snd).map ptr) :: kidsR G d (q0 :: ps.map Prod.snd) :: W) ?_
        exact s_mkS hne hl (cl k' hk')
end
end Bt
end Go.Sep
