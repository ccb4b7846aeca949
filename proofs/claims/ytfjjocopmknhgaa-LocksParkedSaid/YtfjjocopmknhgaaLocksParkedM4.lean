/- Texts of the claim LocksParked, one behind the other. -/
import Derived.Test.YtfjjocopmknhgaaLocksParkedM3
/- Locks: gates and claims; Enter, Doomed, Leave. -/
namespace Go.Proofs.Ytfjjocopmknhgaa
open Go Go.Sep Go.Sep.Bt
set_option linter.unusedSimpArgs false
set_option linter.unusedVariables false
set_option linter.unusedSectionVars false
set_option maxRecDepth 100000

structure TagM where
  node : Int
  epoch : Int
  seq : Int
  tr : Int
deriving DecidableEq
abbrev tagF (t : TagM) : List Value := [.int .i64 t.node, .int .u64 t.epoch, .int .u64 t.seq, .int .i64 t.tr]
structure MarkM where
  key : List UInt8
  home : Int
  cnt : Int
deriving DecidableEq
abbrev markF (m : MarkM) : List Value := [strV m.key, .int .i64 m.home, .int .u64 m.cnt]
abbrev Claim := TagM × MarkM
abbrev clF (c : Claim) : List Value := [.int .i64 c.1.node, .int .u64 c.1.epoch, .int .u64 c.1.seq, .int .i64 c.1.tr, strV c.2.key, .int .i64 c.2.home, .int .u64 c.2.cnt]
theorem clF_len (c : Claim) : (clF c).length = 7 := rfl
theorem markF_len (c : MarkM) : (markF c).length = 3 := rfl
theorem tagF_len (c : TagM) : (tagF c).length = 4 := rfl
theorem clF_fl (L : List Claim) : ∀ v ∈ L.flatMap clF, flatV v = true := fun v hv => by
  obtain ⟨x, _, hx⟩ := List.mem_flatMap.1 hv
  simp only [clF, List.mem_cons, List.not_mem_nil, or_false] at hx
  rcases hx with rfl | rfl | rfl | rfl | rfl | rfl | rfl <;> rfl
theorem tagF_inj {a b : TagM} : tagF a = tagF b ↔ a = b := by
  cases a; cases b; simp [tagF]
theorem mapFD : Try.prog.underlying ty_map_api_Tag_int = some (.map ty_api_Tag ty_int) := by kernel_rfl
abbrev tagK : List Ck := [.int .i64, .int .u64, .int .u64, .int .i64]
theorem keyS_tag : KeyS Try.prog ty_api_Tag tagF := ⟨by kernel_rfl, ⟨tagK, by kernel_rfl, fun _ => rfl⟩, fun a b h => tagF_inj.1 h, fun a => by simp [Instr.sameBits]⟩

/-! ### the model -/
abbrev GM := List (List UInt8 × (List Claim × List Claim))
abbrev DM := TagM → Bool
abbrev KeysU {ν : Type} (W : List (List UInt8 × ν)) : Prop := (W.map Prod.fst).Nodup
def gateM (k : List UInt8) (M : GM) : GM := if (mget k M).isNone then M ++ [(k, ([], []))] else M
def atM (k : List UInt8) (M : GM) : List Claim × List Claim := (mget k M).getD ([], [])
def hasT (tag : TagM) (L : List Claim) : Bool := L.any fun c => decide (c.1 = tag)
def dset (dm : DM) (tag : TagM) (b : Bool) : DM := fun t => if t = tag then b else dm t
def markLook (n : Nat) (S : Recs) (m : MarkM) : Int := lookS (sGet n S (bs m.key)).cnt m.cnt (sGet n S (bs m.key)).home m.home
def enter1 (n : Nat) (S : Recs) (tag : TagM) (x : GM × DM) (m : MarkM) : GM × DM :=
  if hasT tag (atM m.key x.1).1 || hasT tag (atM m.key x.1).2 then (gateM m.key x.1, x.2)
  else if markLook n S m = 0 then (mset m.key ((atM m.key x.1).1 ++ [(tag, m)], (atM m.key x.1).2) (gateM m.key x.1), x.2)
  else if markLook n S m = 1 then (mset m.key ((atM m.key x.1).1, (atM m.key x.1).2 ++ [(tag, m)]) (gateM m.key x.1), x.2)
  else (gateM m.key x.1, dset x.2 tag true)
def enterM (n : Nat) (S : Recs) (tag : TagM) (ms : List MarkM) (x : GM × DM) : GM × DM := ms.foldl (enter1 n S tag) x
def noT (tag : TagM) (L : List Claim) : List Claim := L.filter fun c => !decide (c.1 = tag)
def leaveM (tag : TagM) (x : GM × DM) : GM × DM := (x.1.map fun p => (p.1, (noT tag p.2.1, noT tag p.2.2)), dset x.2 tag false)
/-- How much there is. -/
def gsz (M : GM) (N : Nat) : Prop := M.length ≤ N ∧ ∀ p ∈ M, p.2.1.length ≤ N ∧ p.2.2.length ≤ N
theorem gsz_le {M : GM} {a b : Nat} (h : gsz M a) (hab : a ≤ b) : gsz M b := ⟨by have := h.1; omega, fun p hp => by have := h.2 p hp; omega⟩
theorem gsz_at {M : GM} {k : List UInt8} {N : Nat} (h : gsz M N) : (atM k M).1.length ≤ N ∧ (atM k M).2.length ≤ N := by
  unfold atM
  cases hm : mget k M with
  | none => simp
  | some v => exact h.2 _ (mget_some hm)
theorem gsz_gate {M : GM} {k : List UInt8} {N : Nat} (h : gsz M N) : gsz (gateM k M) (N + 1) := by
  unfold gateM
  split
  · refine ⟨by simp; exact h.1, fun p hp => ?_⟩
    rcases List.mem_append.1 hp with hp | hp
    · have := h.2 p hp; omega
    · rw [List.mem_singleton.1 hp]; simp
  · exact gsz_le h (by omega)
theorem mset_len {M : GM} {k : List UInt8} {v : List Claim × List Claim} (h : (mget k M).isSome = true) : (mset k v M).length = M.length := by
  rcases mfind k M with ⟨h1, _⟩ | ⟨j, x, hj, _, _, _, h2, _⟩
  · rw [h1] at h; cases h
  · rw [h2]; simp
theorem gate_some {M : GM} {k : List UInt8} : (mget k (gateM k M)).isSome = true := by
  unfold gateM
  split
  · rename_i h
    have h' : mget k M = none := by simpa using h
    have := mset_none (v := ([], [])) h'
    rw [← this, mget_mset]; simp
  · rename_i h; simpa [Option.isNone_iff_eq_none, Option.isSome_iff_ne_none] using h
theorem mem_mset {ν : Type} {M : List (List UInt8 × ν)} {k : List UInt8} {v : ν} {p : List UInt8 × ν} (h : p ∈ mset k v M) : p = (k, v) ∨ p ∈ M := by
  rcases mfind k M with ⟨_, h2, _⟩ | ⟨j, x, hj, _, _, _, h2, _⟩
  · rw [h2] at h
    rcases List.mem_append.1 h with h | h
    · exact .inr h
    · exact .inl (List.mem_singleton.1 h)
  · rw [h2] at h
    rcases List.mem_or_eq_of_mem_set h with h | h
    · exact .inr h
    · exact .inl h
theorem gsz_mset {M : GM} {k : List UInt8} {v : List Claim × List Claim} {N : Nat} (h : gsz M N) (hs : (mget k M).isSome = true) (h1 : v.1.length ≤ N) (h2 : v.2.length ≤ N) : gsz (mset k v M) N :=
  ⟨by rw [mset_len hs]; exact h.1, fun p hp => by
    rcases mem_mset hp with rfl | hp
    · exact ⟨h1, h2⟩
    · exact h.2 p hp⟩
theorem gsz_enter {n : Nat} {S : Recs} {tag : TagM} {x : GM × DM} {m : MarkM} {N : Nat} (h : gsz x.1 N) : gsz (enter1 n S tag x m).1 (N + 1) := by
  have h1 := gsz_gate (k := m.key) h
  have h2 := gsz_at (k := m.key) h
  unfold enter1
  split
  · exact h1
  · split
    · exact gsz_mset h1 gate_some (by simp; omega) (by simp only; omega)
    · split
      · exact gsz_mset h1 gate_some (by simp only; omega) (by simp; omega)
      · exact h1
theorem gate_keys {ν : Type} {M : List (List UInt8 × ν)} {k : List UInt8} {v : ν} (h : KeysU M) (hk : mget k M = none) : KeysU (M ++ [(k, v)]) := by
  have e := mset_none (v := v) hk
  have h2 := mset_keys M k v
  unfold KeysU
  rw [← e, h2]
  split
  · exact h
  · rename_i hk
    refine List.nodup_append.2 ⟨h, by simp, fun a ha b hb => ?_⟩
    rw [List.mem_singleton.1 hb]
    exact fun e => hk (e ▸ ha)
theorem mget_split {ν : Type} {M : List (List UInt8 × ν)} {k : List UInt8} {v : ν} (h : mget k M = some v) : ∃ A C, M = A ++ (k, v) :: C := by
  induction M with
  | nil => cases h
  | cons p M ih =>
    unfold mget at h
    split at h
    · rename_i e; injection h with h; exact ⟨[], M, by rw [e, ← h]; rfl⟩
    · obtain ⟨A, C, rfl⟩ := ih h; exact ⟨p :: A, C, rfl⟩
theorem once_mid {ν : Type} {A C : List (List UInt8 × ν)} {k : List UInt8} {v : ν} (h : KeysU (A ++ (k, v) :: C)) : (∀ p ∈ A, p.1 ≠ k) ∧ ∀ p ∈ C, p.1 ≠ k := by
  unfold KeysU at h
  rw [List.map_append, List.map_cons] at h
  obtain ⟨_, h2, h3⟩ := List.nodup_append.1 h
  refine ⟨fun p hp => h3 _ (List.mem_map.2 ⟨p, hp, rfl⟩) _ List.mem_cons_self, fun p hp e => (List.nodup_cons.1 h2).1 (e ▸ List.mem_map.2 ⟨p, hp, rfl⟩)⟩
theorem mget_mid {ν : Type} {A C : List (List UInt8 × ν)} {k : List UInt8} {v : ν} (h : ∀ p ∈ A, p.1 ≠ k) : mget k (A ++ (k, v) :: C) = some v := by
  induction A with
  | nil => simp [mget]
  | cons p A ih =>
    rw [List.cons_append, mget, if_neg (fun e => h p List.mem_cons_self e.symm)]
    exact ih fun q hq => h q (List.mem_cons_of_mem _ hq)
theorem mset_mid {ν : Type} {A C : List (List UInt8 × ν)} {k : List UInt8} {v v' : ν} (h : ∀ p ∈ A, p.1 ≠ k) : mset k v' (A ++ (k, v) :: C) = A ++ (k, v') :: C := by
  induction A with
  | nil => simp [mset]
  | cons p A ih =>
    rw [List.cons_append, mset, if_neg (fun e => h p List.mem_cons_self e.symm), ih fun q hq => h q (List.mem_cons_of_mem _ hq)]
    rfl

/-! ### what is owned -/
structure GateX where
  b : Nat
  ls : Sl
  ps : Sl
  line : List Claim
  park : List Claim
abbrev gV (g : GateX) : Value := .pointer (some ⟨g.b, 0, none⟩)
abbrev gL (g : GateX) (Γ : List HProp) : List HProp := blk g.b (.cells [g.ls.val, g.ps.val].toArray ty_locks_gate (0, 0)) :: SlC ty_locks_claim 7 g.ls (g.line.flatMap clF) :: SlC ty_locks_claim 7 g.ps (g.park.flatMap clF) :: Γ
abbrev gB (x : List UInt8 × GateX) : HProp := Sep.stars (gL x.2 [])
abbrev GX := List (List UInt8 × GateX)
abbrev modG (X : GX) : GM := X.map fun p => (p.1, (p.2.line, p.2.park))
abbrev lockF (l gm db : Nat) (X Y : GX) (D : List (TagM × Int)) (Γ : List HProp) : List HProp :=
  blk l (.cells [.map (some gm), .map (some db)].toArray ty_locks_Locks (0, 0)) :: MapR strV gV gm X :: Sep.stars (Y.map gB) :: MapR (kyS tagF) (Value.int .i64) db D :: Γ
structure LF (M : GM) (dm : DM) (X : GX) (D : List (TagM × Int)) : Prop where
  mod : modG X = M
  once : KeysU X
  doom : ∀ t, dm t = decide (0 < (mget t D).getD 0)
  nd : (D.map Prod.fst).Nodup
def LocksR (l : Nat) (M : GM) (dm : DM) : HProp := ex fun gm => ex fun db => ex fun X : GX => ex fun D => Sep.stars (pur (LF M dm X D) :: lockF l gm db X X D [])
section
variable {B : World} {Γ Δ : List HProp} {k : K} {l gm db st n : Nat} {M : GM} {dm : DM} {X : GX} {D : List (TagM × Int)} {S : Recs} {tag : TagM}
instance (priority := high) own_locks : Sep.Own l (LocksR l M dm :: Γ) (LocksR l M dm) Γ := ⟨.refl _⟩
theorem s_locks (h : ∀ gm db X D, LF M dm X D → HG B (lockF l gm db X X D Γ) k) : HG B (LocksR l M dm :: Γ) k :=
  s_ex fun gm => s_ex fun db => s_ex fun X => s_ex fun D => s_flat <| s_pur fun h1 => h gm db X D h1
theorem s_mkLocks (h1 : LF M dm X D) (h : HG B (LocksR l M dm :: Γ) k) : HG B (lockF l gm db X X D Γ) k := fun w hw => by
  refine h w ?_
  have h3 : Holds B (Sep.stars (pur (LF M dm X D) :: lockF l gm db X X D []) :: Γ) w := Holds.flat.2 (Holds.pur.2 ⟨h1, hw⟩)
  exact h3.imp fun g hg => ⟨gm, db, X, D, hg⟩
theorem mapR_cong {α β : Type} [DecidableEq α] {enc : α → Value} {cV : β → Value} {b : Nat} {m m' : List (α × β)} (h : (m.map fun p => (enc p.1, cV p.2)) = m'.map fun p => (enc p.1, cV p.2)) : ∀ g, MapR enc cV b m g → MapR enc cV b m' g := fun g hg => by
  obtain ⟨es, c, ⟨h1, h2⟩, h3⟩ := hg
  exact ⟨es, c, ⟨by unfold mrel at h1 ⊢; rw [h1, h], h2⟩, h3⟩
/-- One gate is looked at. -/
theorem s_gate {A C : GX} {key : List UInt8} {g : GateX} (hX : X = A ++ (key, g) :: C) (h : HG B (gL g (lockF l gm db X (A ++ C) D Γ)) k) : HG B (lockF l gm db X X D Γ) k := by
  refine s_pick (Sep.stars (X.map gB)) ?_
  rw [show Sep.stars (X.map gB) = Sep.stars ((A ++ (key, g) :: C).map gB) by rw [hX]]
  refine s_mid ?_
  refine s_flat ?_
  show HG B (gL g (_ :: _ :: _ :: _ :: Γ)) k
  exact s_end h
theorem s_ungate {A C : GX} {key : List UInt8} {g g' : GateX} {dm' : DM} {D' : List (TagM × Int)} (hX : X = A ++ (key, g) :: C) (hb : g'.b = g.b) (hf : LF M dm X D) (hd : (∀ t, dm' t = decide (0 < (mget t D').getD 0)) ∧ (D'.map Prod.fst).Nodup)
    (h : HG B (LocksR l (mset key (g'.line, g'.park) M) dm' :: Γ) k) : HG B (gL g' (lockF l gm db X (A ++ C) D' Γ)) k := by
  have ho := hf.once
  rw [hX] at ho
  have hA := (once_mid ho).1
  refine s_unflat (Δ := gL g' []) ?_
  refine s_pick (Sep.stars ((A ++ C).map gB)) ?_
  refine s_pick (Sep.stars (gL g' [])) ?_
  refine s_unmid (F := gB) (x := (key, g')) ?_
  refine s_pick (MapR strV gV gm X) ?_
  refine s_conv (mapR_cong (m' := A ++ (key, g') :: C) ?_) ?_
  · rw [hX]; simp [gV, hb]
  refine s_pick (MapR (kyS tagF) (Value.int .i64) db D') ?_
  refine s_pick (Sep.stars ((A ++ (key, g') :: C).map gB)) ?_
  refine s_pick (MapR strV gV gm (A ++ (key, g') :: C)) ?_
  refine s_own l ?_
  refine s_mkLocks ⟨?_, ?_, hd.1, hd.2⟩ h
  · rw [← hf.mod, hX]
    simp only [modG, List.map_append, List.map_cons]
    rw [mset_mid]
    intro p hp
    obtain ⟨q, hq, rfl⟩ := List.mem_map.1 hp
    exact hA q hq
  · unfold KeysU at ho ⊢
    simpa using ho
theorem lf_at {A C : GX} {key : List UInt8} {g : GateX} (hX : X = A ++ (key, g) :: C) (hf : LF M dm X D) : atM key M = (g.line, g.park) := by
  have ho := hf.once
  rw [hX] at ho
  unfold atM
  rw [← hf.mod, hX]
  simp only [modG, List.map_append, List.map_cons]
  rw [mget_mid]; rfl
  intro p hp
  obtain ⟨q, hq, rfl⟩ := List.mem_map.1 hp
  exact (once_mid ho).1 q hq
abbrev g0 (gb : Nat) : GateX := ⟨gb, ⟨none, 0, 0⟩, ⟨none, 0, 0⟩, [], []⟩
theorem zero_gate : zeroT Try.prog ty_p_locks_gate (.pointer none) := zero_ty_p_locks_gate
/-- A key's gate. -/
theorem gate_hg {key : List UInt8} {Q : Option Addr → K} (h : ∀ gm db X D A g C, LF (gateM key M) dm X D → X = A ++ (key, g) :: C → HG B (gL g (lockF l gm db X (A ++ C) D Γ)) (Q (some ⟨g.b, 0, none⟩))) :
    HG B (LocksR l M dm :: Γ) (locks_Locks_gate.call (some ⟨l, 0, none⟩) (bs key) Q) := by
  refine fun w hw => locks_Locks_gate_ok _ _ _ _ ?_
  refine hg hw ?_
  clear hw w
  refine s_locks fun gm db X D hf => ?_
  unfold locks_Locks_gate
  repeat refine s_nx ?_
  have hl : ∀ {Γ : List HProp} {q : Option Addr → K} {X : GX} {Δ : List HProp} [p : Sep.Own gm Γ (MapR strV gV gm X) Δ], HG B Γ (q ((mget key X).map fun g => ⟨g.b, 0, none⟩)) → HG B Γ (Rd Try.prog (Instr.lookup ty_map_string_p_locks_gate (.map (some gm)) (strV key) false) Value.pointer q) := fun {Γ q X Δ p} h w hw => by
    obtain ⟨es, c, ⟨hr, hst⟩, h1⟩ := MapR.opens (hw.perm p.perm)
    have := run_lookZ (a := key) mapFL keyE_str zero_gate h1.block hr false
    refine ⟨(mget key X).map fun g => ⟨g.b, 0, none⟩, ?_, h w hw⟩
    rw [this]
    cases mget key X <;> rfl
  have fin : ∀ {Γ : List HProp} (M2 : GM) (X : GX) (g : GateX), mget key X = some g → LF M2 dm X D → (∀ A C, X = A ++ (key, g) :: C → HG B (gL g (lockF l gm db X (A ++ C) D Γ)) (Q (some ⟨g.b, 0, none⟩))) → HG B (lockF l gm db X X D Γ) (locks_Locks_gate.s1 Q (some ⟨l, 0, none⟩) (bs key)) := fun M2 X g hg hf hk => by
    unfold locks_Locks_gate.s1
    repeat refine s_nx ?_
    refine hl (X := X) ?_
    rw [hg]
    obtain ⟨A, C, hX⟩ := mget_split hg
    exact s_gate hX (hk A C hX)
  refine hl (X := X) ?_
  have hmm : mget key M = (mget key X).map fun g => (g.line, g.park) := by rw [← hf.mod]; exact mget_map (fun g : GateX => (g.line, g.park)) key X
  cases hm : mget key X with
  | none =>
    rw [hm] at hmm
    have hgm : gateM key M = M ++ [(key, ([], []))] := by unfold gateM; rw [hmm]; rfl
    rw [hgm] at h
    refine s_t ?_
    repeat refine s_nx ?_
    refine s_new fun gb => ?_
    refine s_upd (cG := Value.bool) (b := gm) (enc := strV) (cV := gV) (v := g0 gb) rfl mapFL keyE_str ?_
    have hms := mset_none (v := g0 gb) hm
    rw [hms]
    refine fun w hw => ?_
    refine hg (show Holds B (SlC ty_locks_claim 7 ⟨none, 0, 0⟩ [] :: _) w from hw.nilSl _ _) ?_
    clear hw w
    refine fun w hw => ?_
    refine hg (show Holds B (SlC ty_locks_claim 7 ⟨none, 0, 0⟩ [] :: _) w from hw.nilSl _ _) ?_
    clear hw w
    refine s_own gb ?_
    show HG B (gL (g0 gb) (MapR strV gV gm (X ++ [(key, g0 gb)]) :: blk l (.cells [.map (some gm), .map (some db)].toArray ty_locks_Locks (0, 0)) :: Sep.stars (X.map gB) :: MapR (kyS tagF) (Value.int .i64) db D :: Γ)) _
    refine s_unflat (Δ := gL (g0 gb) []) ?_
    refine s_pick (Sep.stars (X.map gB)) ?_
    refine s_pick (Sep.stars (gL (g0 gb) [])) ?_
    rw [show Sep.stars (X.map gB) = Sep.stars ((X ++ []).map gB) by rw [List.append_nil]]
    refine s_unmid (F := gB) (x := (key, g0 gb)) ?_
    refine s_own db ?_
    refine s_pick (Sep.stars ((X ++ [(key, g0 gb)]).map gB)) ?_
    refine s_own gm ?_
    refine s_own l ?_
    have hf' : LF (M ++ [(key, ([], []))]) dm (X ++ [(key, g0 gb)]) D := ⟨by simp [modG, ← hf.mod], gate_keys hf.once hm, hf.doom, hf.nd⟩
    refine fin _ _ (g0 gb) ?_ hf' fun A C hX => h gm db _ D A _ C hf' hX
    rw [← hms, mget_mset]; simp
  | some g =>
    rw [hm] at hmm
    have hgm : gateM key M = M := by unfold gateM; rw [hmm]; rfl
    rw [hgm] at h
    refine s_f ?_
    exact fin M X g hm hf fun A C hX => h gm db X D A g C hf hX

/-! ### of -/
abbrev ofV (b : Nat) : Value := .func (.func 103) #[] #[.pointer (some ⟨b, 0, none⟩)]
theorem ofCall_hg {Q : Value → K} (h : ∀ b, HG B (blk b (.cells (tagF tag).toArray ty_api_Tag (0, 0)) :: Γ) (Q (ofV b))) : HG B Γ (locks_of.call (tagF tag).toArray Q) := by
  refine fun w hw => locks_of_ok _ _ _ ?_
  refine hg hw ?_
  clear hw w
  unfold locks_of
  exact s_new fun b => h b
theorem of_hg {b : Nat} {c : Claim} {q : Bool → K} (h : HG B Γ (q (decide (c.1 = tag)))) [p : Sep.Own b Γ (blk b (.cells (tagF tag).toArray ty_api_Tag (0, 0))) Δ] :
    HG B Γ (CallV Try.prog (ofV b) [.agg (clF c).toArray] (Ans1 (fun (t : Bool) => Value.bool t) q)) := by
  refine s_callvC (cs := [.pointer (some ⟨b, 0, none⟩)]) ?_
  refine fun w hw => locks_of_1_ok _ _ _ _ ?_
  refine hg hw ?_
  clear hw w
  unfold locks_of_1
  refine s_new fun c2 => ?_
  repeat refine s_nx ?_
  refine s_eqS (xs := tagF c.1) (ys := tagF tag) (ks := tagK) tagF_inj ?_
  exact s_end h
theorem indexC {s : Sl} {L : List Claim} {b : Nat} {Δ2 : List HProp} {Q : Int → K} (hL : L.length < 1000000000) (h : HG B Γ (Q (idxI (L.findIdx? fun c => decide (c.1 = tag))))) [o : OwnS s Γ (SlC ty_locks_claim 7 s (L.flatMap clF)) Δ2] [p : Sep.Own b Γ (blk b (.cells (tagF tag).toArray ty_api_Tag (0, 0))) Δ] :
    HG B Γ (slices_IndexFunc_s_locks_claim_locks_claim.call s (ofV b) Q) := by
  refine s_cap s fun a1 a2 a3 a4 => ?_
  rw [flatMap_len _ 7 clF_len] at a1
  refine fun w hw => slices_IndexFunc_s_locks_claim_locks_claim_ok _ _ _ _ ?_
  refine hg hw ?_
  clear hw w
  show HG B Γ (idxFK Try.prog (accN 7) s (ofV b) Q)
  exact s_idxFp (vV := fun c => .agg (clF c).toArray) (L := L) (fun c => decide (c.1 = tag)) (by omega) hL (fun i x k hx hk => acc_own (s := s) clF_len (by omega) hx hk) (fun x q _ hq => of_hg hq) h
theorem containsC {s : Sl} {L : List Claim} {b : Nat} {Δ2 : List HProp} {Q : Bool → K} (hL : L.length < 1000000000) (h : HG B Γ (Q (hasT tag L))) [o : OwnS s Γ (SlC ty_locks_claim 7 s (L.flatMap clF)) Δ2] [p : Sep.Own b Γ (blk b (.cells (tagF tag).toArray ty_api_Tag (0, 0))) Δ] :
    HG B Γ (slices_ContainsFunc_s_locks_claim_locks_claim.call s (ofV b) Q) := by
  refine fun w hw => slices_ContainsFunc_s_locks_claim_locks_claim_ok _ _ _ _ ?_
  refine hg hw ?_
  clear hw w
  unfold slices_ContainsFunc_s_locks_claim_locks_claim
  refine indexC (tag := tag) (L := L) hL ?_
  rw [idxI_nonneg, any_idx]
  exact h
theorem deleteC {s : Sl} {L : List Claim} {b : Nat} {Q : Sl → K} (hL : L.length < 1000000000) (h : ∀ s', HG B (SlC ty_locks_claim 7 s' ((noT tag L).flatMap clF) :: Γ) (Q s')) [p : Sep.Own b Γ (blk b (.cells (tagF tag).toArray ty_api_Tag (0, 0))) Δ] :
    HG B (SlC ty_locks_claim 7 s (L.flatMap clF) :: Γ) (slices_DeleteFunc_s_locks_claim_locks_claim.call s (ofV b) Q) := by
  refine fun w hw => slices_DeleteFunc_s_locks_claim_locks_claim_ok _ _ _ _ ?_
  refine hg hw ?_
  clear hw w
  show HG B _ (delFN Try.prog slices_IndexFunc_s_locks_claim_locks_claim.call ty_locks_claim ty_s_locks_claim 0 7 [(.int .i64 0), (.int .u64 0), (.int .u64 0), (.int .i64 0), (.string ⟨#[]⟩), (.int .i64 0), (.int .u64 0)] s (ofV b) Q)
  refine s_delFN (R := fun _ => Γ) (L := L) (f := clF) (fun (_ : Unit) c => decide (c.1 = tag)) (fun _ _ => ()) () (fun _ _ => True) trivial (fun _ _ _ _ => trivial) (fun s fv Q w h => slices_IndexFunc_s_locks_claim_locks_claim_ok _ _ _ _ h) clF_len (by omega) (fun _ => rfl) rfl hL (fun Ξ g x C q _ _ hq => of_hg hq) fun s' _ => ?_
  rw [delG_pure]
  exact h s'

/-! ### Enter -/
theorem locksNew_hg {Q : Option Addr → K} (h : ∀ l, HG B (LocksR l [] (fun _ => false) :: Γ) (Q (some ⟨l, 0, none⟩))) : HG B Γ (locks_New.call Q) := by
  refine fun w hw => locks_New_ok _ _ ?_
  refine hg hw ?_
  clear hw w
  unfold locks_New
  refine s_mkMap (enc := strV) (cV := gV) fun gm => ?_
  refine s_mkMap (enc := kyS tagF) (cV := Value.int .i64) fun db => ?_
  refine s_new fun l => ?_
  refine fun w hw => ?_
  refine hg (show Holds B (Sep.stars (([] : GX).map gB) :: _) w from Holds.flat.2 hw) ?_
  clear hw w
  refine s_own db ?_
  refine s_pick (Sep.stars (([] : GX).map gB)) ?_
  refine s_own gm ?_
  refine s_own l ?_
  exact s_mkLocks ⟨rfl, by simp [KeysU], fun t => by simp [mget], by simp⟩ (h l)
theorem doom_set (hf : ∀ t, dm t = decide (0 < (mget t D).getD 0)) : ∀ t, dset dm tag true t = decide (0 < (mget t (mset tag 1 D)).getD 0) := fun t => by
  rw [mget_mset]
  unfold dset
  split
  · simp
  · exact hf t
theorem nd_set {v : Int} (h : (D.map Prod.fst).Nodup) : ((mset tag v D).map Prod.fst).Nodup := by
  rw [mset_keys]
  split
  · exact h
  · rename_i hk
    refine List.nodup_append.2 ⟨h, by simp, fun a ha b hb => ?_⟩
    rw [List.mem_singleton.1 hb]
    exact fun e => hk (e ▸ ha)
theorem mset_self {ν : Type} {M : List (List UInt8 × ν)} {key : List UInt8} {v : ν} (h : mget key M = some v) : mset key v M = M := by
  induction M with
  | nil => cases h
  | cons p M ih =>
    unfold mget at h
    unfold mset
    split
    · rename_i e
      rw [if_pos e] at h
      injection h with h
      rw [e, ← h]
    · rename_i e
      rw [if_neg e] at h
      rw [ih h]
theorem at_gate {key : List UInt8} : atM key (gateM key M) = atM key M := by
  unfold gateM
  split
  · rename_i h
    have h' : mget key M = none := by simpa using h
    unfold atM
    rw [h', ← mset_none (v := ([], [])) h', mget_mset]; simp
  · rfl
theorem mset_at {key : List UInt8} : mset key (atM key M) (gateM key M) = gateM key M := by
  refine mset_self ?_
  have h := gate_some (M := M) (k := key)
  rw [← at_gate]
  unfold atM
  cases hm : mget key (gateM key M) with
  | none => rw [hm] at h; cases h
  | some v => rfl
theorem enter_hg {ms : Sl} {L : List MarkM} {N : Nat} {Q : K} (hr : ∀ w, Holds B Γ w → RdC w ms 3 (L.flatMap markF)) (hk : ∀ m ∈ L, m.key.length < 1000000000) (hN : gsz M N) (hNl : N + L.length ≤ 1000000)
    (h : HG B (LocksR l (enterM n S tag L (M, dm)).1 (enterM n S tag L (M, dm)).2 :: StoreR st n S :: Γ) Q) :
    HG B (LocksR l M dm :: StoreR st n S :: Γ) (locks_Locks_Enter.call (some ⟨l, 0, none⟩) (some ⟨st, 0, none⟩) (tagF tag).toArray ms Q) := fun w hw => by
  refine locks_Locks_Enter_ok _ _ _ _ _ _ ?_
  have hlen : ms.n = L.length := rd_len markF_len (by omega) (hr w hw.tail.tail)
  refine hg hw ?_
  clear hw w
  unfold locks_Locks_Enter
  refine s_new fun t6 => ?_
  refine s_loop (α := Int) (ι := (GM × DM) × Nat) (fun x i => x = (i.2 : Int) ∧ i.2 ≤ L.length ∧ gsz i.1.1 (N + i.2) ∧ enterM n S tag (L.drop i.2) i.1 = enterM n S tag L (M, dm))
    (fun x i => blk t6 (.cells (tagF tag).toArray ty_api_Tag (0, 0)) :: LocksR l i.1.1 i.1.2 :: StoreR st n S :: Γ) (fun x i => L.length - i.2) ((M, dm), 0) ⟨rfl, Nat.zero_le _, hN, rfl⟩ ?_
  rintro k' _ ⟨⟨M1, d1⟩, j⟩ ⟨rfl, hj, hz, he⟩ hk'
  simp only at hj hz he hk' ⊢
  unfold locks_Locks_Enter.b1
  refine s_ite (fun hb => ?_) fun hb => ?_
  · have hjl : j < L.length := by simp only [decide_eq_true_eq] at hb; omega
    have hge : L[j]? = some L[j] := List.getElem?_eq_getElem hjl
    have hmem : L[j] ∈ L := List.getElem_mem hjl
    rw [List.drop_eq_getElem_cons hjl] at he
    generalize L[j] = m at hge hmem he
    have hkl := hk m hmem
    have hz2 := gsz_enter (n := n) (S := S) (tag := tag) (x := (M1, d1)) (m := m) hz
    have he2 : enterM n S tag (L.drop (j + 1)) (enter1 n S tag (M1, d1) m) = enterM n S tag L (M, dm) := he
    refine s_idxN markF markF_len (fun w hw => hr w hw.drops) hge ?_
    refine s_new fun m9 => ?_
    repeat refine s_nx ?_
    refine s_own l ?_
    refine gate_hg fun gm db X D A g C hf hX => ?_
    have hat := lf_at hX hf
    rw [at_gate] at hat
    have hgz := gsz_at (k := m.key) hz
    rw [hat] at hgz
    simp only at hgz
    refine s_cap g.ls fun c1 c2 c3 c4 => ?_
    refine s_cap g.ps fun e1 e2 e3 e4 => ?_
    rw [flatMap_len _ 7 clF_len] at c1 e1
    -- the end of a round
    have fin : ∀ {Δ : List HProp} {g' : GateX} {d' : DM} {D' : List (TagM × Int)}, enter1 n S tag (M1, d1) m = (mset m.key (g'.line, g'.park) (gateM m.key M1), d') → g'.b = g.b → ((∀ t, d' t = decide (0 < (mget t D').getD 0)) ∧ (D'.map Prod.fst).Nodup) → HG B (gL g' (lockF l gm db X (A ++ C) D' (blk t6 (.cells (tagF tag).toArray ty_api_Tag (0, 0)) :: StoreR st n S :: Γ))) (locks_Locks_Enter.s2 Q k' (some ⟨l, 0, none⟩) (some ⟨st, 0, none⟩) ⟨t6, 0, none⟩ ms (ms.n : Int) (j : Int)) := fun {Δ g' d' D'} e1 e2 e3 => by
      refine s_ungate hX e2 hf e3 ?_
      unfold locks_Locks_Enter.s2
      refine s_ai ?_
      have h := hk' ((j : Int) + 1) (enter1 n S tag (M1, d1) m, j + 1) ⟨by simp, hjl, hz2, he2⟩ (by simp only; omega)
      rw [e1] at h
      exact s_end h
    have keep : (hasT tag g.line || hasT tag g.park) = true → enter1 n S tag (M1, d1) m = (mset m.key (g.line, g.park) (gateM m.key M1), d1) := fun hh => by
      unfold enter1
      rw [hat, if_pos hh, show (g.line, g.park) = atM m.key M1 from hat.symm, mset_at]
    repeat refine s_nx ?_
    refine ofCall_hg fun b1 => ?_
    repeat refine s_nx ?_
    refine containsC (tag := tag) (L := g.line) (by omega) ?_
    repeat refine s_nx ?_
    have rest : ∀ (b : Nat) (hh : Bool), hh = (hasT tag g.line || hasT tag g.park) → HG B (gL g (lockF l gm db X (A ++ C) D (blk m9 (.cells (markF m).toArray ty_api_Mark (0, 0)) :: blk t6 (.cells (tagF tag).toArray ty_api_Tag (0, 0)) :: StoreR st n S :: Γ))) (locks_Locks_Enter.s3 Q k' (some ⟨l, 0, none⟩) (some ⟨st, 0, none⟩) ⟨t6, 0, none⟩ ⟨m9, 0, none⟩ (some ⟨g.b, 0, none⟩) ms (ms.n : Int) (j : Int) hh) := fun b hh hhe => by
      unfold locks_Locks_Enter.s3
      refine s_ite (fun hb2 => ?_) fun hb2 => ?_
      · exact s_end (fin (Δ := Γ) (keep (by rw [← hhe]; exact hb2)) rfl ⟨hf.doom, hf.nd⟩)
      rw [hb2] at hhe
      have hno : ¬ (hasT tag g.line || hasT tag g.park) = true := by rw [← hhe]; simp
      repeat refine s_nx ?_
      refine s_own st ?_
      refine storeGet_spec (k := bs m.key) (by show m.key.length < _; omega) fun s _ => ?_
      repeat refine s_nx ?_
      refine lookHg ?_
      have hlk : lookS (sGet n S (bs m.key)).cnt m.cnt (sGet n S (bs m.key)).home m.home = markLook n S m := rfl
      rw [hlk]
      refine s_ite (fun h0 => ?_) fun h0 => ?_
      · have h0' : markLook n S m = 0 := by simpa using h0
        repeat refine s_nx ?_
        refine s_new fun t => ?_
        repeat refine s_nx ?_
        refine s_append (s := g.ls) (esz := 7) (us := clF (tag, m)) (blk_rd rfl) (by intro v hv; exact clF_fl [(tag, m)] v (by simpa using hv)) (by simp only; omega) fun ls' _ => ?_
        rw [show g.line.flatMap clF ++ clF (tag, m) = (g.line ++ [(tag, m)]).flatMap clF by simp]
        repeat refine s_nx ?_
        refine s_end (fin (Δ := Γ) (g' := { g with ls := ls', line := g.line ++ [(tag, m)] }) ?_ rfl ⟨hf.doom, hf.nd⟩)
        unfold enter1
        rw [hat, if_neg hno, if_pos h0']
      · have h0' : ¬ markLook n S m = 0 := by simpa using h0
        refine s_ite (fun h1 => ?_) fun h1 => ?_
        · have h1' : markLook n S m = 1 := by simpa using h1
          repeat refine s_nx ?_
          refine s_new fun t => ?_
          repeat refine s_nx ?_
          refine s_append (s := g.ps) (esz := 7) (us := clF (tag, m)) (blk_rd rfl) (by intro v hv; exact clF_fl [(tag, m)] v (by simpa using hv)) (by simp only; omega) fun ps' _ => ?_
          rw [show g.park.flatMap clF ++ clF (tag, m) = (g.park ++ [(tag, m)]).flatMap clF by simp]
          repeat refine s_nx ?_
          refine s_end (fin (Δ := Γ) (g' := { g with ps := ps', park := g.park ++ [(tag, m)] }) ?_ rfl ⟨hf.doom, hf.nd⟩)
          unfold enter1
          rw [hat, if_neg hno, if_neg h0', if_pos h1']
        · have h1' : ¬ markLook n S m = 1 := by simpa using h1
          repeat refine s_nx ?_
          refine s_updS (b := db) (cel := tagF) (a := tag) (v := 1) keyS_tag rfl ?_ mapFD
          refine s_end (fin (Δ := Γ) (g' := g) (d' := dset d1 tag true) ?_ rfl ⟨doom_set hf.doom, nd_set hf.nd⟩)
          unfold enter1
          rw [hat, if_neg hno, if_neg h0', if_neg h1', show (g.line, g.park) = atM m.key M1 from hat.symm, mset_at]
    refine s_ite (fun hb2 => ?_) fun hb2 => ?_
    · exact s_end (rest b1 true (by rw [hb2]; rfl))
    repeat refine s_nx ?_
    refine ofCall_hg fun b2 => ?_
    repeat refine s_nx ?_
    refine containsC (tag := tag) (L := g.park) (by omega) ?_
    exact s_end (rest b2 _ (by rw [hb2]; rfl))
  · have hjl : j = L.length := by simp only [decide_eq_false_iff_not] at hb; omega
    rw [hjl, List.drop_length] at he
    have he' : (M1, d1) = enterM n S tag L (M, dm) := he
    rw [← he'] at h
    exact s_end h
end
end Go.Proofs.Ytfjjocopmknhgaa
/- Locks: Doomed, Leave, Ready, Queue, Parked, Keys, Ahead. -/
namespace Go.Proofs.Ytfjjocopmknhgaa
open Go Go.Sep Go.Sep.Bt
set_option linter.unusedSimpArgs false
set_option linter.unusedVariables false
set_option linter.unusedSectionVars false
set_option maxRecDepth 100000

section
variable {B : World} {Γ Δ : List HProp} {k : K} {l gm db st n : Nat} {M : GM} {dm : DM} {X : GX} {D : List (TagM × Int)} {S : Recs} {tag : TagM}
theorem doomed_hg {Q : Bool → K} (h : HG B (LocksR l M dm :: Γ) (Q (dm tag))) : HG B (LocksR l M dm :: Γ) (locks_Locks_Doomed.call (some ⟨l, 0, none⟩) (tagF tag).toArray Q) := by
  refine fun w hw => locks_Locks_Doomed_ok _ _ _ _ ?_
  refine hg hw ?_
  clear hw w
  refine s_locks fun gm db X D hf => ?_
  unfold locks_Locks_Doomed
  refine s_new fun t3 => ?_
  repeat refine s_nx ?_
  refine s_look1S (b := db) (cel := tagF) (a := tag) (z := 0) keyS_tag zero_ty_int ?_ mapFD
  rw [← hf.doom]
  refine s_own db ?_
  refine s_pick (Sep.stars (X.map gB)) ?_
  refine s_own gm ?_
  refine s_own l ?_
  exact s_mkLocks hf (s_end h)

/-! ### Leave -/
theorem mget_del {m : List (TagM × Int)} {a b : TagM} (h : (m.map Prod.fst).Nodup) : mget b (mdel a m) = if b = a then none else mget b m := by
  induction m with
  | nil => simp [mdel, mget]
  | cons p m ih =>
    have h1 := List.nodup_cons.1 (show (p.1 :: m.map Prod.fst).Nodup from h)
    unfold mdel
    split
    · rename_i e
      split
      · rename_i e2
        have hn : ∀ m : List (TagM × Int), p.1 ∉ m.map Prod.fst → mget p.1 m = none := fun m => by
          induction m with
          | nil => intro _; rfl
          | cons q m ih => intro hq; simp only [List.map_cons, List.mem_cons, not_or] at hq; unfold mget; rw [if_neg hq.1]; exact ih hq.2
        rw [e2, e]; exact hn m h1.1
      · rename_i e2
        simp only [mget]
        rw [if_neg (fun e3 => e2 (by rw [e3, e]))]
    · rename_i e
      by_cases h2 : b = p.1
      · have h3 : ¬ b = a := fun h4 => e (by rw [← h4, h2])
        simp only [mget, h2, if_true]
        rw [if_neg (by rw [← h2]; exact h3)]
      · simp only [mget, h2, if_false]
        exact ih h1.2
theorem nd_del {m : List (TagM × Int)} (h : (m.map Prod.fst).Nodup) : ((mdel tag m).map Prod.fst).Nodup := by
  rcases mfind tag m with ⟨_, _, h3, _⟩ | ⟨j, x, _, _, _, _, _, h3⟩
  · rw [h3]; exact h
  · rw [h3]
    exact List.Pairwise.sublist ((List.eraseIdx_sublist m j).map Prod.fst) h
/-- A map that is split, and one with the same keys and places. -/
theorem split_like {X Y : GX} {A C : GX} {p : List UInt8 × GateX} (hY : (Y.map fun q => (q.1, q.2.b)) = X.map fun q => (q.1, q.2.b)) (hX : X = A ++ p :: C) : ∃ A' g C', Y = A' ++ (p.1, g) :: C' ∧ g.b = p.2.b ∧ A'.length = A.length ∧ (A'.map Prod.fst) = A.map Prod.fst ∧ C'.map Prod.fst = C.map Prod.fst := by
  rw [hX, List.map_append, List.map_cons] at hY
  obtain ⟨A', Y2, rfl, h1, h2⟩ := List.map_eq_append_iff.1 hY
  obtain ⟨⟨k, g⟩, C', rfl, h3, h4⟩ := List.map_eq_cons_iff.1 h2
  simp only [Prod.mk.injEq] at h3
  obtain ⟨rfl, h5⟩ := h3
  refine ⟨A', g, C', rfl, h5, by simpa using congrArg List.length h1, ?_, ?_⟩
  · have := congrArg (List.map Prod.fst) h1; simpa [Function.comp_def] using this
  · have := congrArg (List.map Prod.fst) h4; simpa [Function.comp_def] using this
theorem s_pickG {Y A' C' : GX} {key : List UInt8} {g : GateX} (hY : Y = A' ++ (key, g) :: C') (h : HG B (gL g (Sep.stars ((A' ++ C').map gB) :: Γ)) k) : HG B (Sep.stars (Y.map gB) :: Γ) k := by
  rw [hY]
  refine s_mid ?_
  refine s_flat ?_
  exact h
theorem s_unpickG {A' C' : GX} {key : List UInt8} {g : GateX} (h : HG B (Sep.stars ((A' ++ (key, g) :: C').map gB) :: Γ) k) : HG B (gL g (Sep.stars ((A' ++ C').map gB) :: Γ)) k := by
  refine s_unflat (Δ := gL g []) ?_
  exact s_unmid (F := gB) (x := (key, g)) h
theorem leave_hg {N : Nat} {Q : K} (hN : gsz M N) (hNl : N ≤ 1000000) (h : HG B (LocksR l (leaveM tag (M, dm)).1 (leaveM tag (M, dm)).2 :: Γ) Q) :
    HG B (LocksR l M dm :: Γ) (locks_Locks_Leave.call (some ⟨l, 0, none⟩) (tagF tag).toArray Q) := by
  refine fun w hw => locks_Locks_Leave_ok _ _ _ _ ?_
  refine hg hw ?_
  clear hw w
  refine s_locks fun gm db X D hf => ?_
  have hsz : ∀ p ∈ X, p.2.line.length ≤ N ∧ p.2.park.length ≤ N := fun p hp => hN.2 (p.1, (p.2.line, p.2.park)) (by rw [← hf.mod]; exact List.mem_map.2 ⟨p, hp, rfl⟩)
  unfold locks_Locks_Leave
  refine s_new fun t3 => ?_
  repeat refine s_nx ?_
  refine s_range mapFL fun r => ?_
  let cl : List (List UInt8) → List UInt8 × (List Claim × List Claim) → List UInt8 × (List Claim × List Claim) := fun ks p => if p.1 ∈ ks then p else (p.1, (noT tag p.2.1, noT tag p.2.2))
  refine s_loop (α := Unit) (ι := GX × GX × Option (List UInt8 × GateX)) (fun _ i => (i.1.map fun q => (q.1, q.2.b)) = (X.map fun q => (q.1, q.2.b)) ∧ modG i.1 = (modG X).map (cl (i.2.1.map Prod.fst)) ∧ (i.2.1.map Prod.fst).Nodup)
    (fun _ i => MapIt strV gV gm r X i.2.1 i.2.2 :: Sep.stars (i.1.map gB) :: blk t3 (.cells (tagF tag).toArray ty_api_Tag (0, 0)) :: blk l (.cells [.map (some gm), .map (some db)].toArray ty_locks_Locks (0, 0)) :: MapR (kyS tagF) (Value.int .i64) db D :: Γ)
    (fun _ i => i.2.1.length) (X, X, none) ⟨rfl, ?_, hf.once⟩ ?_ |> fun h => s_end h
  · simp only
    rw [List.map_congr_left (g := id)]
    · simp
    · intro p hp
      simp only [cl, id]
      rw [if_pos]
      obtain ⟨q, hq, rfl⟩ := List.mem_map.1 hp
      exact List.mem_map.2 ⟨q, hq, rfl⟩
  rintro k' _ ⟨Y, left, cur⟩ ⟨hYb, hYm, hnd⟩ hk'
  simp only at hYb hYm hnd hk' ⊢
  unfold locks_Locks_Leave.b1
  refine s_next (r := r) (fun hl0 => ?_) fun l1 p l2 hl1 hp => ?_
  · repeat refine s_nx ?_
    refine s_mdeleteS (b := db) (cel := tagF) (a := tag) keyS_tag ?_ mapFD
    subst hl0
    refine s_own gm ?_
    refine s_conv (mapR_cong (m' := Y) ?_) ?_
    · have := congrArg (List.map fun q : List UInt8 × Nat => (strV q.1, Value.pointer (some ⟨q.2, 0, none⟩))) hYb
      simpa [gV, Function.comp_def] using this.symm
    refine s_own db ?_
    refine s_pick (Sep.stars (Y.map gB)) ?_
    refine s_own gm ?_
    refine s_own l ?_
    refine s_mkLocks (M := (leaveM tag (M, dm)).1) (dm := (leaveM tag (M, dm)).2) ⟨?_, ?_, fun t => ?_, nd_del hf.nd⟩ (s_end h)
    · rw [hYm, hf.mod]
      simp [leaveM, cl]
    · unfold KeysU
      have := congrArg (List.map Prod.fst) hYb
      simp only [List.map_map, Function.comp_def] at this
      rw [this]; exact hf.once
    · show dset dm tag false t = _
      unfold dset
      rw [mget_del hf.nd]
      split
      · simp
      · exact hf.doom t
  · obtain ⟨A, C, hX⟩ := List.append_of_mem hp
    obtain ⟨A', g, C', hY, hgb, _, hA1, hC1⟩ := split_like hYb hX
    have hpl : p.1 ∈ left.map Prod.fst := by rw [hl1]; simp
    have hXo := hf.once
    rw [hX] at hXo
    have hmid := once_mid (v := p.2) hXo
    have hgm2 : (g.line, g.park) = (p.2.line, p.2.park) := by
      rw [hY, hX] at hYm
      simp only [modG, List.map_append, List.map_cons] at hYm
      have hlen : (A'.map fun p : List UInt8 × GateX => (p.1, (p.2.line, p.2.park))).length = ((A.map fun p : List UInt8 × GateX => (p.1, (p.2.line, p.2.park))).map (cl (left.map Prod.fst))).length := by
        have := congrArg List.length hA1; simpa using this
      have h2 := (List.append_inj hYm hlen).2
      simp only [List.cons.injEq, cl] at h2
      rw [if_pos hpl] at h2
      exact (Prod.mk.inj h2.1).2
    simp only [Prod.mk.injEq] at hgm2
    have hps := hsz p hp
    repeat refine s_nx ?_
    refine s_entry (r := r) (q := p) ?_
    refine s_nx ?_
    refine s_pick (Sep.stars (Y.map gB)) ?_
    refine s_pickG hY ?_
    rw [← hgb]
    repeat refine s_nx ?_
    refine ofCall_hg fun b1 => ?_
    repeat refine s_nx ?_
    refine s_ownS g.ls ?_
    refine deleteC (tag := tag) (L := g.line) (b := b1) (by rw [hgm2.1]; omega) fun ls' => ?_
    repeat refine s_nx ?_
    refine ofCall_hg fun b2 => ?_
    repeat refine s_nx ?_
    refine s_ownS g.ps ?_
    refine deleteC (tag := tag) (L := g.park) (b := b2) (by rw [hgm2.2]; omega) fun ps' => ?_
    repeat refine s_nx ?_
    refine s_pick (Sep.stars ((A' ++ C').map gB)) ?_
    refine s_ownS ps' ?_
    refine s_ownS ls' ?_
    refine s_own g.b ?_
    refine s_unpickG (key := p.1) (g := ⟨g.b, ls', ps', noT tag g.line, noT tag g.park⟩) ?_
    refine s_end (hk' () (A' ++ (p.1, ⟨g.b, ls', ps', noT tag g.line, noT tag g.park⟩) :: C', l1 ++ l2, some p) ⟨?_, ?_, ?_⟩ (by rw [hl1]; simp))
    · rw [← hYb, hY]; simp
    · simp only
      have hne : ∀ q : List UInt8, q ≠ p.1 → (q ∈ l1.map Prod.fst ++ l2.map Prod.fst ↔ q ∈ left.map Prod.fst) := fun q hq => by
        rw [hl1]; simp only [List.map_append, List.map_cons, List.mem_append, List.mem_cons]
        constructor
        · rintro (h | h)
          · exact .inl h
          · exact .inr (.inr h)
        · rintro (h | h | h)
          · exact .inl h
          · exact absurd h hq
          · exact .inr h
      have hpn : p.1 ∉ l1.map Prod.fst ++ l2.map Prod.fst := fun h5 => by
        rw [hl1, List.map_append, List.map_cons] at hnd
        obtain ⟨_, h6, h7⟩ := List.nodup_append.1 hnd
        rcases List.mem_append.1 h5 with h5 | h5
        · exact h7 _ h5 _ List.mem_cons_self rfl
        · exact (List.nodup_cons.1 h6).1 h5
      rw [hY, hX] at hYm
      rw [hX]
      simp only [modG, List.map_append, List.map_cons] at hYm ⊢
      have hlen : (A'.map fun p : List UInt8 × GateX => (p.1, (p.2.line, p.2.park))).length = ((A.map fun p : List UInt8 × GateX => (p.1, (p.2.line, p.2.park))).map (cl (left.map Prod.fst))).length := by
        have := congrArg List.length hA1; simpa using this
      obtain ⟨h8, h9⟩ := List.append_inj hYm hlen
      simp only [List.cons.injEq] at h9
      rw [h8, h9.2]
      congr 1
      · refine List.map_congr_left fun q hq => ?_
        obtain ⟨q, hq', rfl⟩ := List.mem_map.1 hq
        have hq2 := hmid.1 q hq'
        simp only [cl]
        by_cases h10 : q.1 ∈ left.map Prod.fst
        · rw [if_pos h10, if_pos ((hne _ hq2).2 h10)]
        · rw [if_neg h10, if_neg fun h11 => h10 ((hne _ hq2).1 h11)]
      · congr 1
        · simp only [cl]
          rw [if_neg hpn, hgm2.1, hgm2.2]
        · refine List.map_congr_left fun q hq => ?_
          obtain ⟨q, hq', rfl⟩ := List.mem_map.1 hq
          have hq2 := hmid.2 q hq'
          simp only [cl]
          by_cases h10 : q.1 ∈ left.map Prod.fst
          · rw [if_pos h10, if_pos ((hne _ hq2).2 h10)]
          · rw [if_neg h10, if_neg fun h11 => h10 ((hne _ hq2).1 h11)]
    · rw [hl1, List.map_append, List.map_cons] at hnd
      rw [List.map_append]
      obtain ⟨h5, h6, h7⟩ := List.nodup_append.1 hnd
      exact List.nodup_append.2 ⟨h5, (List.nodup_cons.1 h6).2, fun a ha b hb => h7 a ha b (List.mem_cons_of_mem _ hb)⟩

/-! ### Ready -/
def readyG (tag : TagM) (p : List Claim × List Claim) : Bool := !hasT tag p.2 && !decide (0 < idxI (p.1.findIdx? fun c => decide (c.1 = tag)))
def readyM (tag : TagM) (M : GM) : Bool := M.all fun p => readyG tag p.2
theorem ready_hg {N : Nat} {Q : Bool → K} (hN : gsz M N) (hNl : N ≤ 1000000) (h : HG B (LocksR l M dm :: Γ) (Q (readyM tag M))) : HG B (LocksR l M dm :: Γ) (locks_Locks_Ready.call (some ⟨l, 0, none⟩) (tagF tag).toArray Q) := by
  refine fun w hw => locks_Locks_Ready_ok _ _ _ _ ?_
  refine hg hw ?_
  clear hw w
  refine s_locks fun gm db X D hf => ?_
  have hsz : ∀ p ∈ X, p.2.line.length ≤ N ∧ p.2.park.length ≤ N := fun p hp => hN.2 (p.1, (p.2.line, p.2.park)) (by rw [← hf.mod]; exact List.mem_map.2 ⟨p, hp, rfl⟩)
  have hrm : readyM tag M = X.all fun p => readyG tag (p.2.line, p.2.park) := by unfold readyM; rw [← hf.mod]; simp [modG, Function.comp_def]
  unfold locks_Locks_Ready
  refine s_new fun t3 => ?_
  repeat refine s_nx ?_
  refine s_range mapFL fun r => ?_
  refine s_loop (α := Unit) (ι := GX × Option (List UInt8 × GateX)) (fun _ i => (∀ p ∈ X, p ∈ i.1 ∨ readyG tag (p.2.line, p.2.park) = true))
    (fun _ i => MapIt strV gV gm r X i.1 i.2 :: Sep.stars (X.map gB) :: blk t3 (.cells (tagF tag).toArray ty_api_Tag (0, 0)) :: blk l (.cells [.map (some gm), .map (some db)].toArray ty_locks_Locks (0, 0)) :: MapR (kyS tagF) (Value.int .i64) db D :: Γ)
    (fun _ i => i.1.length) (X, none) (fun p hp => .inl hp) ?_ |> fun h => s_end h
  rintro k' _ ⟨left, cur⟩ hJ hk'
  simp only at hJ hk' ⊢
  unfold locks_Locks_Ready.b1
  refine s_next (r := r) (fun hl0 => ?_) fun l1 p l2 hl1 hp => ?_
  · repeat refine s_nx ?_
    subst hl0
    have e : readyM tag M = true := by
      rw [hrm, List.all_eq_true]
      intro p hp
      rcases hJ p hp with h1 | h1
      · cases h1
      · exact h1
    rw [e] at h
    refine s_own db ?_
    refine s_pick (Sep.stars (X.map gB)) ?_
    refine s_own gm ?_
    refine s_own l ?_
    exact s_mkLocks hf (s_end h)
  · obtain ⟨A, C, hX⟩ := List.append_of_mem hp
    have hps := hsz p hp
    repeat refine s_nx ?_
    refine s_entry (r := r) (q := p) ?_
    refine s_nx ?_
    have bad : readyG tag (p.2.line, p.2.park) = false → HG B (MapIt strV gV gm r X (l1 ++ l2) (some p) :: Sep.stars (X.map gB) :: blk t3 (.cells (tagF tag).toArray ty_api_Tag (0, 0)) :: blk l (.cells [.map (some gm), .map (some db)].toArray ty_locks_Locks (0, 0)) :: MapR (kyS tagF) (Value.int .i64) db D :: Γ) (Q false) := fun hb => by
      have e : readyM tag M = false := by
        rw [hrm, List.all_eq_false]
        exact ⟨p, hp, by simp [hb]⟩
      rw [e] at h
      refine s_itEnd (r := r) ?_
      refine s_own db ?_
      refine s_pick (Sep.stars (X.map gB)) ?_
      refine s_own gm ?_
      refine s_own l ?_
      exact s_mkLocks hf (s_end h)
    refine s_pick (Sep.stars (X.map gB)) ?_
    refine s_pickG (key := p.1) (g := p.2) hX ?_
    have back : ∀ (b : Bool), readyG tag (p.2.line, p.2.park) = !b → HG B (gL p.2 (Sep.stars ((A ++ C).map gB) :: MapIt strV gV gm r X (l1 ++ l2) (some p) :: blk t3 (.cells (tagF tag).toArray ty_api_Tag (0, 0)) :: blk l (.cells [.map (some gm), .map (some db)].toArray ty_locks_Locks (0, 0)) :: MapR (kyS tagF) (Value.int .i64) db D :: Γ)) (locks_Locks_Ready.s2 Q (k' ()) ⟨t3, 0, none⟩ (some ⟨r, 0, none⟩) b) := fun b hb => by
      refine s_unpickG (key := p.1) ?_
      rw [show A ++ (p.1, p.2) :: C = X from hX.symm]
      unfold locks_Locks_Ready.s2
      refine s_ite (fun h2 => ?_) fun h2 => ?_
      · exact s_end (bad (by rw [hb, h2]; rfl))
      · refine s_end (hk' () (l1 ++ l2, some p) (fun q hq => ?_) (by rw [hl1]; simp))
        rcases hJ q hq with h3 | h3
        · rw [hl1] at h3
          rcases List.mem_append.1 h3 with h3 | h3
          · exact .inl (List.mem_append_left _ h3)
          · rcases List.mem_cons.1 h3 with rfl | h3
            · exact .inr (by rw [hb, h2]; rfl)
            · exact .inl (List.mem_append_right _ h3)
        · exact .inr h3
    repeat refine s_nx ?_
    refine ofCall_hg fun b1 => ?_
    repeat refine s_nx ?_
    refine containsC (tag := tag) (L := p.2.park) (by omega) ?_
    repeat refine s_nx ?_
    refine s_ite (fun h2 => ?_) fun h2 => ?_
    · exact s_end (back true (by unfold readyG; rw [h2]; rfl))
    repeat refine s_nx ?_
    refine ofCall_hg fun b2 => ?_
    repeat refine s_nx ?_
    refine indexC (tag := tag) (L := p.2.line) (by omega) ?_
    exact s_end (back _ (by unfold readyG; rw [h2]; rfl))

/-! ### tags, Queue, Parked -/
theorem tags_hg {s : Sl} {L : List Claim} {Q : Sl → K} (hL : L.length ≤ 10000000) (hr : ∀ w, Holds B Γ w → RdC w s 7 (L.flatMap clF)) (h : ∀ s', HG B (SlC ty_api_Tag 4 s' ((L.map Prod.fst).flatMap tagF) :: Γ) (Q s')) : HG B Γ (locks_tags.call s Q) := fun w hw => by
  refine locks_tags_ok _ _ _ ?_
  have hlen : s.n = L.length := rd_len clF_len (by omega) (hr w hw)
  refine hg (show Holds B (SlC ty_api_Tag 4 ⟨none, 0, 0⟩ [] :: Γ) w from hw.nilSl _ _) ?_
  clear hw w
  unfold locks_tags
  refine s_loop (α := Sl × Int) (ι := Nat) (fun x i => x.2 = (i : Int) ∧ i ≤ L.length) (fun x i => SlC ty_api_Tag 4 x.1 (((L.take i).map Prod.fst).flatMap tagF) :: Γ) (fun x i => L.length - i) 0 ⟨rfl, Nat.zero_le _⟩ ?_
  rintro k' ⟨o, _⟩ i ⟨rfl, hi⟩ hk'
  simp only at hi hk' ⊢
  unfold locks_tags.b1
  refine s_ite (fun hb => ?_) fun hb => ?_
  · have hil : i < L.length := by simp only [decide_eq_true_eq] at hb; omega
    have hge : L[i]? = some L[i] := List.getElem?_eq_getElem hil
    have htk : L.take (i + 1) = L.take i ++ [L[i]] := List.take_succ_eq_append_getElem hil
    generalize L[i] = c at hge htk
    refine s_cap o fun a1 a2 a3 a4 => ?_
    rw [flatMap_len _ 4 tagF_len, List.length_map, List.length_take, Nat.min_eq_left hi] at a1
    refine s_idxN clF clF_len (fun w hw => hr w hw.tail) hge ?_
    refine s_new fun c4 => ?_
    repeat refine s_nx ?_
    refine s_new fun t => ?_
    refine s_append (s := o) (esz := 4) (us := tagF c.1) (blk_rd rfl) (by simp [flatV]) (by simp only; omega) fun o' _ => ?_
    refine s_ai ?_
    rw [show ((L.take i).map Prod.fst).flatMap tagF ++ tagF c.1 = ((L.take (i + 1)).map Prod.fst).flatMap tagF by rw [htk]; simp only [List.map_append, List.flatMap_append, List.map_cons, List.map_nil, List.flatMap_cons, List.flatMap_nil, List.append_nil]]
    exact s_end (hk' (o', (i : Int) + 1) (i + 1) ⟨by simp, hil⟩ (by omega))
  · have hil : i = L.length := by simp only [decide_eq_false_iff_not] at hb; omega
    rw [hil, List.take_length]
    exact h o
theorem gate_at (hf : LF M dm X D) {key : List UInt8} : atM key M = ((mget key X).map fun g => (g.line, g.park)).getD ([], []) := by
  unfold atM
  rw [← hf.mod, show mget key (modG X) = (mget key X).map fun g => (g.line, g.park) from mget_map (fun g : GateX => (g.line, g.park)) key X]
theorem gateLook {key : List UInt8} {q : Option Addr → K} (h : HG B Γ (q ((mget key X).map fun g => ⟨g.b, 0, none⟩))) [p : Sep.Own gm Γ (MapR strV gV gm X) Δ] : HG B Γ (Rd Try.prog (Instr.lookup ty_map_string_p_locks_gate (.map (some gm)) (strV key) false) Value.pointer q) := fun w hw => by
  obtain ⟨es, c, ⟨hr, hst⟩, h1⟩ := MapR.opens (hw.perm p.perm)
  have := run_lookZ (a := key) mapFL keyE_str zero_gate h1.block hr false
  refine ⟨(mget key X).map fun g => ⟨g.b, 0, none⟩, ?_, h w hw⟩
  rw [this]
  cases mget key X <;> rfl
theorem queue_hg {key : List UInt8} {N : Nat} {Q : Sl → K} (hN : gsz M N) (hNl : N ≤ 1000000) (h : ∀ s, HG B (SlC ty_api_Tag 4 s (((atM key M).1.map Prod.fst).flatMap tagF) :: LocksR l M dm :: Γ) (Q s)) : HG B (LocksR l M dm :: Γ) (locks_Locks_Queue.call (some ⟨l, 0, none⟩) (bs key) Q) := by
  refine fun w hw => locks_Locks_Queue_ok _ _ _ _ ?_
  refine hg hw ?_
  clear hw w
  have hz := gsz_at (k := key) hN
  refine s_locks fun gm db X D hf => ?_
  unfold locks_Locks_Queue
  repeat refine s_nx ?_
  refine gateLook (X := X) ?_
  rw [gate_at hf] at h hz
  cases hm : mget key X with
  | none =>
    rw [hm] at h
    simp only [Option.map_none, Option.getD_none, List.map_nil, List.flatMap_nil] at h
    refine s_f ?_
    refine fun w hw => ?_
    refine hg (show Holds B (SlC ty_api_Tag 4 ⟨none, 0, 0⟩ [] :: _) w from hw.nilSl _ _) ?_
    clear hw w
    refine s_own db ?_
    refine s_pick (Sep.stars (X.map gB)) ?_
    refine s_own gm ?_
    refine s_own l ?_
    exact s_mkLocks hf (s_end (h ⟨none, 0, 0⟩))
  | some g =>
    rw [hm] at h hz
    simp only [Option.map_some, Option.getD_some] at h hz
    obtain ⟨A, C, hX⟩ := mget_split hm
    simp only [Option.map_some]
    refine s_t ?_
    refine s_pick (Sep.stars (X.map gB)) ?_
    refine s_pickG hX ?_
    repeat refine s_nx ?_
    refine tags_hg (L := g.line) (by omega) (fun w hw => (own_rd (s := g.ls) hw).1) fun s' => ?_
    refine s_pick (Sep.stars ((A ++ C).map gB)) ?_
    refine s_ownS g.ps ?_
    refine s_ownS g.ls ?_
    refine s_own g.b ?_
    refine s_unpickG (key := key) ?_
    rw [← hX]
    refine s_own db ?_
    refine s_pick (Sep.stars (X.map gB)) ?_
    refine s_own gm ?_
    refine s_own l ?_
    exact s_mkLocks hf (s_end (h s'))
/-! ### Keys -/
def keysM (M : GM) : List (List UInt8) := (sortL (M.map Prod.fst)).filter fun k => !decide ((atM k M).1.length + (atM k M).2.length = 0)
theorem keys_hg {N : Nat} {Q : Sl → K} (hN : gsz M N) (hNl : N ≤ 1000000) (h : ∀ s, HG B (SlS s (keysM M) :: LocksR l M dm :: Γ) (Q s)) : HG B (LocksR l M dm :: Γ) (locks_Locks_Keys.call (some ⟨l, 0, none⟩) Q) := by
  refine fun w hw => locks_Locks_Keys_ok _ _ _ ?_
  refine hg hw ?_
  clear hw w
  have hz := fun k => gsz_at (k := k) hN
  refine s_locks fun gm db X D hf => ?_
  have hXl : X.length ≤ 1000000 := by have := hN.1; rw [← hf.mod] at this; simp at this; omega
  have hkm : X.map Prod.fst = M.map Prod.fst := by rw [← hf.mod]; simp [modG, Function.comp_def]
  unfold locks_Locks_Keys
  refine s_new fun l1 => ?_
  repeat refine s_nx ?_
  refine s_own gm ?_
  refine fun w hw => sorted_keys_specL hXl hw fun ks w hw => ?_
  refine hg hw ?_
  clear hw w
  rw [hkm]
  have hkl : (sortL (M.map Prod.fst)).length ≤ 1000000 := by rw [sortL_len, List.length_map]; have := hN.1; omega
  refine fun w hw => slices_DeleteFunc_s_string_string_ok _ _ _ _ ?_
  refine hg hw ?_
  clear hw w
  show HG B _ (delF1 Try.prog slices_IndexFunc_s_string_string.call ty_s_string 0 Value.string ks (.func (.func 84) #[] #[.pointer (some ⟨l1, 0, none⟩)]) Q)
  rw [show SlS ks (sortL (M.map Prod.fst)) = SlC ty_string 1 ks (((sortL (M.map Prod.fst)).map bs).map Value.string) by simp [SlS, Function.comp_def]]
  refine s_delF1 (γ := Unit) (R := fun _ => MapR strV gV gm X :: blk l1 (.cells [.pointer (some ⟨l, 0, none⟩)].toArray ty_p_locks_Locks (0, 0)) :: blk l (.cells [.map (some gm), .map (some db)].toArray ty_locks_Locks (0, 0)) :: Sep.stars (X.map gB) :: MapR (kyS tagF) (Value.int .i64) db D :: Γ) (E := ty_string) (c := Value.string) (L := (sortL (M.map Prod.fst)).map bs) (fun (_ : Unit) x => decide ((atM x.data.toList M).1.length + (atM x.data.toList M).2.length = 0)) (fun _ _ => ()) () (fun _ _ => True) trivial (fun _ _ _ _ => trivial) (fun s fv Q w h => slices_IndexFunc_s_string_string_ok _ _ _ _ h) (fun _ => rfl) (by rw [List.length_map]; omega) (fun Ξ g x C q hx _ hq => ?_) (fun s' _ => ?_) |> fun h => s_end h
  · obtain ⟨key, hkey, rfl⟩ := List.mem_map.1 hx
    refine s_callvC (cs := [.pointer (some ⟨l1, 0, none⟩)]) ?_
    refine fun w hw => locks_Locks_Keys_1_ok _ _ _ _ ?_
    refine hg hw ?_
    clear hw w
    unfold locks_Locks_Keys_1
    repeat refine s_nx ?_
    refine gateLook (X := X) ?_
    have hkz := hz key
    have hq2 : (bs key).data.toList = key := by simp
    simp only [hq2] at hq
    rw [gate_at hf] at hq hkz
    rw [sortL_mem, ← hkm] at hkey
    cases hm : mget key X with
    | none =>
      exfalso
      rcases mfind key X with ⟨_, _, _, h5⟩ | ⟨_, _, _, _, _, h5, _⟩
      · obtain ⟨p, hp, e⟩ := List.mem_map.1 hkey
        exact h5 p hp e
      · rw [hm] at h5; cases h5
    | some g =>
      rw [hm] at hq hkz
      simp only [Option.map_some, Option.getD_some] at hq hkz
      obtain ⟨A, C, hX⟩ := mget_split hm
      simp only [Option.map_some]
      refine s_pick (Sep.stars (X.map gB)) ?_
      refine s_pickG hX ?_
      refine s_cap g.ls fun c1 c2 c3 c4 => ?_
      refine s_cap g.ps fun e1 e2 e3 e4 => ?_
      rw [flatMap_len _ 7 clF_len] at c1 e1
      repeat first | refine s_nx ?_ | refine s_ai ?_
      rw [show decide ((g.ls.n : Int) + (g.ps.n : Int) = 0) = decide (g.line.length + g.park.length = 0) from decide_eq_decide.2 (by omega)]
      refine s_pick (Sep.stars ((A ++ C).map gB)) ?_
      refine s_ownS g.ps ?_
      refine s_ownS g.ls ?_
      refine s_own g.b ?_
      refine s_unpickG (key := key) ?_
      rw [← hX]
      exact s_end hq
  · rw [delG_pure]
    have e : (((sortL (M.map Prod.fst)).map bs).filter fun x => !decide ((atM x.data.toList M).1.length + (atM x.data.toList M).2.length = 0)).map Value.string = (keysM M).map strV := by
      unfold keysM
      rw [List.filter_map, List.map_map]
      rfl
    rw [e]
    refine s_own db ?_
    refine s_pick (Sep.stars (X.map gB)) ?_
    refine s_own gm ?_
    refine s_own l ?_
    exact s_mkLocks hf (s_end (h s'))
end
end Go.Proofs.Ytfjjocopmknhgaa
/- Locks: Ahead, Moved. -/
namespace Go.Proofs.Ytfjjocopmknhgaa
open Go Go.Sep Go.Sep.Bt
set_option linter.unusedSimpArgs false
set_option linter.unusedVariables false
set_option linter.unusedSectionVars false
set_option maxRecDepth 100000

section
variable {B : World} {Γ Δ : List HProp} {k : K} {l gm db st n : Nat} {M : GM} {dm : DM} {X : GX} {D : List (TagM × Int)} {S : Recs} {tag : TagM}
theorem indexT {s : Sl} {L : List TagM} {Q : Int → K} (hL : L.length < 1000000000) (hr : ∀ w, Holds B Γ w → RdC w s 4 (L.flatMap tagF)) (h : HG B Γ (Q (idxI (L.findIdx? fun t => decide (t = tag))))) : HG B Γ (slices_Index_s_api_Tag_api_Tag.call s (tagF tag).toArray Q) := fun w hw => by
  refine slices_Index_s_api_Tag_api_Tag_ok _ _ _ _ ?_
  have hlen : s.n = L.length := rd_len tagF_len (by omega) (hr w hw)
  refine hg hw ?_
  clear hw w
  unfold slices_Index_s_api_Tag_api_Tag
  refine s_new fun v3 => ?_
  refine s_loopC (α := Int) (fun x => ∃ i : Nat, x = (i : Int) ∧ i ≤ L.length ∧ L.findIdx? (fun t => decide (t = tag)) = ((L.drop i).findIdx? fun t => decide (t = tag)).map (· + i)) (fun x => L.length - x.toNat) ⟨0, rfl, Nat.zero_le _, by simp⟩ fun k' x hx hk' => ?_
  obtain ⟨i, rfl, hi, he⟩ := hx
  unfold slices_Index_s_api_Tag_api_Tag.b1
  refine s_ite (fun hb => ?_) fun hb => ?_
  · have hil : i < L.length := by simp only [decide_eq_true_eq] at hb; omega
    have hge : L[i]? = some L[i] := List.getElem?_eq_getElem hil
    rw [List.drop_eq_getElem_cons hil, List.findIdx?_cons] at he
    generalize L[i] = t at hge he
    repeat refine s_nx ?_
    refine s_idxN tagF tagF_len (fun w hw => hr w hw.tail) hge ?_
    refine s_eqS (xs := tagF tag) (ys := tagF t) (ks := tagK) (p := t = tag) (by rw [tagF_inj]; exact eq_comm) ?_
    refine s_ite (fun hp => ?_) fun hp => ?_
    · rw [if_pos hp] at he
      rw [he] at h
      simpa [idxI] using s_end h
    · rw [if_neg (by simp [hp])] at he
      refine s_ai ?_
      refine hk' _ ⟨i + 1, by simp, hil, ?_⟩ (by omega)
      rw [he, Option.map_map]
      congr 1
      funext y
      simp only [Function.comp]; omega
  · have hil : i = L.length := by simp only [decide_eq_false_iff_not] at hb; omega
    rw [hil, List.drop_length] at he
    rw [he] at h
    simpa [idxI] using s_end h
theorem containsT {s : Sl} {L : List TagM} {Q : Bool → K} (hL : L.length < 1000000000) (hr : ∀ w, Holds B Γ w → RdC w s 4 (L.flatMap tagF)) (h : HG B Γ (Q (decide (tag ∈ L)))) : HG B Γ (slices_Contains_s_api_Tag_api_Tag.call s (tagF tag).toArray Q) := by
  refine fun w hw => slices_Contains_s_api_Tag_api_Tag_ok _ _ _ _ ?_
  refine hg hw ?_
  clear hw w
  unfold slices_Contains_s_api_Tag_api_Tag
  refine s_new fun v3 => ?_
  repeat refine s_nx ?_
  refine indexT (L := L) hL (fun w hw => hr w hw.tail) ?_
  rw [idxI_nonneg, any_idx, show (L.any fun t => decide (t = tag)) = decide (tag ∈ L) by rw [Bool.eq_iff_iff]; simp]
  exact s_end h

/-! ### Ahead -/
def addT (out : List TagM) (t : TagM) : List TagM := if t ∈ out then out else out ++ [t]
def lineT (M : GM) (key : List UInt8) : List TagM := (atM key M).1.map Prod.fst
def fore (tag : TagM) (L : List TagM) : List TagM := L.take ((L.findIdx? fun t => decide (t = tag)).getD 0)
def aheadM (tag : TagM) (M : GM) : List TagM := (keysM M).foldl (fun out key => (fore tag (lineT M key)).foldl addT out) []
theorem addT_len (L out : List TagM) : (L.foldl addT out).length ≤ out.length + L.length := by
  induction L generalizing out with
  | nil => simp
  | cons t L ih =>
    have h1 := ih (addT out t)
    have h2 : (addT out t).length ≤ out.length + 1 := by unfold addT; split <;> simp
    simp only [List.foldl_cons, List.length_cons]; omega
theorem ahead_hg {N : Nat} {Q : Sl → K} (hN : gsz M N) (hNl : N ≤ 5000) (h : ∀ s, HG B (SlC ty_api_Tag 4 s ((aheadM tag M).flatMap tagF) :: LocksR l M dm :: Γ) (Q s)) : HG B (LocksR l M dm :: Γ) (locks_Locks_Ahead.call (some ⟨l, 0, none⟩) (tagF tag).toArray Q) := by
  refine fun w hw => locks_Locks_Ahead_ok _ _ _ _ ?_
  refine hg hw ?_
  clear hw w
  unfold locks_Locks_Ahead
  refine s_new fun t3 => ?_
  refine s_own l ?_
  refine keys_hg hN (by omega) fun ks => ?_
  have hkl : (keysM M).length ≤ N := by
    have h1 := List.length_filter_le (fun k => !decide ((atM k M).1.length + (atM k M).2.length = 0)) (sortL (M.map Prod.fst))
    rw [sortL_len, List.length_map] at h1
    have := hN.1
    unfold keysM; omega
  refine s_cap ks fun a1 a2 a3 a4 => ?_
  have hkn : ks.n = (keysM M).length := by simpa using a1.symm
  refine fun w hw => ?_
  refine hg (show Holds B (SlC ty_api_Tag 4 ⟨none, 0, 0⟩ (([] : List TagM).flatMap tagF) :: _) w from hw.nilSl _ _) ?_
  clear hw w
  refine s_loop (α := Sl × Int) (ι := List TagM × Nat) (fun x i => x.2 = (i.2 : Int) ∧ i.2 ≤ (keysM M).length ∧ i.1.length ≤ i.2 * N ∧ ((keysM M).drop i.2).foldl (fun out key => (fore tag (lineT M key)).foldl addT out) i.1 = aheadM tag M)
    (fun x i => SlC ty_api_Tag 4 x.1 (i.1.flatMap tagF) :: SlS ks (keysM M) :: LocksR l M dm :: blk t3 (.cells (tagF tag).toArray ty_api_Tag (0, 0)) :: Γ) (fun x i => (keysM M).length - i.2) ([], 0) ⟨rfl, Nat.zero_le _, by simp, rfl⟩ ?_
  rintro k' ⟨o, _⟩ ⟨out, j⟩ ⟨rfl, hj, hol, he⟩ hk'
  simp only at hj hol he hk' ⊢
  unfold locks_Locks_Ahead.b1
  refine s_ite (fun hb => ?_) fun hb => ?_
  · have hjl : j < (keysM M).length := by simp only [decide_eq_true_eq] at hb; omega
    have hge : (keysM M)[j]? = some (keysM M)[j] := List.getElem?_eq_getElem hjl
    rw [List.drop_eq_getElem_cons hjl, List.foldl_cons] at he
    generalize (keysM M)[j] = key at hge he
    have hz := gsz_at (k := key) hN
    have hll : (lineT M key).length ≤ N := by unfold lineT; rw [List.length_map]; exact hz.1
    have hol2 : out.length ≤ 25000000 := by
      have : j * N ≤ 5000 * 5000 := Nat.mul_le_mul (by omega) hNl
      omega
    refine s_idxS (L := keysM M) (fun w hw => (own_rd (s := ks) hw).1) hge ?_
    refine s_own l ?_
    refine queue_hg hN (by omega) fun q => ?_
    show HG B (SlC ty_api_Tag 4 q ((lineT M key).flatMap tagF) :: _) _
    repeat refine s_nx ?_
    refine s_cap q fun c1 c2 c3 c4 => ?_
    rw [flatMap_len _ 4 tagF_len] at c1
    refine indexT (L := lineT M key) (by omega) (fun w hw => (own_rd (s := q) hw).1) ?_
    have hat : ∃ a : Nat, (if (0 : Int) > idxI ((lineT M key).findIdx? fun t => decide (t = tag)) then 0 else idxI ((lineT M key).findIdx? fun t => decide (t = tag))) = (a : Int) ∧ a ≤ (lineT M key).length ∧ fore tag (lineT M key) = (lineT M key).take a := by
      unfold fore
      cases hf : (lineT M key).findIdx? fun t => decide (t = tag) with
      | none => exact ⟨0, by simp [idxI], Nat.zero_le _, by simp⟩
      | some a =>
        have := (List.findIdx?_eq_some_iff_findIdx_eq.1 hf).1
        exact ⟨a, by show (if (0 : Int) > (a : Int) then 0 else (a : Int)) = a; rw [if_neg (by omega)], by omega, by simp⟩
    obtain ⟨a, ha, hal, hfo⟩ := hat
    refine s_ar ha ?_
    refine s_slc (lo := 0) (hi := a) (mx := q.c) ?_
    rw [cut0 c3]
    rw [hfo] at he
    have hend : ∀ (o' : Sl) (out' : List TagM), out' = ((lineT M key).take a).foldl addT out → HG B (SlC ty_api_Tag 4 o' (out'.flatMap tagF) :: SlS ks (keysM M) :: LocksR l M dm :: blk t3 (.cells (tagF tag).toArray ty_api_Tag (0, 0)) :: Γ) (k' (o', (j : Int) + 1)) := fun o' out' ho => by
      have h3 := addT_len ((lineT M key).take a) out
      rw [← ho, List.length_take] at h3
      refine hk' (o', (j : Int) + 1) (out', j + 1) ⟨by simp, hjl, ?_, ?_⟩ (by simp only; omega)
      · simp only; rw [Nat.add_mul]; omega
      · simp only; rw [ho]; exact he
    refine s_loop (α := Sl × Int) (ι := List TagM × Nat) (fun x i => x.2 = (i.2 : Int) ∧ i.2 ≤ a ∧ i.1 = ((lineT M key).take i.2).foldl addT out)
      (fun x i => SlC ty_api_Tag 4 x.1 (i.1.flatMap tagF) :: SlC ty_api_Tag 4 q ((lineT M key).flatMap tagF) :: SlS ks (keysM M) :: LocksR l M dm :: blk t3 (.cells (tagF tag).toArray ty_api_Tag (0, 0)) :: Γ) (fun x i => a - i.2) (out, 0) ⟨rfl, Nat.zero_le _, by simp⟩ ?_ |> fun h => s_end h
    rintro k2 ⟨o2, _⟩ ⟨out2, i⟩ ⟨rfl, hi, ho2⟩ hk2
    simp only at hi ho2 hk2 ⊢
    unfold locks_Locks_Ahead.b2
    simp only [Nat.sub_zero]
    refine s_ite (fun hb2 => ?_) fun hb2 => ?_
    · have hil : i < a := by simp only [decide_eq_true_eq] at hb2; omega
      have hil2 : i < (lineT M key).length := by omega
      have hge2 : (lineT M key)[i]? = some (lineT M key)[i] := List.getElem?_eq_getElem hil2
      have htk : (lineT M key).take (i + 1) = (lineT M key).take i ++ [(lineT M key)[i]] := List.take_succ_eq_append_getElem hil2
      generalize (lineT M key)[i] = t at hge2 htk
      have h3 := addT_len ((lineT M key).take i) out
      rw [← ho2, List.length_take] at h3
      have hge3 : ((lineT M key).take a)[i]? = some t := by rw [List.getElem?_take, if_pos hil, hge2]
      refine s_idxN (L := (lineT M key).take a) tagF tagF_len (fun w hw => ?_) hge3 ?_
      · have h4 := ((own_rd (s := q) hw).1).take (m := a) (c := q.c) (by omega)
        rwa [flatMap_tk tagF_len] at h4
      refine s_new fun t10 => ?_
      repeat refine s_nx ?_
      refine containsT (L := out2) (by omega) (fun w hw => (own_rd (s := o2) hw).1) ?_
      unfold locks_Locks_Ahead.s3
      refine s_cap o2 fun d1 d2 d3 d4 => ?_
      rw [flatMap_len _ 4 tagF_len] at d1
      refine s_ite (fun hb3 => ?_) fun hb3 => ?_
      · have hm : ¬ t ∈ out2 := by simpa using hb3
        repeat refine s_nx ?_
        refine s_new fun t39 => ?_
        refine s_append (s := o2) (esz := 4) (us := tagF t) (blk_rd rfl) (by simp [flatV]) (by simp only; omega) fun o3 _ => ?_
        rw [show out2.flatMap tagF ++ tagF t = (addT out2 t).flatMap tagF by unfold addT; rw [if_neg hm]; simp only [List.flatMap_append, List.flatMap_cons, List.flatMap_nil, List.append_nil]]
        refine s_ai ?_
        refine s_end (hk2 (o3, (i : Int) + 1) (addT out2 t, i + 1) ⟨by simp, hil, ?_⟩ (by simp only; omega))
        simp only; rw [htk, List.foldl_append, ← ho2]; rfl
      · have hm : t ∈ out2 := by simpa using hb3
        refine s_ai ?_
        refine s_end (hk2 (o2, (i : Int) + 1) (out2, i + 1) ⟨by simp, hil, ?_⟩ (by simp only; omega))
        simp only; rw [htk, List.foldl_append, ← ho2]
        show out2 = addT out2 t
        unfold addT; rw [if_pos hm]
    · have hil : i = a := by simp only [decide_eq_false_iff_not] at hb2; omega
      refine s_ai ?_
      rw [hil] at ho2
      exact s_end (hend o2 out2 ho2)
  · have hjl : j = (keysM M).length := by simp only [decide_eq_false_iff_not] at hb; omega
    rw [hjl, List.drop_length] at he
    rw [List.foldl_nil] at he
    rw [he]
    exact s_end (h o)

/-! ### Moved -/
def clLook (r : Rec) (c : Claim) : Int := lookS r.cnt c.2.cnt r.home c.2.home
def doomL (r : Rec) (L : List Claim) (dm : DM) : DM := L.foldl (fun d c => if clLook r c ≠ 0 then dset d c.1 true else d) dm
def mvP (r : Rec) (_ : List Claim × DM) (c : Claim) : Bool := decide (clLook r c ≠ 1)
def mvS (r : Rec) (x : List Claim × DM) (c : Claim) : List Claim × DM := if clLook r c = 0 then (x.1 ++ [c], x.2) else if clLook r c = 2 then (x.1, dset x.2 c.1 true) else x
def movedM (n : Nat) (S : Recs) (key : List UInt8) (x : GM × DM) : GM × DM :=
  (mset key ((delG (mvP (sGet n S (bs key))) (mvS (sGet n S (bs key))) ((atM key x.1).1, doomL (sGet n S (bs key)) (atM key x.1).1 x.2) (atM key x.1).2).1.1, (delG (mvP (sGet n S (bs key))) (mvS (sGet n S (bs key))) ((atM key x.1).1, doomL (sGet n S (bs key)) (atM key x.1).1 x.2) (atM key x.1).2).2) (gateM key x.1),
   (delG (mvP (sGet n S (bs key))) (mvS (sGet n S (bs key))) ((atM key x.1).1, doomL (sGet n S (bs key)) (atM key x.1).1 x.2) (atM key x.1).2).1.2)
theorem s_wsX {ι : Type} {k : (World → Prop) → K} (Γ0 : ι → List HProp) (i : ι) (h : HG B Γ (k fun w => ∃ i, Holds B (Γ0 i) w)) [d : Drops Γ (Γ0 i)] : HG B Γ (WithS k) := fun w hw => ⟨_, ⟨i, hw.drops⟩, h w hw⟩
theorem s_ldSX {ι : Type} {Γ0 : ι → List HProp} {α : Type} {a : Addr} {c : α → Value} {x : α} {k : α → K} (h0 : ∀ i w, Holds B (Γ0 i) w → w.cell? a = some (c x)) (h : HG B Γ (k x)) : HG B Γ (LdS (fun w => ∃ i, Holds B (Γ0 i) w) a c k) := fun w hw => ⟨x, fun w ⟨i, hi⟩ => h0 i w hi, h w hw⟩
theorem s_svX {ι : Type} {Γ0 : ι → List HProp} (i : ι) (h : HG B Γ k) [d : Drops Γ (Γ0 i)] : HG B Γ (Sv (fun w => ∃ i, Holds B (Γ0 i) w) k) := fun w hw => ⟨⟨i, hw.drops⟩, h w hw⟩
theorem lookS_3 (a b c d : Int) : lookS a b c d = 0 ∨ lookS a b c d = 1 ∨ lookS a b c d = 2 := by
  unfold lookS
  split
  · exact .inr (.inl rfl)
  · split
    · exact .inl rfl
    · exact .inr (.inr rfl)
abbrev doomB (db : Nat) (d : DM) : HProp := ex fun D : List (TagM × Int) => Sep.stars [pur ((∀ t, d t = decide (0 < (mget t D).getD 0)) ∧ (D.map Prod.fst).Nodup), MapR (kyS tagF) (Value.int .i64) db D]
theorem s_doomB {d : DM} (h : ∀ D, (∀ t, d t = decide (0 < (mget t D).getD 0)) → (D.map Prod.fst).Nodup → HG B (MapR (kyS tagF) (Value.int .i64) db D :: Γ) k) : HG B (doomB db d :: Γ) k :=
  s_ex fun D => s_flat <| s_pur fun ⟨h1, h2⟩ => h D h1 h2
theorem s_mkDoom {d : DM} {D : List (TagM × Int)} (h1 : ∀ t, d t = decide (0 < (mget t D).getD 0)) (h2 : (D.map Prod.fst).Nodup) (h : HG B (doomB db d :: Γ) k) : HG B (MapR (kyS tagF) (Value.int .i64) db D :: Γ) k := fun w hw => by
  refine h w ?_
  have h3 : Holds B (Sep.stars [pur ((∀ t, d t = decide (0 < (mget t D).getD 0)) ∧ (D.map Prod.fst).Nodup), MapR (kyS tagF) (Value.int .i64) db D] :: Γ) w := Holds.flat.2 (Holds.pur.2 ⟨⟨h1, h2⟩, hw⟩)
  exact h3.imp fun g hg => ⟨D, hg⟩
abbrev lineB (gb : Nat) (ps : Sl) (L : List Claim) : HProp := ex fun ls : Sl => Sep.stars [blk gb (.cells [ls.val, ps.val].toArray ty_locks_gate (0, 0)), SlC ty_locks_claim 7 ls (L.flatMap clF)]
theorem s_lineB {gb : Nat} {ps : Sl} {L : List Claim} (h : ∀ ls, HG B (blk gb (.cells [ls.val, ps.val].toArray ty_locks_gate (0, 0)) :: SlC ty_locks_claim 7 ls (L.flatMap clF) :: Γ) k) : HG B (lineB gb ps L :: Γ) k :=
  s_ex fun ls => s_flat (h ls)
theorem s_mkLine {gb : Nat} {ls ps : Sl} {L : List Claim} (h : HG B (lineB gb ps L :: Γ) k) : HG B (blk gb (.cells [ls.val, ps.val].toArray ty_locks_gate (0, 0)) :: SlC ty_locks_claim 7 ls (L.flatMap clF) :: Γ) k :=
  s_unflat (Δ := [blk gb (.cells [ls.val, ps.val].toArray ty_locks_gate (0, 0)), SlC ty_locks_claim 7 ls (L.flatMap clF)]) (s_toEx (F := fun ls : Sl => Sep.stars [blk gb (.cells [ls.val, ps.val].toArray ty_locks_gate (0, 0)), SlC ty_locks_claim 7 ls (L.flatMap clF)]) ls h)
theorem mvS_len (r : Rec) (x : List Claim × DM) (c : Claim) : (mvS r x c).1.length ≤ x.1.length + 1 := by
  unfold mvS
  repeat' split
  all_goals simp
theorem delG_len (r : Rec) : ∀ (L : List Claim) (x : List Claim × DM), (delG (mvP r) (mvS r) x L).1.1.length ≤ x.1.length + L.length ∧ (delG (mvP r) (mvS r) x L).2.length ≤ L.length
  | [], x => by simp [delG]
  | c :: L, x => by
    rw [delG_cons]
    have h1 := delG_len r L (mvS r x c)
    have h2 := mvS_len r x c
    refine ⟨by simp only [List.length_cons]; omega, ?_⟩
    simp only
    split
    · simp; omega
    · simp; exact h1.2
theorem delC_hg {s : Sl} {fv : Value} {Q : Sl → K} (h : HG B Γ (delFN Try.prog slices_IndexFunc_s_locks_claim_locks_claim.call ty_locks_claim ty_s_locks_claim 0 7 [(.int .i64 0), (.int .u64 0), (.int .u64 0), (.int .i64 0), (.string ⟨#[]⟩), (.int .i64 0), (.int .u64 0)] s fv Q)) : HG B Γ (slices_DeleteFunc_s_locks_claim_locks_claim.call s fv Q) := fun w hw =>
  slices_DeleteFunc_s_locks_claim_locks_claim_ok _ _ _ _ (h w hw)
theorem moved_hg {key : List UInt8} {N : Nat} {Q : K} (hk : key.length < 1000000000) (hN : gsz M N) (hNl : N ≤ 1000000) (h : HG B (LocksR l (movedM n S key (M, dm)).1 (movedM n S key (M, dm)).2 :: StoreR st n S :: Γ) Q) :
    HG B (LocksR l M dm :: StoreR st n S :: Γ) (locks_Locks_Moved.call (some ⟨l, 0, none⟩) (some ⟨st, 0, none⟩) (bs key) Q) := by
  refine fun w hw => locks_Locks_Moved_ok _ _ _ _ _ ?_
  refine hg hw ?_
  clear hw w
  unfold locks_Locks_Moved
  refine s_new fun l3 => ?_
  repeat refine s_nx ?_
  refine s_own l ?_
  refine gate_hg fun gm db X D A g C hf hX => ?_
  have hat := lf_at hX hf
  rw [at_gate] at hat
  have hz := gsz_at (k := key) hN
  rw [hat] at hz
  simp only at hz
  refine s_own st ?_
  refine storeGet_spec (k := bs key) (by show key.length < _; omega) fun s hok => ?_
  have hmv : movedM n S key (M, dm) = movedM n S key (M, dm) := rfl
  conv at hmv => rhs; unfold movedM
  simp only [hat] at hmv
  rw [hmv] at h
  generalize sGet n S (bs key) = r at *
  refine s_new fun g6 => ?_
  refine s_new fun r7 => ?_
  repeat refine s_nx ?_
  have hcl : ∀ c : Claim, lookS r.cnt c.2.cnt r.home c.2.home = clLook r c := fun c => rfl
  refine s_cap g.ls fun a1 a2 a3 a4 => ?_
  refine s_cap g.ps fun b1 b2 b3 b4 => ?_
  rw [flatMap_len _ 7 clF_len] at a1 b1
  refine s_own db ?_
  refine s_mkDoom (d := doomL r (g.line.take 0) dm) hf.doom hf.nd ?_
  -- the line
  refine s_loop (α := Int) (ι := Nat) (fun x i => x = (i : Int) ∧ i ≤ g.line.length)
    (fun x i => doomB db (doomL r (g.line.take i) dm) :: blk r7 (.cells (recL r s).toArray ty_api_Record (0, 0)) :: blk g6 (.cells [.pointer (some ⟨g.b, 0, none⟩)].toArray ty_p_locks_gate (0, 0)) :: blk l3 (.cells [.pointer (some ⟨l, 0, none⟩)].toArray ty_p_locks_Locks (0, 0)) :: StoreR st n S :: gL g (blk l (.cells [.map (some gm), .map (some db)].toArray ty_locks_Locks (0, 0)) :: MapR strV gV gm X :: Sep.stars ((A ++ C).map gB) :: Γ)) (fun x i => g.line.length - i) 0 ⟨rfl, Nat.zero_le _⟩ ?_ |> fun h => s_end h
  rintro k' _ i ⟨rfl, hi⟩ hk'
  unfold locks_Locks_Moved.b1
  refine s_ite (fun hb => ?_) fun hb => ?_
  · have hil : i < g.line.length := by simp only [decide_eq_true_eq] at hb; omega
    have hge : g.line[i]? = some g.line[i] := List.getElem?_eq_getElem hil
    have htk : g.line.take (i + 1) = g.line.take i ++ [g.line[i]] := List.take_succ_eq_append_getElem hil
    generalize g.line[i] = c at hge htk
    have hdm : doomL r (g.line.take (i + 1)) dm = if clLook r c ≠ 0 then dset (doomL r (g.line.take i) dm) c.1 true else doomL r (g.line.take i) dm := by
      rw [htk]; unfold doomL; rw [List.foldl_append]; rfl
    refine s_idxN clF clF_len (fun w hw => (own_rd (s := g.ls) hw).1) hge ?_
    refine s_new fun c9 => ?_
    repeat refine s_nx ?_
    refine lookHg ?_
    rw [hcl]
    unfold locks_Locks_Moved.s2
    have h5 := hk' ((i : Int) + 1) (i + 1) ⟨by simp, hil⟩ (by omega)
    rw [hdm] at h5
    refine s_ite (fun h0 => ?_) fun h0 => ?_
    · rw [if_pos (by simpa using h0)] at h5
      refine s_pick (doomB db (doomL r (g.line.take i) dm)) ?_
      refine s_doomB fun D1 hd1 hd2 => ?_
      repeat refine s_nx ?_
      refine s_updS (b := db) (cel := tagF) (a := c.1) (v := 1) keyS_tag rfl ?_ mapFD
      refine s_mkDoom (doom_set hd1) (nd_set hd2) ?_
      refine s_ai ?_
      exact s_end h5
    · rw [if_neg (by simpa using h0)] at h5
      refine s_ai ?_
      exact s_end h5
  -- the parked ones
  have hil : i = g.line.length := by simp only [decide_eq_false_iff_not] at hb; omega
  rw [hil, List.take_length]
  clear hk' hb hi hil
  have hlen := delG_len r g.park (g.line, doomL r g.line dm)
  refine s_dr ?_
  refine s_wsX (fun ls : Sl => [blk g6 (.cells [.pointer (some ⟨g.b, 0, none⟩)].toArray ty_p_locks_gate (0, 0)), blk g.b (.cells [ls.val, g.ps.val].toArray ty_locks_gate (0, 0))]) g.ls ?_
  refine s_ldSX (x := some ⟨g.b, 0, none⟩) (fun ls w hw => cell_block (own_blkOf (b := g6) hw) rfl) ?_
  refine s_ldSX (x := some ⟨g.b, 0, none⟩) (fun ls w hw => cell_block (own_blkOf (b := g6) hw) rfl) ?_
  refine s_nn ?_
  refine s_ldSX (x := g.ps) (fun ls w hw => ?_) ?_
  · rw [add_mk]
    exact cell_block (own_blkOf (b := g.b) hw) rfl
  refine s_ownS g.ls ?_
  refine s_own g.b ?_
  refine s_mkLine ?_
  refine delC_hg ?_
  refine s_own l3 ?_
  refine s_own g6 ?_
  refine s_own r7 ?_
  refine s_pick (doomB db (doomL r g.line dm)) ?_
  refine s_pick (lineB g.b g.ps g.line) ?_
  refine s_ownS g.ps ?_
  refine s_end (Δ := SlC ty_locks_claim 7 g.ps (g.park.flatMap clF) :: lineB g.b g.ps g.line :: doomB db (doomL r g.line dm) :: blk r7 (.cells (recL r s).toArray ty_api_Record (0, 0)) :: blk g6 (.cells [.pointer (some ⟨g.b, 0, none⟩)].toArray ty_p_locks_gate (0, 0)) :: blk l3 (.cells [.pointer (some ⟨l, 0, none⟩)].toArray ty_p_locks_Locks (0, 0)) :: blk l (.cells [.map (some gm), .map (some db)].toArray ty_locks_Locks (0, 0)) :: StoreR st n S :: MapR strV gV gm X :: Sep.stars ((A ++ C).map gB) :: Γ) ?_
  refine s_delFN (γ := List Claim × DM) (R := fun x => lineB g.b g.ps x.1 :: doomB db x.2 :: blk r7 (.cells (recL r s).toArray ty_api_Record (0, 0)) :: blk g6 (.cells [.pointer (some ⟨g.b, 0, none⟩)].toArray ty_p_locks_gate (0, 0)) :: blk l3 (.cells [.pointer (some ⟨l, 0, none⟩)].toArray ty_p_locks_Locks (0, 0)) :: blk l (.cells [.map (some gm), .map (some db)].toArray ty_locks_Locks (0, 0)) :: StoreR st n S :: MapR strV gV gm X :: Sep.stars ((A ++ C).map gB) :: Γ)
    (L := g.park) (f := clF) (mvP r) (mvS r) (g.line, doomL r g.line dm) (fun x C => x.1.length + C.length ≤ 2000000) (by simp only; omega) (fun x c C h => by have := mvS_len r x c; simp only [List.length_cons] at h; omega) (fun s fv Q w h => slices_IndexFunc_s_locks_claim_locks_claim_ok _ _ _ _ h) clF_len (by omega) (fun _ => rfl) rfl (by omega) (fun Ξ x c C2 q hc hIx hq => ?_) (fun ps' _ => ?_)
  · refine s_callvC (cs := [.pointer (some ⟨r7, 0, none⟩), .pointer (some ⟨g6, 0, none⟩), .pointer (some ⟨l3, 0, none⟩)]) ?_
    refine fun w hw => locks_Locks_Moved_1_ok _ _ _ _ _ _ ?_
    refine hg hw ?_
    clear hw w
    unfold locks_Locks_Moved_1
    refine s_new fun c4 => ?_
    repeat refine s_nx ?_
    refine lookHg ?_
    rw [hcl]
    have e1 : mvP r x c = decide (clLook r c ≠ 1) := rfl
    rw [e1] at hq
    refine s_ite (fun h0 => ?_) fun h0 => ?_
    · have h0' : clLook r c = 0 := by simpa using h0
      rw [show mvS r x c = (x.1 ++ [c], x.2) by unfold mvS; rw [if_pos h0']] at hq
      refine s_pick (lineB g.b g.ps x.1) ?_
      refine s_lineB fun ls => ?_
      refine s_cap ls fun d1 d2 d3 d4 => ?_
      rw [flatMap_len _ 7 clF_len] at d1
      refine s_dr ?_
      refine s_wsD [blk g.b (.cells [ls.val, g.ps.val].toArray ty_locks_gate (0, 0)), blk g6 (.cells [.pointer (some ⟨g.b, 0, none⟩)].toArray ty_p_locks_gate (0, 0)), blk c4 (.cells (clF c).toArray ty_locks_claim (0, 0))] ?_
      repeat refine s_nx ?_
      refine s_new fun t => ?_
      repeat refine s_nx ?_
      refine s_append (s := ls) (esz := 7) (us := clF c) (blk_rd rfl) (by intro v hv; exact clF_fl [c] v (by simpa using hv)) (by simp only; omega) fun ls' _ => ?_
      rw [show x.1.flatMap clF ++ clF c = (x.1 ++ [c]).flatMap clF by simp only [List.flatMap_append, List.flatMap_cons, List.flatMap_nil, List.append_nil]]
      repeat refine s_nx ?_
      refine s_ownS ls' ?_
      refine s_own g.b ?_
      refine s_mkLine ?_
      unfold locks_Locks_Moved_1.s1
      exact s_end hq
    · have h0' : ¬ clLook r c = 0 := by simpa using h0
      refine s_ite (fun h2 => ?_) fun h2 => ?_
      · have h2' : clLook r c = 2 := by simpa using h2
        rw [show mvS r x c = (x.1, dset x.2 c.1 true) by unfold mvS; rw [if_neg h0', if_pos h2']] at hq
        refine s_pick (doomB db x.2) ?_
        refine s_doomB fun D1 hd1 hd2 => ?_
        repeat refine s_nx ?_
        refine s_updS (b := db) (cel := tagF) (a := c.1) (v := 1) keyS_tag rfl ?_ mapFD
        refine s_mkDoom (doom_set hd1) (nd_set hd2) ?_
        unfold locks_Locks_Moved_1.s1
        exact s_end hq
      · have h2' : ¬ clLook r c = 2 := by simpa using h2
        rw [show mvS r x c = x by unfold mvS; rw [if_neg h0', if_neg h2']] at hq
        unfold locks_Locks_Moved_1.s1
        exact s_end hq
  · generalize (delG (mvP r) (mvS r) (g.line, doomL r g.line dm) g.park) = y at *
    obtain ⟨⟨y1, y2⟩, y3⟩ := y
    simp only at h hlen ⊢
    refine s_pick (lineB g.b g.ps y1) ?_
    refine s_lineB fun ls' => ?_
    refine s_svX ls' ?_
    refine s_nn ?_
    repeat refine s_nx ?_
    refine s_pick (doomB db y2) ?_
    refine s_doomB fun D1 hd1 hd2 => ?_
    refine s_end (Δ := gL ⟨g.b, ls', ps', y1, y3⟩ (lockF l gm db X (A ++ C) D1 (StoreR st n S :: Γ))) ?_
    exact s_ungate hX rfl hf ⟨hd1, hd2⟩ h
end
end Go.Proofs.Ytfjjocopmknhgaa
/- Plain forms of functions, and that their code comes to them (package ref16). -/
namespace Go.Proofs.Ytfjjocopmknhgaa
open Go Go.Sep
set_option linter.unusedVariables false
set_option linter.unusedSimpArgs false
set_option maxRecDepth 100000
set_option maxHeartbeats 4000000
attribute [local irreducible] G Gp Cx Tx Ex Sx Dx Ox Ax Lx Rx Fx Bx Bj Al Do Ld LdN St StN New CallF Ar DoU Rd Rd2 Pu Cd Ite Fv CallV CallY Ans0 Ans1 Ans2 Ans3 Ans4 Ans5 Ext Dead Dr WithS Sv LdS LdNS RdS Rd2S Nn Idx IdxA IdxS Fld Bld Slc SlcS Cat All LoopK RangeF RangeJ TakeD
namespace F_IRRef16
instance at_58 : AT Try.prog 58 4 := ⟨by kernel_rfl⟩
instance mx : MX Try.prog := ⟨mixed⟩
instance sl_101 : SLT Try.prog 101 58 4 := ⟨by kernel_rfl⟩
end F_IRRef16
def ref16_Same.b1 (Q : Bool → K)  (X1 : Int → K) (a0_1 : Sl) (b1_1 : Sl) (i5_1 : Int) : K :=
  Ite (decide (i5_1 < (a0_1.n : Int)))
    (Dr <|
    Idx a0_1 i5_1 4 fun t19 =>
    LdN t19 4 fun t20 =>
    Idx b1_1 i5_1 4 fun t23 =>
    LdN t23 4 fun t24 =>
    Pu Try.prog (do eqGuard .neq 58 (.tmp 20) (.tmp 24) (.agg t20) (.agg t24); binOp .neq 58 (.agg t20) (.agg t24) : Sem Value) Value.bool fun t25 =>
    Ite t25
      (Q false)
      (Ar (IntKind.wrap .i64 (i5_1 + 1)) fun t16 =>
      X1 t16))
    (Q true)
def ref16_Same (a0 : Sl) (b1 : Sl) (Q : Bool → K) : K :=
  Ite (decide ((a0.n : Int) ≠ (b1.n : Int)))
    (Q false)
    (LoopK (α := Int) (fun X x => ref16_Same.b1 Q X a0 b1 x) 0)
theorem ref16_Same_ok (a0 : Sl) (b1 : Sl) (Q : Bool → K) (w : World) (h : ref16_Same a0 b1 Q w) : ref16_Same.call a0 b1 Q w := by
  have hL4 : ∀ (a0_1 : Sl) (b1_1 : Sl), LH 4 (fun x : Int => [(0, (Sl.val a0_1)), (1, (Sl.val b1_1)), (5, (.int .i64 x))]) (fun X x => ref16_Same.b1 Q X a0_1 b1_1 x) := by intros; exact ⟨⟩
  exact g_walk 26 h Try.func74
end Go.Proofs.Ytfjjocopmknhgaa
/- Plain forms of functions, and that their code comes to them (package law16). -/
namespace Go.Proofs.Ytfjjocopmknhgaa
open Go Go.Sep
set_option linter.unusedVariables false
set_option linter.unusedSimpArgs false
set_option maxRecDepth 100000
set_option maxHeartbeats 4000000
attribute [local irreducible] G Gp Cx Tx Ex Sx Dx Ox Ax Lx Rx Fx Bx Bj Al Do Ld LdN St StN New CallF Ar DoU Rd Rd2 Pu Cd Ite Fv CallV CallY Ans0 Ans1 Ans2 Ans3 Ans4 Ans5 Ext Dead Dr WithS Sv LdS LdNS RdS Rd2S Nn Idx IdxA IdxS Fld Bld Slc SlcS Cat All LoopK RangeF RangeJ TakeD
namespace F_IRLaw16
instance at_58 : AT Try.prog 58 4 := ⟨by kernel_rfl⟩
instance cb_13 : CB Try.prog 13 := ⟨by kernel_rfl⟩
instance cb_43 : CB Try.prog 43 := ⟨by kernel_rfl⟩
instance cb_44 : CB Try.prog 44 := ⟨by kernel_rfl⟩
instance cb_45 : CB Try.prog 45 := ⟨by kernel_rfl⟩
instance cb_46 : CB Try.prog 46 := ⟨by kernel_rfl⟩
instance cb_47 : CB Try.prog 47 := ⟨by kernel_rfl⟩
instance cb_48 : CB Try.prog 48 := ⟨by kernel_rfl⟩
instance cb_74 : CB Try.prog 74 := ⟨by kernel_rfl⟩
instance mx : MX Try.prog := ⟨mixed⟩
instance pl_39 : PLT Try.prog 39 [(0, 1), (1, 1), (2, 1)] := ⟨_, Try.underlying39, by kernel_rfl⟩
instance pl_56 : PLT Try.prog 56 [(0, 1), (1, 1), (2, 1)] := ⟨_, Try.underlying56, by kernel_rfl⟩
instance pl_58 : PLT Try.prog 58 [(0, 3), (3, 1)] := ⟨_, Try.underlying58, by kernel_rfl⟩
instance sl_101 : SLT Try.prog 101 58 4 := ⟨by kernel_rfl⟩
instance sl_29 : SLT Try.prog 29 39 3 := ⟨by kernel_rfl⟩
instance sz_58 : SZ Try.prog 58 4 := ⟨by kernel_rfl⟩
instance un_25 : UN Try.prog 25 (.pointer 112) := ⟨Try.underlying25⟩
instance un_95 : UN Try.prog 95 (.pointer 145) := ⟨Try.underlying95⟩
instance zt_39 : ZT Try.prog 39 (.agg #[(.string ⟨#[]⟩), (.int .i64 0), (.int .u64 0)]) := ⟨Try.t39, by kernel_rfl, by kernel_rfl⟩
instance zt_56 : ZT Try.prog 56 (.agg #[(.int .i64 0), (.int .u64 0), (.int .u64 0)]) := ⟨Try.t56, by kernel_rfl, by kernel_rfl⟩
instance zt_58 : ZT Try.prog 58 (.agg #[(.int .i64 0), (.int .u64 0), (.int .u64 0), (.int .i64 0)]) := ⟨Try.t58, by kernel_rfl, by kernel_rfl⟩
end F_IRLaw16
def law16_speaks.s2 (Q : Bool → K)  (t0_2 : Bool) : K :=
  Q t0_2
def law16_speaks.s1 (Q : Bool → K)  (s1_1 : (Option Addr)) (l3_1 : (Option Addr)) (t17_1 : Bool) : K :=
  Ite t17_1
    (Q false)
    (law16_tag.call 1 fun t20 =>
    Bld #[(.string ⟨#[]⟩), (.int .i64 0), (.int .u64 0)] (fun i => some (i * 3, 3)) [(0, (.agg #[(.string ⟨#[97]⟩), (.int .i64 0), (.int .u64 0)]))] fun ct22 =>
    New 39 ct22 fun t22 =>
    locks_Locks_Enter.call l3_1 s1_1 t20 (Sl.mk (some t22) 1 1) <|
    law16_tag.call 2 fun t26 =>
    Bld #[(.string ⟨#[]⟩), (.int .i64 0), (.int .u64 0), (.string ⟨#[]⟩), (.int .i64 0), (.int .u64 0)] (fun i => some (i * 3, 3)) [(0, (.agg #[(.string ⟨#[97]⟩), (.int .i64 0), (.int .u64 0)])), (1, (.agg #[(.string ⟨#[98]⟩), (.int .i64 0), (.int .u64 0)]))] fun ct29 =>
    New 39 ct29 fun t29 =>
    locks_Locks_Enter.call l3_1 s1_1 t26 (Sl.mk (some t29) 2 2) <|
    law16_tag.call 1 fun t32 =>
    locks_Locks_Ready.call l3_1 t32 fun t33 =>
    law16_tag.call 2 fun t35 =>
    locks_Locks_Ready.call l3_1 t35 fun t36 =>
    law16_tag.call 2 fun t38 =>
    locks_Locks_Ahead.call l3_1 t38 fun t39 =>
    law16_tag.call 1 fun t41 =>
    locks_Locks_Leave.call l3_1 t41 <|
    Ite t33
      (Ite (!t36)
        (law16_tag.call 1 fun t50 =>
        Bld #[(.int .i64 0), (.int .u64 0), (.int .u64 0), (.int .i64 0)] (fun i => some (i * 4, 4)) [(0, (.agg t50))] fun ct51 =>
        New 58 ct51 fun t51 =>
        ref16_Same.call t39 (Sl.mk (some t51) 1 1) fun t52 =>
        Ite t52
          (law16_tag.call 2 fun t56 =>
          locks_Locks_Ready.call l3_1 t56 fun t57 =>
          law16_speaks.s2 Q t57)
          (law16_speaks.s2 Q false))
        (law16_speaks.s2 Q false))
      (law16_speaks.s2 Q false))
def law16_speaks  (Q : Bool → K) : K :=
  store_New.call 1 fun t8x0 t8x1 =>
  locks_New.call  fun t11 =>
  Ite ((t8x0).isNone)
    (law16_speaks.s1 Q t8x0 t11 true)
    (law16_speaks.s1 Q t8x0 t11 ((t11).isNone))
theorem law16_speaks_ok  (Q : Bool → K) (w : World) (h : law16_speaks  Q w) : law16_speaks.call  Q w := by
  have hJ1000009 : JH 1000009 fun D => D [] (fun C => ∀ (t0_2 : Bool), C [(0, (.bool t0_2))] (law16_speaks.s2 Q t0_2)) := by intros; exact ⟨fun _ h => ⟨_, _, h⟩⟩
  have hJ4 : JH 4 fun D => ∃ (s1_1 : (Option Addr)) (l3_1 : (Option Addr)), D [(1, (.pointer s1_1)), (3, (.pointer l3_1))] (fun C => ∀ (t17_1 : Bool), C [(1, (.pointer s1_1)), (3, (.pointer l3_1)), (17, (.bool t17_1))] (law16_speaks.s1 Q s1_1 l3_1 t17_1)) := by intros; exact ⟨fun _ ⟨_, _, h⟩ => ⟨_, _, h⟩⟩
  exact g_walk 59 h Try.func42
def law16_tag (n0 : Int) (Q : (Array Value) → K) : K :=
  New 58 #[(.int .i64 0), (.int .u64 0), (.int .u64 0), (.int .i64 0)] fun t2 =>
  Bld #[(.int .i64 0), (.int .u64 0), (.int .u64 0), (.int .i64 0)] ([(0, 3), (3, 1)][·]?) [(0, (.agg #[(.int .i64 0), (.int .u64 0), (.int .u64 n0)]))] fun t5 =>
  StN t2 4 t5 <|
  LdN t2 4 fun r0 =>
  Q r0
theorem law16_tag_ok (n0 : Int) (Q : (Array Value) → K) (w : World) (h : law16_tag n0 Q w) : law16_tag.call n0 Q w := by
  exact g_walk 6 h Try.func45
end Go.Proofs.Ytfjjocopmknhgaa
/- The example of the law's chapter on locks. -/
namespace Go.Proofs.Ytfjjocopmknhgaa
open Go Go.Sep Go.Sep.Bt
set_option linter.unusedSimpArgs false
set_option linter.unusedVariables false
set_option maxRecDepth 100000

abbrev tg (n : Int) : TagM := ⟨0, 0, n, 0⟩
section
variable {B : World} {Γ Δ : List HProp}
theorem tag16_hg {n : Int} {Q : Array Value → K} (h : HG B Γ (Q (tagF (tg n)).toArray)) : HG B Γ (law16_tag.call n Q) := by
  refine fun w hw => law16_tag_ok _ _ _ ?_
  refine hg hw ?_
  clear hw w
  unfold law16_tag
  refine s_new fun t2 => ?_
  repeat refine s_nx ?_
  exact s_end h
theorem same16_hg {s1 s2 : Sl} {L1 L2 : List TagM} {Q : Bool → K} (hl : L1.length < 1000000000) (h1 : ∀ w, Holds B Γ w → RdC w s1 4 (L1.flatMap tagF)) (h2 : ∀ w, Holds B Γ w → RdC w s2 4 (L2.flatMap tagF)) (h : HG B Γ (Q (decide (L1 = L2)))) : HG B Γ (ref16_Same.call s1 s2 Q) := fun w hw => by
  refine ref16_Same_ok _ _ _ _ ?_
  have l1 : s1.n = L1.length := rd_len tagF_len (by omega) (h1 w hw)
  have l2 : s2.n = L2.length := rd_len tagF_len (by omega) (h2 w hw)
  refine hg hw ?_
  clear hw w
  unfold ref16_Same
  refine s_ite (fun hb => ?_) fun hb => ?_
  · have hne : L1.length ≠ L2.length := by simp only [decide_eq_true_eq] at hb; omega
    rw [show decide (L1 = L2) = false by simpa using fun e => hne (by rw [e])] at h
    exact h
  have hll : L1.length = L2.length := by simp only [decide_eq_false_iff_not] at hb; omega
  refine s_loopC (α := Int) (fun x => ∃ i : Nat, x = (i : Int) ∧ i ≤ L1.length ∧ L1.take i = L2.take i) (fun x => L1.length - x.toNat) ⟨0, rfl, Nat.zero_le _, by simp⟩ fun k' x hx hk' => ?_
  obtain ⟨i, rfl, hi, he⟩ := hx
  unfold ref16_Same.b1
  refine s_ite (fun hb => ?_) fun hb => ?_
  · have hil : i < L1.length := by simp only [decide_eq_true_eq] at hb; omega
    have hil2 : i < L2.length := by omega
    have t1 := List.take_succ_eq_append_getElem hil
    have t2 := List.take_succ_eq_append_getElem hil2
    have g1 : L1[i]? = some L1[i] := List.getElem?_eq_getElem hil
    have g2 : L2[i]? = some L2[i] := List.getElem?_eq_getElem hil2
    generalize L1[i] = x at t1 g1
    generalize L2[i] = y at t2 g2
    repeat refine s_nx ?_
    refine s_idxN tagF tagF_len h1 g1 ?_
    refine s_idxN tagF tagF_len h2 g2 ?_
    refine s_neS (xs := tagF x) (ys := tagF y) (ks := tagK) (p := x = y) tagF_inj ?_
    refine s_ite (fun hp => ?_) fun hp => ?_
    · have hp' : x ≠ y := by simpa using hp
      rw [show decide (L1 = L2) = false by simp only [decide_eq_false_iff_not]; rintro rfl; rw [g1] at g2; exact hp' (Option.some.inj g2)] at h
      exact h
    · have hp' : x = y := by simpa using hp
      refine s_ai ?_
      exact hk' _ ⟨i + 1, by simp, hil, by rw [t1, t2, he, hp']⟩ (by omega)
  · have hil : i = L1.length := by simp only [decide_eq_false_iff_not] at hb; omega
    rw [hil, List.take_length, hll, List.take_length] at he
    rw [show decide (L1 = L2) = true by simpa using he] at h
    exact h
theorem sort2 : sortL [[97], [98]] = [[97], [98]] := List.mergeSort_of_pairwise (by simp; decide)
theorem speaks16 {q : Bool → K} (h : HG B Γ (q true)) : HG B Γ (law16_speaks.call q) := by
  refine fun w hw => law16_speaks_ok _ _ ?_
  refine hg hw ?_
  clear hw w
  unfold law16_speaks
  refine storeNew_spec (n := 1) (by omega) (by omega) fun st => ?_
  refine locksNew_hg fun l => ?_
  repeat refine s_nx ?_
  unfold law16_speaks.s1
  repeat refine s_nx ?_
  refine tag16_hg ?_
  repeat refine s_nx ?_
  refine s_new fun t22 => ?_
  refine s_own st ?_
  refine s_own l ?_
  refine enter_hg (L := [⟨[97], 0, 0⟩]) (N := 0) (fun w hw => by have := blk_rd (t := t22) (cs := markF ⟨[97], 0, 0⟩) (k := 1) rfl w hw; simpa using this) (by simp) ⟨by simp, by simp⟩ (by simp) ?_
  refine tag16_hg ?_
  refine s_bldF (cs := [(⟨[97], 0, 0⟩ : MarkM), ⟨[98], 0, 0⟩].flatMap markF) ?_
  refine s_new fun t29 => ?_
  refine s_own st ?_
  refine s_own l ?_
  refine enter_hg (L := [⟨[97], 0, 0⟩, ⟨[98], 0, 0⟩]) (N := 1) (fun w hw => RdC.of_blk (E := ty_api_Mark) (b := t29) (n := 2) (vs := [(⟨[97], 0, 0⟩ : MarkM), ⟨[98], 0, 0⟩].flatMap markF) (cs := ([(⟨[97], 0, 0⟩ : MarkM), ⟨[98], 0, 0⟩].flatMap markF).toArray) hw (by simp) (by simp) rfl 2) (by simp) (gsz_enter (x := ([], fun _ => false)) (N := 0) ⟨by simp, by simp⟩) (by simp) ?_
  generalize hM : (enterM 1 [] (tg 2) [⟨[97], 0, 0⟩, ⟨[98], 0, 0⟩] (enterM 1 [] (tg 1) [⟨[97], 0, 0⟩] ([], fun _ => false))) = x
  have hM1 : x.1 = [([97], ([(tg 1, ⟨[97], 0, 0⟩), (tg 2, ⟨[97], 0, 0⟩)], [])), ([98], ([(tg 2, ⟨[98], 0, 0⟩)], []))] := by
    have hh : ∀ k, homeOf k 1 = 0 := fun k => by unfold homeOf; induction k with | nil => rfl | cons b k ih => simpa [Nat.mod_one] using ih
    rw [← hM]
    simp [enterM, enter1, atM, gateM, hasT, mget, mset, markLook, lookS, sGet, getM, hh]
  have hz : gsz x.1 10 := by rw [hM1]; exact ⟨by simp, by simp⟩
  obtain ⟨M, dm⟩ := x
  simp only at hM1 hz ⊢
  refine tag16_hg ?_
  refine ready_hg hz (by omega) ?_
  refine tag16_hg ?_
  refine ready_hg hz (by omega) ?_
  refine tag16_hg ?_
  refine ahead_hg hz (by omega) fun s => ?_
  refine tag16_hg ?_
  refine s_own l ?_
  refine leave_hg hz (by omega) ?_
  have hz2 : gsz (leaveM (tg 1) (M, dm)).1 10 := by rw [show (leaveM (tg 1) (M, dm)).1 = M.map fun p => (p.1, (noT (tg 1) p.2.1, noT (tg 1) p.2.2)) from rfl, hM1]; exact ⟨by simp, by simp [noT]⟩
  have r1 : readyM (tg 1) M = true := by rw [hM1]; rfl
  have r2 : readyM (tg 2) M = false := by rw [hM1]; rfl
  have ha : aheadM (tg 2) M = [tg 1] := by
    have hk : keysM M = [[97], [98]] := by
      unfold keysM
      rw [hM1]
      show (sortL [[97], [98]]).filter _ = _
      rw [sort2]; rfl
    unfold aheadM
    rw [hk, hM1]; rfl
  have r3 : readyM (tg 2) (leaveM (tg 1) (M, dm)).1 = true := by
    rw [show (leaveM (tg 1) (M, dm)).1 = M.map fun p => (p.1, (noT (tg 1) p.2.1, noT (tg 1) p.2.2)) from rfl, hM1]; rfl
  rw [r1, r2, ha]
  repeat refine s_nx ?_
  refine tag16_hg ?_
  repeat refine s_nx ?_
  refine s_new fun t51 => ?_
  refine same16_hg (L1 := [tg 1]) (L2 := [tg 1]) (by simp) (fun w hw => (own_rd (s := s) hw).1) (fun w hw => by have := blk_rd (t := t51) (cs := tagF (tg 1)) (k := 1) rfl w hw; simpa using this) ?_
  repeat refine s_nx ?_
  refine s_t ?_ (by simp)
  refine tag16_hg ?_
  refine s_own l ?_
  refine ready_hg hz2 (by omega) ?_
  rw [r3]
  unfold law16_speaks.s2
  exact s_end h
end
end Go.Proofs.Ytfjjocopmknhgaa
/- A slice without some of its middle, put together anew. Holds for every program. -/
namespace Go.Sep
open Go Go.RowKit
set_option linter.unusedSimpArgs false
set_option linter.unusedVariables false
section
variable {P : Program} {B : World} {Γ Δ : List HProp} {E esz : Nat} {s : Sl} {vs : List Value}
/-- append(s[:i:i], s[j:]...) -/
theorem s_cutApp {T U Tr i j : Nat} {k : Sl → K} (hij : i ≤ j) (hj : j ≤ s.n) (hn : s.n < 50000000) (hfl : ∀ v ∈ vs, flatV v = true)
    (h : ∀ s', s'.n = i + (s.n - j) → HG B (SlC E esz s' (vs.take (i * esz) ++ vs.drop (j * esz)) :: Δ) (k s')) [p : OwnS s Γ (SlC E esz s vs) Δ] (hT : appT P T U E esz = true := by kernel_rfl) :
    HG B Γ (Do P (Builtin.append_ #[T, U] Tr #[Sl.val ⟨cutA s.a 0 i esz, i - 0, i - 0⟩, Sl.val ⟨cutA s.a j s.c esz, s.n - j, s.c - j⟩]) Sl.val k) := by
  refine s_cap s fun h1 h2 h3 h4 => ?_
  obtain ⟨g1, g2, n, zv, g3, g4, g5, g6, g7, _⟩ := appT_spec hT
  rw [cut0 h3]
  simp only [Nat.sub_zero]
  refine fun w hw => ?_
  have hx : RdC w ⟨cutA s.a j s.c esz, s.n - j, s.c - j⟩ esz (vs.drop (j * esz)) := (own_rd (s := s) hw).1.drop hj h2 h3
  refine hg (k := fun w => RdC w ⟨cutA s.a j s.c esz, s.n - j, s.c - j⟩ esz (vs.drop (j * esz)) → Do P _ _ _ w) hw (s_shrink (s := s) (m := i) (c' := i) (by omega) (Nat.le_refl _) (by omega) fun w hw hx => ?_) hx
  refine r_append hw g1 g2 g3 g6 g7 hx (fun v hv => hfl v (List.mem_of_mem_drop hv)) ?_ g5 fun s' w' h' hn' _ => h s' hn' w' h'
  have h8 : (2 * (i + (s.n - j)) + 800) * n ≤ 200000800 * 1000 := Nat.mul_le_mul (by omega) g4
  simp only
  omega
end
end Go.Sep
/- A B-tree's node, leaf or not, in one view. Holds for every program. -/
namespace Go.Sep
open Go Go.RowKit
set_option linter.unusedSimpArgs false
set_option linter.unusedVariables false
namespace Bt
section
variable {κ : Type} {G : BtT κ} {c : κ → κ → Int} {B : World} {Γ Δ : List HProp}
/-- Items and kids in turn. -/
def wv : List G.It → List (Kid G) → List G.It
  | its, [] => its
  | [], q :: _ => q.2
  | x :: its, q :: ks => q.2 ++ x :: wv its ks
theorem wv_ps (q0 : Kid G) : ∀ (ps : List (G.It × Kid G)), wv (ps.map Prod.fst) (q0 :: ps.map Prod.snd) = psL q0 ps
  | [] => by simp [wv, psL]
  | (x, q) :: ps => by
    have e : psL q0 ((x, q) :: ps) = q0.2 ++ x :: psL q ps := by simp [psL]
    rw [e, ← wv_ps q ps]; rfl
/-- As many kids as there must be. -/
def Fit (d : Nat) (its : List G.It) (ks : List (Kid G)) : Prop := match d with
  | 0 => ks = []
  | _ + 1 => ks.length = its.length + 1
def kidsD (G : BtT κ) : Nat → List (Kid G) → HProp
  | 0, _ => Sep.stars []
  | d + 1, ks => kidsR G d ks
abbrev rawL (G : BtT κ) (d b : Nat) (s kd : Sl) (its : List G.It) (ks : List (Kid G)) (Γ : List HProp) : List HProp := nodeB G b s kd :: itsR G s its :: kpsR G kd (ks.map ptr) :: kidsD G d ks :: Γ
theorem s_raw {d m b : Nat} {L : List G.It} {k : K} (h : ∀ s kd its ks, Fit d its ks → its.length ≤ 5 → (m = 2 → its ≠ []) → L = wv its ks → HG B (rawL G d b s kd its ks Γ) k) : HG B (NodeR G d m b L :: Γ) k := by
  cases d with
  | zero =>
    refine s_node0 fun s kd h1 h2 => ?_
    refine fun w hw => ?_
    refine hg (show Holds B (kidsD G 0 [] :: _) w from Holds.flat.2 hw) ?_
    have := h s kd L [] rfl h2 h1 (by cases L <;> rfl)
    refine s_end (Δ := nodeB G b s kd :: itsR G s L :: kpsR G kd [] :: kidsD G 0 [] :: Γ) ?_
    exact this
  | succ d =>
    refine s_nodeS fun s kd q0 ps h1 h2 h3 => ?_
    exact h s kd (ps.map Prod.fst) (q0 :: ps.map Prod.snd) (by simp [Fit]) (by simpa using h2) (fun hm => by simpa using h1 (by omega)) (by rw [h3, wv_ps])
theorem zip_ps {its : List G.It} {ks : List (Kid G)} (h : ks.length = its.length + 1) : ∃ (q0 : Kid G) (ps : List (G.It × Kid G)), its = ps.map Prod.fst ∧ ks = q0 :: ps.map Prod.snd := by
  cases ks with
  | nil => simp at h
  | cons q0 ks =>
    refine ⟨q0, its.zip ks, ?_, ?_⟩
    · rw [List.map_fst_zip (by simp at h; omega)]
    · rw [List.map_snd_zip (by simp at h; omega)]
theorem s_unraw {d m b : Nat} {s kd : Sl} {its : List G.It} {ks : List (Kid G)} {k : K} (hf : Fit d its ks) (hl : its.length ≤ 5) (hm : 1 ≤ m → (d = 0 ∧ m = 1) ∨ its ≠ []) (h : HG B (NodeR G d m b (wv its ks) :: Γ) k) : HG B (rawL G d b s kd its ks Γ) k := by
  cases d with
  | zero =>
    have hk : ks = [] := hf
    subst hk
    have e : wv its [] = its := by cases its <;> rfl
    rw [e] at h
    show HG B (nodeB G b s kd :: itsR G s its :: kpsR G kd [] :: kidsD G 0 [] :: Γ) k
    refine s_end (Δ := nodeB G b s kd :: itsR G s its :: kpsR G kd [] :: Γ) ?_
    exact s_mk0 (fun h2 => by rcases hm (by omega) with h3 | h3
                              · omega
                              · exact h3) hl h
  | succ d =>
    obtain ⟨q0, ps, rfl, rfl⟩ := zip_ps hf
    rw [wv_ps] at h
    exact s_mkS (fun h2 => by rcases hm h2 with h3 | h3
                              · omega
                              · simpa using h3) (by simpa using hl) h
end
end Bt
end Go.Sep
/- A B-tree: what Delete's functions are (printed by tools/mkbt.py). Holds for every program. -/
namespace Go.Sep
open Go Go.RowKit
set_option linter.unusedSimpArgs false
set_option linter.unusedVariables false
namespace Bt
structure BtD (κ : Type) extends BtT κ where
  delIC : Sl → Int → Int → (Sl → K) → K
  delKC : Sl → Int → Int → (Sl → K) → K
  ntakeC : Option Addr → κ → (Array Value → Bool → K) → K
  nlastC : Option Addr → (Array Value → K) → K
  nmendC : Option Addr → Int → K → K
section
variable {κ : Type}
def nmend_s2 (G : BtD κ) (Q : K)  (n0_2 : Addr) (i1_2 : Int) (kid4_2 : Addr) (t202_2 : Bool) : K :=
  Ite t202_2
    (Ld (n0_2.add 1) Sl.val fun t229 =>
    Ar (IntKind.wrap .i64 (i1_2 + 1)) fun t231 =>
    Idx t229 t231 1 fun t232 =>
    Ld t232 Value.pointer fun t233 =>
    Dr <| WithS fun S =>
    LdS S kid4_2 Sl.val fun t238 =>
    LdS S n0_2 Sl.val fun t242 =>
    Idx t242 i1_2 (G.nv + 1) fun t244 =>
    LdNS S t244 (G.nv + 1) fun t245 =>
    Bld (G.kz :: G.vz).toArray (fun i => some (i * (G.nv + 1), (G.nv + 1))) [(0, (.agg t245))] fun ct246 =>
    New G.tI ct246 fun t246 =>
    Sv S <|
    Do G.P (Builtin.append_ #[G.tSI, G.tSI] G.tSI #[(Sl.val t238), (Sl.val (Sl.mk (some t246) 1 1))]) Sl.val fun t247 =>
    St kid4_2 (Sl.val t247) <|
    Dr <|
    Nn t233 fun t256 =>
    Ld n0_2 Sl.val fun t253 =>
    Ld t256 Sl.val fun t258 =>
    Idx t258 0 (G.nv + 1) fun t259 =>
    LdN t259 (G.nv + 1) fun t260 =>
    Idx t253 i1_2 (G.nv + 1) fun t261 =>
    StN t261 (G.nv + 1) t260 <|
    Ld t256 Sl.val fun t266 =>
    G.delIC t266 0 1 fun t267 =>
    St t256 (Sl.val t267) <|
    Ld (t256.add 1) Sl.val fun t273 =>
    Ite (decide ((0 : Int) < (t273.n : Int)))
      (Dr <| WithS fun S =>
      LdS S (kid4_2.add 1) Sl.val fun t280 =>
      LdS S (t256.add 1) Sl.val fun t284 =>
      Idx t284 0 1 fun t285 =>
      LdS S t285 Value.pointer fun t286 =>
      New G.tK #[(.pointer t286)] fun t287 =>
      Sv S <|
      Do G.P (Builtin.append_ #[G.tSK, G.tSK] G.tSK #[(Sl.val t280), (Sl.val (Sl.mk (some t287) 1 1))]) Sl.val fun t288 =>
      St (kid4_2.add 1) (Sl.val t288) <|
      Ld (t256.add 1) Sl.val fun t295 =>
      G.delKC t295 0 1 fun t296 =>
      St (t256.add 1) (Sl.val t296) <|
      Q)
      (Q))
    (Ar (if (1 : Int) > i1_2 then 1 else i1_2) fun t18 =>
    Dr <|
    Ld (n0_2.add 1) Sl.val fun t22 =>
    Ar (IntKind.wrap .i64 (t18 - 1)) fun t24 =>
    Idx t22 t24 1 fun t25 =>
    Ld t25 Value.pointer fun t26 =>
    Ld (n0_2.add 1) Sl.val fun t30 =>
    Idx t30 t18 1 fun t32 =>
    Ld t32 Value.pointer fun t33 =>
    Dr <| WithS fun S =>
    Nn t26 fun t36 =>
    Ar (IntKind.wrap .i64 (t18 - 1)) fun t44 =>
    Nn t33 fun t50 =>
    LdS S t36 Sl.val fun t38 =>
    LdS S n0_2 Sl.val fun t42 =>
    Idx t42 t44 (G.nv + 1) fun t45 =>
    LdNS S t45 (G.nv + 1) fun t46 =>
    LdS S t50 Sl.val fun t52 =>
    Bld (G.kz :: G.vz).toArray (fun i => some (i * (G.nv + 1), (G.nv + 1))) [(0, (.agg t46))] fun ct47 =>
    New G.tI ct47 fun t47 =>
    Sv S <|
    Do G.P (Builtin.append_ #[G.tSI, G.tSI] G.tSI #[(Sl.val t38), (Sl.val (Sl.mk (some t47) 1 1))]) Sl.val fun t48 =>
    Sv S <|
    Do G.P (Builtin.append_ #[G.tSI, G.tSI] G.tSI #[(Sl.val t48), (Sl.val t52)]) Sl.val fun t53 =>
    St t36 (Sl.val t53) <|
    Dr <|
    Ld (t36.add 1) Sl.val fun t60 =>
    Ld (t50.add 1) Sl.val fun t64 =>
    Do G.P (Builtin.append_ #[G.tSK, G.tSK] G.tSK #[(Sl.val t60), (Sl.val t64)]) Sl.val fun t65 =>
    St (t36.add 1) (Sl.val t65) <|
    Ld n0_2 Sl.val fun t72 =>
    Ar (IntKind.wrap .i64 (t18 - 1)) fun t74 =>
    G.delIC t72 t74 t18 fun t76 =>
    St n0_2 (Sl.val t76) <|
    Ld (n0_2.add 1) Sl.val fun t83 =>
    Ar (IntKind.wrap .i64 (t18 + 1)) fun t86 =>
    G.delKC t83 t18 t86 fun t87 =>
    St (n0_2.add 1) (Sl.val t87) <|
    Q)
def nmend_s1 (G : BtD κ) (Q : K)  (n0_1 : Addr) (i1_1 : Int) (kid4_1 : Addr) (t97_1 : Bool) : K :=
  Ite t97_1
    (Ld (n0_1.add 1) Sl.val fun t118 =>
    Ar (IntKind.wrap .i64 (i1_1 - 1)) fun t120 =>
    Idx t118 t120 1 fun t121 =>
    Ld t121 Value.pointer fun t122 =>
    Nn t122 fun t124 =>
    Ld t124 Sl.val fun t126 =>
    Ar (IntKind.wrap .i64 ((t126.n : Int) - 1)) fun t128 =>
    Dr <| WithS fun S =>
    Ar (IntKind.wrap .i64 (i1_1 - 1)) fun t139 =>
    LdS S kid4_1 Sl.val fun t133 =>
    LdS S n0_1 Sl.val fun t137 =>
    Idx t137 t139 (G.nv + 1) fun t140 =>
    LdNS S t140 (G.nv + 1) fun t141 =>
    Bld (G.kz :: G.vz).toArray (fun i => some (i * (G.nv + 1), (G.nv + 1))) [(0, (.agg t141))] fun ct142 =>
    New G.tI ct142 fun t142 =>
    Sv S <|
    G.insIC t133 0 (Sl.mk (some t142) 1 1) fun t143 =>
    St kid4_1 (Sl.val t143) <|
    Dr <|
    Ar (IntKind.wrap .i64 (i1_1 - 1)) fun t151 =>
    Ld n0_1 Sl.val fun t149 =>
    Ld t124 Sl.val fun t155 =>
    Idx t155 t128 (G.nv + 1) fun t157 =>
    LdN t157 (G.nv + 1) fun t158 =>
    Idx t149 t151 (G.nv + 1) fun t159 =>
    StN t159 (G.nv + 1) t158 <|
    Ld t124 Sl.val fun t164 =>
    Slc t164 0 t128 (t164.c : Int) (G.nv + 1) fun t166 =>
    St t124 (Sl.val t166) <|
    Ld (t124.add 1) Sl.val fun t172 =>
    Ite (decide ((0 : Int) < (t172.n : Int)))
      (Dr <| WithS fun S =>
      Ar (IntKind.wrap .i64 (t128 + 1)) fun t185 =>
      LdS S (kid4_1.add 1) Sl.val fun t179 =>
      LdS S (t124.add 1) Sl.val fun t183 =>
      Idx t183 t185 1 fun t186 =>
      LdS S t186 Value.pointer fun t187 =>
      New G.tK #[(.pointer t187)] fun t188 =>
      Sv S <|
      G.insKC t179 0 (Sl.mk (some t188) 1 1) fun t189 =>
      St (kid4_1.add 1) (Sl.val t189) <|
      Ld (t124.add 1) Sl.val fun t196 =>
      Ar (IntKind.wrap .i64 (t128 + 1)) fun t198 =>
      Slc t196 0 t198 (t196.c : Int) 1 fun t199 =>
      St (t124.add 1) (Sl.val t199) <|
      Q)
      (Q))
    (Ar (IntKind.wrap .i64 (i1_1 + 1)) fun t204 =>
    Ld (n0_1.add 1) Sl.val fun t208 =>
    Ite (decide (t204 < (t208.n : Int)))
      (Ld (n0_1.add 1) Sl.val fun t215 =>
      Ar (IntKind.wrap .i64 (i1_1 + 1)) fun t217 =>
      Idx t215 t217 1 fun t218 =>
      Ld t218 Value.pointer fun t219 =>
      Nn t219 fun t220 =>
      Ld t220 Sl.val fun t222 =>
      nmend_s2 G Q n0_1 i1_1 kid4_1 (decide ((2 : Int) < (t222.n : Int))))
      (nmend_s2 G Q n0_1 i1_1 kid4_1 false))
def nmend (G : BtD κ) (n0 : (Option Addr)) (i1 : Int) (Q : K) : K :=
  Nn n0 fun t11 =>
  Ld (t11.add 1) Sl.val fun t13 =>
  Idx t13 i1 1 fun t15 =>
  Ld t15 Value.pointer fun t16 =>
  Nn t16 fun t92 =>
  Ld t92 Sl.val fun t94 =>
  Ite (decide ((2 : Int) ≤ (t94.n : Int)))
    (Q)
    (Ite (decide ((0 : Int) < i1))
      (Ld (t11.add 1) Sl.val fun t104 =>
      Ar (IntKind.wrap .i64 (i1 - 1)) fun t106 =>
      Idx t104 t106 1 fun t107 =>
      Ld t107 Value.pointer fun t108 =>
      Nn t108 fun t109 =>
      Ld t109 Sl.val fun t111 =>
      nmend_s1 G Q t11 i1 t92 (decide ((2 : Int) < (t111.n : Int))))
      (nmend_s1 G Q t11 i1 t92 false))
def nlast (G : BtD κ) (n0 : (Option Addr)) (Q : (Array Value) → K) : K :=
  New G.tI (G.kz :: G.vz).toArray fun t2 =>
  Nn n0 fun t7 =>
  Ld (t7.add 1) Sl.val fun t9 =>
  Ar (IntKind.wrap .i64 ((t9.n : Int) - 1)) fun t11 =>
  Ite (decide ((0 : Int) ≤ t11))
    (Ld (t7.add 1) Sl.val fun t17 =>
    Idx t17 t11 1 fun t19 =>
    Ld t19 Value.pointer fun t20 =>
    G.nlastC t20 fun t21 =>
    New G.tI (G.kz :: G.vz).toArray fun x4 =>
    StN x4 (G.nv + 1) t21 <|
    G.nmendC (some t7) t11 <|
    LdN x4 (G.nv + 1) fun t25 =>
    StN t2 (G.nv + 1) t25 <|
    LdN t2 (G.nv + 1) fun r0 =>
    Q r0)
    (Dr <| WithS fun S =>
    LdS S t7 Sl.val fun t29 =>
    LdS S t7 Sl.val fun t33 =>
    Ar (IntKind.wrap .i64 ((t33.n : Int) - 1)) fun t35 =>
    Idx t29 t35 (G.nv + 1) fun t36 =>
    LdNS S t36 (G.nv + 1) fun t37 =>
    New G.tI (G.kz :: G.vz).toArray fun x5 =>
    Sv S <|
    StN x5 (G.nv + 1) t37 <|
    Dr <|
    Ld t7 Sl.val fun t42 =>
    Ld t7 Sl.val fun t46 =>
    Ar (IntKind.wrap .i64 ((t46.n : Int) - 1)) fun t48 =>
    Slc t42 0 t48 (t42.c : Int) (G.nv + 1) fun t49 =>
    St t7 (Sl.val t49) <|
    LdN x5 (G.nv + 1) fun t52 =>
    StN t2 (G.nv + 1) t52 <|
    LdN t2 (G.nv + 1) fun r0 =>
    Q r0)
def ntake_s1 (G : BtD κ) (Q : (Array Value) → Bool → K)  (value4_1 : Addr) (ok5_1 : Bool) : K :=
  LdN value4_1 G.nv fun t94 =>
  StN value4_1 G.nv t94 <|
  LdN value4_1 G.nv fun r0 =>
  Q r0 ok5_1
def ntake_s2 (G : BtD κ) (Q : (Array Value) → Bool → K)  (n0_2 : (Option Addr)) (key1_2 : κ) (value4_2 : Addr) (i6_2 : Int) (found7_2 : Bool) (t14_2 : Bool) : K :=
  Ite t14_2
    (Nn n0_2 fun t25 =>
    Ld t25 Sl.val fun t27 =>
    Idx t27 i6_2 (G.nv + 1) fun t29 =>
    LdN (t29.add 1) G.nv fun t31 =>
    StN value4_2 G.nv t31 <|
    Ld t25 Sl.val fun t36 =>
    Ar (IntKind.wrap .i64 (i6_2 + 1)) fun t39 =>
    G.delIC t36 i6_2 t39 fun t40 =>
    St t25 (Sl.val t40) <|
    LdN value4_2 G.nv fun t43 =>
    StN value4_2 G.nv t43 <|
    LdN value4_2 G.nv fun r0 =>
    Q r0 true)
    (Ite found7_2
      (Nn n0_2 fun t47 =>
      Ld t47 Sl.val fun t49 =>
      Idx t49 i6_2 (G.nv + 1) fun t51 =>
      LdN (t51.add 1) G.nv fun t53 =>
      StN value4_2 G.nv t53 <|
      Dr <| WithS fun S =>
      LdS S t47 Sl.val fun t57 =>
      LdS S (t47.add 1) Sl.val fun t62 =>
      Idx t62 i6_2 1 fun t64 =>
      LdS S t64 Value.pointer fun t65 =>
      G.nlastC t65 fun t66 =>
      Sv S <|
      Idx t57 i6_2 (G.nv + 1) fun t67 =>
      StN t67 (G.nv + 1) t66 <|
      G.nmendC (some t47) i6_2 <|
      LdN value4_2 G.nv fun t71 =>
      StN value4_2 G.nv t71 <|
      LdN value4_2 G.nv fun r0 =>
      Q r0 true)
      (Nn n0_2 fun t74 =>
      Ld (t74.add 1) Sl.val fun t76 =>
      Ite (decide ((0 : Int) < (t76.n : Int)))
        (Ld (t74.add 1) Sl.val fun t83 =>
        Idx t83 i6_2 1 fun t85 =>
        Ld t85 Value.pointer fun t86 =>
        G.ntakeC t86 key1_2 fun t88x0 t88x1 =>
        StN value4_2 G.nv t88x0 <|
        G.nmendC (some t74) i6_2 <|
        ntake_s1 G Q value4_2 t88x1)
        (ntake_s1 G Q value4_2 false)))
def ntake (G : BtD κ) (n0 : (Option Addr)) (key1 : κ) (Q : (Array Value) → Bool → K) : K :=
  New G.tV G.vz.toArray fun value4 =>
  G.nsearchC n0 key1 fun t11x0 t11x1 =>
  Ite t11x1
    (Nn n0 fun t18 =>
    Ld (t18.add 1) Sl.val fun t20 =>
    ntake_s2 G Q (some t18) key1 value4 t11x0 true (decide ((t20.n : Int) = 0)))
    (ntake_s2 G Q n0 key1 value4 t11x0 false false)
def tdel_s2 (G : BtD κ) (Q : (Array Value) → Bool → K)  (value4_2 : Addr) (ok5_2 : Bool) : K :=
  LdN value4_2 G.nv fun t55 =>
  StN value4_2 G.nv t55 <|
  LdN value4_2 G.nv fun r0 =>
  Q r0 ok5_2
def tdel_s1 (G : BtD κ) (Q : (Array Value) → Bool → K)  (t0_1 : Addr) (value4_1 : Addr) (ok5_1 : Bool) : K :=
  Ite ok5_1
    (Ld (t0_1.add 1) (Value.int .i64) fun t51 =>
    Ar (IntKind.wrap .i64 (t51 - 1)) fun t52 =>
    St (t0_1.add 1) (.int .i64 t52) <|
    tdel_s2 G Q value4_1 ok5_1)
    (tdel_s2 G Q value4_1 ok5_1)
def tdel_s3 (G : BtD κ) (Q : (Array Value) → Bool → K)  (t0_3 : Addr) (value4_3 : Addr) (ok5_3 : Bool) (t34_3 : Bool) : K :=
  Ite t34_3
    (Ld t0_3 Value.pointer fun t39 =>
    Nn t39 fun t40 =>
    Ld (t40.add 1) Sl.val fun t42 =>
    Idx t42 0 1 fun t43 =>
    Ld t43 Value.pointer fun t44 =>
    St t0_3 (.pointer t44) <|
    tdel_s1 G Q t0_3 value4_3 ok5_3)
    (tdel_s1 G Q t0_3 value4_3 ok5_3)
def tdel (G : BtD κ) (t0 : (Option Addr)) (key1 : κ) (Q : (Array Value) → Bool → K) : K :=
  New G.tV G.vz.toArray fun value4 =>
  Nn t0 fun t8 =>
  Ld t8 Value.pointer fun t10 =>
  G.ntakeC t10 key1 fun t12x0 t12x1 =>
  StN value4 G.nv t12x0 <|
  Ld t8 Value.pointer fun t18 =>
  Nn t18 fun t19 =>
  Ld t19 Sl.val fun t21 =>
  Ite (decide ((t21.n : Int) = 0))
    (Ld t8 Value.pointer fun t28 =>
    Nn t28 fun t29 =>
    Ld (t29.add 1) Sl.val fun t31 =>
    tdel_s3 G Q t8 value4 t12x1 (decide ((t31.n : Int) = 1)))
    (tdel_s3 G Q t8 value4 t12x1 false)
end
/-- What is asked of Delete's functions. -/
structure BtDOk {κ : Type} (G : BtD κ) (c : κ → κ → Int) : Prop extends BtOk G.toBtT c where
  delI : ∃ Z, ∀ s i j Q w, delK G.P G.tSI Z (G.nv + 1) s i j Q w → G.delIC s i j Q w
  delK : ∃ Z, ∀ s i j Q w, delK G.P G.tSK Z 1 s i j Q w → G.delKC s i j Q w
  take : ∀ n k Q w, ntake G n k Q w → G.ntakeC n k Q w
  last : ∀ n Q w, nlast G n Q w → G.nlastC n Q w
  mend : ∀ n i Q w, nmend G n i Q w → G.nmendC n i Q w
end Bt
end Go.Sep
/- A B-tree: what mend does. Holds for every program. -/
namespace Go.Sep
open Go Go.RowKit
set_option linter.unusedSimpArgs false
set_option linter.unusedVariables false
namespace Bt
section
variable {κ : Type} {B : World} {Γ Γ0 Δ : List HProp}
/-- An element that is read in every state that bears this. -/
theorem s_ldElS {α : Type} {f : α → List Value} {esz E : Nat} {s : Sl} {L : List α} {i : Nat} {x : α} {k : Array Value → K} (hf : ∀ x, (f x).length = esz) (hx : L[i]? = some x) (h : HG B Γ (k (f x).toArray)) [o : OwnS s Γ0 (SlC E esz s (L.flatMap f)) Δ] : HG B Γ (LdNS (Holds B Γ0) (elA s i esz) esz k) := fun w hw => by
  refine ⟨(f x).toArray, by simp [hf], fun w' hw' => ?_, h w hw⟩
  obtain ⟨cs, hcs, hrd, hk⟩ := s_ldEl (s := s) (i := i) (k := fun cs _ => cs = (f x).toArray) (E := E) (Γ := Γ0) (B := B) hf hx (fun _ _ => rfl) w' hw'
  rw [← hk]; exact hrd
theorem s_ldES1 {α : Type} {c : α → Value} {E : Nat} {s : Sl} {L : List α} {i : Nat} {x : α} {k : α → K} (hx : L[i]? = some x) (h : HG B Γ (k x)) [o : OwnS s Γ0 (SlC E 1 s (L.map c)) Δ] : HG B Γ (LdS (Holds B Γ0) (elA s i 1) c k) := fun w hw => by
  refine ⟨x, fun w' hw' => ?_, h w hw⟩
  obtain ⟨h0, h1, h2, h3, h4⟩ := own_rd hw' (p := o)
  rw [← add0 (elA s i 1)]
  exact el_cell (vs := L.map c) (off := 0) h0 h3 (by simp [hx])
/-- An element is another one. -/
theorem s_stEl {α : Type} {f : α → List Value} {esz E : Nat} {s : Sl} {A C : List α} {x y : α} {k : K} (hf : ∀ x, (f x).length = esz) (hfl : (f y).all flatV = true) (h : HG B (SlC E esz s ((A ++ y :: C).flatMap f) :: Δ) k) [o : OwnS s Γ (SlC E esz s ((A ++ x :: C).flatMap f)) Δ] : HG B Γ (StN (elA s A.length esz) esz (f y).toArray k) := by
  rw [← add0 (elA s A.length esz)]
  refine s_stEN (s := s) (us := f y) ?_ (hf y) ?_ hfl
  · have e : layAt ((A ++ x :: C).flatMap f) (A.length * esz + 0) (f y) = (A ++ y :: C).flatMap f := by
      have e1 : (A ++ x :: C).flatMap f = A.flatMap f ++ (f x ++ C.flatMap f) := by simp
      have e2 : (A ++ y :: C).flatMap f = A.flatMap f ++ (f y ++ C.flatMap f) := by simp
      rw [e1, e2, layAt_mid (by simp [flatMap_len f esz hf]) (by rw [hf, hf])]
    rw [e]; exact h
  · have e1 : ((A ++ x :: C).flatMap f).length = (A.length + (C.length + 1)) * esz := by rw [flatMap_len f esz hf]; simp
    rw [e1, Nat.add_mul, Nat.add_mul]; omega
variable {G : BtT κ} {c : κ → κ → Int}
theorem wv_nil (its : List G.It) : wv its ([] : List (Kid G)) = its := by cases its <;> rfl
theorem wv_app {d : Nat} {i1 i2 : List G.It} {k1 k2 : List (Kid G)} {x : G.It} (h1 : Fit d i1 k1) (h2 : Fit d i2 k2) : wv (i1 ++ x :: i2) (k1 ++ k2) = wv i1 k1 ++ x :: wv i2 k2 := by
  cases d with
  | zero =>
    have e1 : k1 = [] := h1
    have e2 : k2 = [] := h2
    subst e1; subst e2
    simp only [List.append_nil, wv_nil]
  | succ d =>
    obtain ⟨q1, ps1, rfl, rfl⟩ := zip_ps h1
    obtain ⟨q2, ps2, rfl, rfl⟩ := zip_ps h2
    have e : wv (ps1.map Prod.fst ++ x :: ps2.map Prod.fst) (q1 :: ps1.map Prod.snd ++ q2 :: ps2.map Prod.snd) = psL q1 (ps1 ++ (x, q2) :: ps2) := by
      rw [← wv_ps]; simp
    rw [e, wv_ps, wv_ps]
    simp [psL]
theorem fit_app {d : Nat} {i1 i2 : List G.It} {k1 k2 : List (Kid G)} {x : G.It} (h1 : Fit d i1 k1) (h2 : Fit d i2 k2) : Fit d (i1 ++ x :: i2) (k1 ++ k2) := by
  cases d with
  | zero =>
    have e1 : k1 = [] := h1
    have e2 : k2 = [] := h2
    subst e1; subst e2; rfl
  | succ d =>
    simp only [Fit, List.length_append, List.length_cons] at h1 h2 ⊢
    omega
theorem fit_split {d : Nat} {i1 i2 : List G.It} {ks : List (Kid G)} {x : G.It} (h : Fit d (i1 ++ x :: i2) ks) : ∃ k1 k2, ks = k1 ++ k2 ∧ Fit d i1 k1 ∧ Fit d i2 k2 := by
  cases d with
  | zero => exact ⟨[], [], h, rfl, rfl⟩
  | succ d =>
    simp only [Fit, List.length_append, List.length_cons] at h
    exact ⟨ks.take (i1.length + 1), ks.drop (i1.length + 1), (List.take_append_drop _ _).symm, by simp [Fit]; omega, by simp [Fit]; omega⟩
theorem kids_join {d : Nat} {A C : List (Kid G)} : ∀ w, Holds B (kidsD G d A :: kidsD G d C :: Γ) w ↔ Holds B (kidsD G d (A ++ C) :: Γ) w := fun w => by
  cases d with
  | zero =>
    show Holds B (Sep.stars [] :: Sep.stars [] :: Γ) w ↔ Holds B (Sep.stars [] :: Γ) w
    exact Holds.flat (Δ := [])
  | succ d =>
    show Holds B (kidsR G d A :: kidsR G d C :: Γ) w ↔ Holds B (kidsR G d (A ++ C) :: Γ) w
    constructor
    · intro h
      have h1 := Holds.flat.1 h
      have h2 := Holds.flat.1 (h1.perm (List.perm_middle (a := kidsR G d C) (l₁ := A.map fun q => NodeR G d 2 q.1 q.2) (l₂ := Γ)))
      refine Holds.flat.2 (h2.perm ?_)
      rw [List.map_append, List.append_assoc]
      rw [← List.append_assoc, ← List.append_assoc]
      exact List.perm_append_comm.append_right Γ
    · intro h
      have := s_kids_split (k := fun w => Holds B (kidsR G d A :: kidsR G d C :: Γ) w) (fun w h => h) w h
      exact this
theorem s_join {d : Nat} {A C : List (Kid G)} {k : K} (h : HG B (kidsD G d (A ++ C) :: Γ) k) : HG B (kidsD G d A :: kidsD G d C :: Γ) k := fun w hw => h w ((kids_join w).1 hw)
theorem s_part {d : Nat} {A C : List (Kid G)} {k : K} (h : HG B (kidsD G d A :: kidsD G d C :: Γ) k) : HG B (kidsD G d (A ++ C) :: Γ) k := fun w hw => h w ((kids_join w).2 hw)
end
end Bt
end Go.Sep
/- A B-tree: a kid is filled up from its left, its right, or joined. Holds for every program. -/
namespace Go.Sep
open Go Go.RowKit
set_option linter.unusedSimpArgs false
set_option linter.unusedVariables false
namespace Bt
section
variable {κ : Type} {G : BtD κ} {c : κ → κ → Int} {B : World} {Γ Δ : List HProp}
theorem its_n {s : Sl} {its : List G.It} (h : (its.flatMap G.f).length = s.n * (G.nv + 1)) : s.n = its.length := by
  rw [flatMap_len G.f _ G.f_len] at h
  exact (Nat.eq_of_mul_eq_mul_right (by omega) h).symm
theorem kps_n {s : Sl} {kp : List (Option Addr)} (h : (kp.map Value.pointer).length = s.n * 1) : s.n = kp.length := by rw [kp_len] at h; omega
theorem flat_f (ok : BtOk G.toBtT c) (x : G.It) : (G.f x).all flatV = true := List.all_eq_true.2 (f_flat ok x)
theorem ins_first {its : List G.It} {x : G.It} : (its.flatMap G.f).take (0 * (G.nv + 1)) ++ G.f x ++ (its.flatMap G.f).drop (0 * (G.nv + 1)) = (x :: its).flatMap G.f := by simp
theorem ins_firstK {kp : List (Option Addr)} {x : Option Addr} : (kp.map Value.pointer).take (0 * 1) ++ [Value.pointer x] ++ (kp.map Value.pointer).drop (0 * 1) = (x :: kp).map Value.pointer := by simp
theorem s_shrinkI {s : Sl} {its : List G.It} {m : Nat} {k : K} (hm : m ≤ s.n) (hc : s.n ≤ s.c) (h : HG B (itsR G.toBtT ⟨s.a, m, s.c⟩ (its.take m) :: Δ) k) [p : OwnS s Γ (itsR G.toBtT s its) Δ] : HG B Γ k := by
  refine s_shrink (s := s) (m := m) (c' := s.c) hm (Nat.le_trans hm hc) (Nat.le_refl _) ?_
  rw [flatMap_take G.f_len]
  exact h
theorem s_shrinkK {s : Sl} {kp : List (Option Addr)} {m : Nat} {k : K} (hm : m ≤ s.n) (hc : s.n ≤ s.c) (h : HG B (kpsR G.toBtT ⟨s.a, m, s.c⟩ (kp.take m) :: Δ) k) [p : OwnS s Γ (kpsR G.toBtT s kp) Δ] : HG B Γ k := by
  refine s_shrink (s := s) (m := m) (c' := s.c) hm (Nat.le_trans hm hc) (Nat.le_refl _) ?_
  rw [show (kp.map Value.pointer).take (m * 1) = (kp.take m).map Value.pointer by simp]
  exact h
theorem s_turnL (ok : BtDOk G c) {d n : Nat} {s kd sp kp sq kq : Sl} {A C : List (Kid G.toBtT)} {p q : Kid G.toBtT} {IA IC ip iq : List G.It} {x y : G.It} {cp cq : List (Kid G.toBtT)} {i : Int} {Q : K}
    (hi : i = ((A.length + 1 : Nat) : Int)) (hA : IA.length = A.length) (hl : IA.length + IC.length ≤ 5) (hC : C.length = IC.length) (hp : 2 ≤ ip.length ∧ ip.length ≤ 5) (hq : iq.length ≤ 1) (hfp : Fit d (ip ++ [y]) cp) (hfq : Fit d iq cq)
    (h : ∀ P' Q', P' ++ y :: Q' = wv (ip ++ [y]) cp ++ x :: wv iq cq → ∀ s' kd', HG B (nodeB G.toBtT n s' kd' :: itsR G.toBtT s' (IA ++ y :: IC) :: kpsR G.toBtT kd' ((A ++ p :: q :: C).map ptr) :: NodeR G.toBtT d 2 p.1 P' :: NodeR G.toBtT d 2 q.1 Q' :: Γ) Q) :
    HG B (nodeB G.toBtT n s kd :: itsR G.toBtT s (IA ++ x :: IC) :: kpsR G.toBtT kd ((A ++ p :: q :: C).map ptr) :: rawL G.toBtT d p.1 sp kp (ip ++ [y]) cp (rawL G.toBtT d q.1 sq kq iq cq Γ)) (nmend_s1 G Q ⟨n, 0, none⟩ i ⟨q.1, 0, none⟩ true) := by
  subst hi
  have okT := ok.toBtOk
  obtain ⟨cp', kz, rfl, hf1, hfz⟩ := fit_split (i1 := ip) (i2 := []) hfp
  refine s_cap s fun a1 a2 a3 a4 => ?_
  refine s_cap kd fun b1 b2 b3 b4 => ?_
  refine s_cap sp fun c1 c2 c3 c4 => ?_
  refine s_cap kp fun d1 d2 d3 d4 => ?_
  refine s_cap sq fun e1 e2 e3 e4 => ?_
  refine s_cap kq fun f1 f2 f3 f4 => ?_
  have hsn := its_n a1
  have hkn := kps_n b1
  have hspn := its_n c1
  have hkpn := kps_n d1
  have hsqn := its_n e1
  have hkqn := kps_n f1
  simp only [List.length_append, List.length_cons, List.length_nil, List.length_map] at hsn hkn hspn hkpn hsqn hkqn
  unfold nmend_s1
  refine s_t ?_
  refine s_ld (b := n) (x := kd) ?_
  refine s_ai ?_
  refine s_idx (s := kd) (i := A.length) ?_
  refine s_ldE0 (s := kd) (x := ptr p) (by simp) ?_
  refine s_nn ?_
  refine s_ld (b := p.1) (x := sp) ?_
  refine s_ai ?_
  refine s_dr ?_
  refine s_ws ?_
  refine s_ai ?_
  refine s_ldS (b := q.1) (x := sq) ?_
  refine s_ldS (b := n) (x := s) ?_
  refine s_idx (s := s) (i := A.length) ?_
  refine s_ldElS (s := s) (x := x) G.f_len (by rw [← hA]; simp) ?_
  refine s_bld1 ?_ (by simp [okT.vz.1]) (G.f_len _)
  refine s_new fun t => ?_
  refine s_sv ?_
  obtain ⟨R, rot, hins⟩ := okT.insI
  refine fun w hw => hins _ _ _ _ _ ?_
  refine hg hw ?_
  clear hw w
  refine s_ins (s := sq) (i := 0) (t := t) (by omega) (by omega) (G.f_len _) (by omega) (fl_flat okT _) (f_flat okT _) (fun sq' hsq' => ?_) okT.TI okT.ZI
  rw [ins_first]
  refine s_st (b := q.1) ?_
  refine s_dr ?_
  refine s_ai ?_
  refine s_ld (b := n) (x := s) ?_
  refine s_ld (b := p.1) (x := sp) ?_
  refine s_idx (s := sp) (i := ip.length) ?_
  refine s_ldEl (s := sp) (x := y) G.f_len (by simp) ?_
  refine s_idx (s := s) (i := IA.length) ?_
  refine s_stEl (s := s) (A := IA) (x := x) (y := y) G.f_len (flat_f okT y) ?_
  refine s_ld (b := p.1) (x := sp) ?_
  refine s_slc (lo := 0) (hi := ip.length) (mx := sp.c) ?_
  rw [cut0 c3]
  refine s_st (b := p.1) ?_
  refine s_shrinkI (s := sp) (m := ip.length) (by omega) c2 ?_
  rw [List.take_left]
  refine s_ld (b := p.1) (x := kp) ?_
  have fin : ∀ sp2 kp2 sq2 kq2, HG B (rawL G.toBtT d p.1 sp2 kp2 ip cp' (rawL G.toBtT d q.1 sq2 kq2 (x :: iq) (kz ++ cq) (nodeB G.toBtT n s kd :: itsR G.toBtT s (IA ++ y :: IC) :: kpsR G.toBtT kd ((A ++ p :: q :: C).map ptr) :: Γ))) Q := fun sp2 kp2 sq2 kq2 => by
    refine s_unraw (m := 2) hf1 hp.2 (fun _ => .inr fun h => by rw [h] at hp; simp at hp) ?_
    refine s_end (Δ := rawL G.toBtT d q.1 sq2 kq2 (x :: iq) (kz ++ cq) (NodeR G.toBtT d 2 p.1 (wv ip cp') :: nodeB G.toBtT n s kd :: itsR G.toBtT s (IA ++ y :: IC) :: kpsR G.toBtT kd ((A ++ p :: q :: C).map ptr) :: Γ)) ?_
    refine s_unraw (m := 2) (fit_app (i1 := []) hfz hfq) (by simp; omega) (fun _ => .inr (by simp)) ?_
    refine s_end (h (wv ip cp') (wv (x :: iq) (kz ++ cq)) ?_ s kd)
    rw [wv_app hf1 hfz, show x :: iq = [] ++ x :: iq from rfl, wv_app hfz hfq]
    simp
  cases d with
  | zero =>
    have e1 : cp' = [] := hf1
    have e2 : kz = [] := hfz
    have e3 : cq = [] := hfq
    subst e1; subst e2; subst e3
    refine s_f ?_ (by simp at hkpn; simp [hkpn])
    simp only [List.append_nil] at fin ⊢
    exact s_end (fin ⟨sp.a, ip.length, sp.c⟩ kp sq' kq)
  | succ d =>
    obtain ⟨z, rfl⟩ : ∃ z, kz = [z] := List.length_eq_one_iff.1 hfz
    have hcl : cp'.length = ip.length + 1 := hf1
    have hcql : cq.length = iq.length + 1 := hfq
    simp only [List.length_cons, List.length_nil] at hkpn
    refine s_t ?_ (by simp; omega)
    refine s_dr ?_
    refine s_ws ?_
    refine s_ai ?_
    refine s_ldS (b := q.1) (x := kq) ?_
    refine s_ldS (b := p.1) (x := kp) ?_
    refine s_idx (s := kp) (i := ip.length + 1) ?_
    refine s_ldES1 (s := kp) (c := Value.pointer) (L := (cp' ++ [z]).map ptr) (x := ptr z) (by rw [← hcl]; simp) ?_
    refine s_new fun t2 => ?_
    refine s_sv ?_
    obtain ⟨R2, rot2, hins2⟩ := okT.insK
    refine fun w hw => hins2 _ _ _ _ _ ?_
    refine hg hw ?_
    clear hw w
    refine s_ins (s := kq) (i := 0) (t := t2) (us := [Value.pointer (ptr z)]) (by omega) (by omega) rfl (by omega) (kp_flat _) (by simp [flatV]) (fun kq' hkq' => ?_) okT.TK okT.ZK
    rw [ins_firstK, show ptr z :: cq.map ptr = ([z] ++ cq).map ptr from rfl]
    refine s_st (b := q.1) ?_
    refine s_ld (b := p.1) (x := kp) ?_
    refine s_ai ?_
    refine s_slc (lo := 0) (hi := ip.length + 1) (mx := kp.c) ?_
    rw [cut0 d3]
    refine s_st (b := p.1) ?_
    refine s_shrinkK (s := kp) (m := ip.length + 1) (by omega) d2 ?_
    rw [show ((cp' ++ [z]).map ptr).take (ip.length + 1) = cp'.map ptr by rw [List.map_append]; exact List.take_left' (by simp [hcl])]
    refine s_pick (kidsD G.toBtT (d + 1) (cp' ++ [z])) ?_
    refine s_part ?_
    refine s_end (Δ := kidsD G.toBtT (d + 1) [z] :: kidsD G.toBtT (d + 1) cq :: kidsD G.toBtT (d + 1) cp' :: nodeB G.toBtT p.1 ⟨sp.a, ip.length, sp.c⟩ ⟨kp.a, ip.length + 1, kp.c⟩ :: itsR G.toBtT ⟨sp.a, ip.length, sp.c⟩ ip :: kpsR G.toBtT ⟨kp.a, ip.length + 1, kp.c⟩ (cp'.map ptr) :: nodeB G.toBtT q.1 sq' kq' :: itsR G.toBtT sq' (x :: iq) :: kpsR G.toBtT kq' (([z] ++ cq).map ptr) :: nodeB G.toBtT n s kd :: itsR G.toBtT s (IA ++ y :: IC) :: kpsR G.toBtT kd ((A ++ p :: q :: C).map ptr) :: Γ) ?_
    refine s_join ?_
    exact s_end (fin ⟨sp.a, ip.length, sp.c⟩ ⟨kp.a, ip.length + 1, kp.c⟩ sq' kq')
end
end Bt
end Go.Sep
/- A B-tree: a kid is filled up from its right, or joined. Holds for every program. -/
namespace Go.Sep
open Go Go.RowKit
set_option linter.unusedSimpArgs false
set_option linter.unusedVariables false
namespace Bt
section
variable {κ : Type} {G : BtD κ} {c : κ → κ → Int} {B : World} {Γ Δ : List HProp}
theorem kp_at {L : List (Kid G.toBtT)} {i : Nat} {q : Kid G.toBtT} (h : L[i]? = some q) : ((L.map ptr).map Value.pointer)[i * 1]? = some (Value.pointer (ptr q)) := by simp [h]
theorem at_mid2 {α : Type} {A C : List α} {x y : α} : (A ++ x :: y :: C)[A.length + 1]? = some y := by
  rw [List.getElem?_append_right (by omega), show A.length + 1 - A.length = 1 by omega]; rfl
theorem del_first {x : G.It} {its : List G.It} : ((x :: its).flatMap G.f).take (0 * (G.nv + 1)) ++ ((x :: its).flatMap G.f).drop (1 * (G.nv + 1)) = its.flatMap G.f := by
  rw [flatMap_drop G.f_len]; simp
theorem del_firstK {p : Kid G.toBtT} {kp : List (Kid G.toBtT)} : (((p :: kp).map ptr).map Value.pointer).take (0 * 1) ++ (((p :: kp).map ptr).map Value.pointer).drop (1 * 1) = (kp.map ptr).map Value.pointer := by simp
theorem del_mid {A C : List G.It} {x : G.It} : ((A ++ x :: C).flatMap G.f).take (A.length * (G.nv + 1)) ++ ((A ++ x :: C).flatMap G.f).drop ((A.length + 1) * (G.nv + 1)) = (A ++ C).flatMap G.f := by
  rw [flatMap_take G.f_len, flatMap_drop G.f_len, List.take_left, show A ++ x :: C = (A ++ [x]) ++ C by simp, List.drop_left' (by simp)]; simp
theorem del_midK {A C : List (Kid G.toBtT)} {p q : Kid G.toBtT} : (((A ++ p :: q :: C).map ptr).map Value.pointer).take ((A.length + 1) * 1) ++ (((A ++ p :: q :: C).map ptr).map Value.pointer).drop ((A.length + 2) * 1) = ((A ++ p :: C).map ptr).map Value.pointer := by
  rw [Nat.mul_one, Nat.mul_one, ← List.map_take, ← List.map_take, ← List.map_drop, ← List.map_drop]
  rw [show A ++ p :: q :: C = (A ++ [p]) ++ q :: C by simp, List.take_left' (by simp), show (A ++ [p]) ++ q :: C = (A ++ [p, q]) ++ C by simp, List.drop_left' (by simp)]
  simp

theorem s_turnR (ok : BtDOk G c) {d n : Nat} {s kd sr kr sq kq : Sl} {A C : List (Kid G.toBtT)} {q r : Kid G.toBtT} {IA IC ir iq : List G.It} {x y : G.It} {cr cq : List (Kid G.toBtT)} {i : Int} {Q : K}
    (hi : i = (A.length : Int)) (hA : IA.length = A.length) (hl : IA.length + IC.length ≤ 5) (hC : C.length = IC.length) (hr : 1 ≤ ir.length ∧ ir.length ≤ 5) (hq : iq.length ≤ 1) (hfr : Fit d (y :: ir) cr) (hfq : Fit d iq cq)
    (h : ∀ Q' R', Q' ++ y :: R' = wv iq cq ++ x :: wv (y :: ir) cr → ∀ s' kd', HG B (nodeB G.toBtT n s' kd' :: itsR G.toBtT s' (IA ++ y :: IC) :: kpsR G.toBtT kd' ((A ++ q :: r :: C).map ptr) :: NodeR G.toBtT d 2 q.1 Q' :: NodeR G.toBtT d 2 r.1 R' :: Γ) Q) :
    HG B (nodeB G.toBtT n s kd :: itsR G.toBtT s (IA ++ x :: IC) :: kpsR G.toBtT kd ((A ++ q :: r :: C).map ptr) :: rawL G.toBtT d q.1 sq kq iq cq (rawL G.toBtT d r.1 sr kr (y :: ir) cr Γ)) (nmend_s2 G Q ⟨n, 0, none⟩ i ⟨q.1, 0, none⟩ true) := by
  subst hi
  have okT := ok.toBtOk
  obtain ⟨cz, cr', rfl, hfz, hf2⟩ := fit_split (i1 := []) (x := y) (i2 := ir) hfr
  refine s_cap s fun a1 a2 a3 a4 => ?_
  refine s_cap kd fun b1 b2 b3 b4 => ?_
  refine s_cap sr fun c1 c2 c3 c4 => ?_
  refine s_cap kr fun d1 d2 d3 d4 => ?_
  refine s_cap sq fun e1 e2 e3 e4 => ?_
  refine s_cap kq fun f1 f2 f3 f4 => ?_
  have hsn := its_n a1
  have hkn := kps_n b1
  have hsrn := its_n c1
  have hkrn := kps_n d1
  have hsqn := its_n e1
  have hkqn := kps_n f1
  simp only [List.length_append, List.length_cons, List.length_nil, List.length_map] at hsn hkn hsrn hkrn hsqn hkqn
  unfold nmend_s2
  repeat first | refine s_nx ?_ | refine s_ai ?_
  refine s_idx (s := kd) (i := A.length + 1) ?_
  refine s_ldE0 (s := kd) (x := ptr r) (kp_at at_mid2) ?_
  repeat first | refine s_nx ?_ | refine s_ai ?_
  refine s_idx (s := s) (i := A.length) ?_
  refine s_ldElS (s := s) (x := x) G.f_len (by rw [← hA]; simp) ?_
  refine s_bld1 ?_ (by simp [okT.vz.1]) (G.f_len _)
  refine s_new fun t => ?_
  repeat refine s_nx ?_
  refine s_append (s := sq) (us := G.f x) (blk_rd (G.f_len x)) (f_flat okT x) (by simp only; omega) (hT := okT.TI) fun sq' hsq' => ?_
  rw [show iq.flatMap G.f ++ G.f x = (iq ++ [x]).flatMap G.f by simp]
  repeat refine s_nx ?_
  refine s_nn ?_
  repeat refine s_nx ?_
  refine s_idx (s := sr) (i := 0) ?_
  refine s_ldEl (s := sr) (x := y) G.f_len rfl ?_
  refine s_idx (s := s) (i := IA.length) ?_
  refine s_stEl (s := s) (A := IA) (x := x) (y := y) G.f_len (flat_f okT y) ?_
  repeat refine s_nx ?_
  obtain ⟨Z, hdel⟩ := ok.delI
  refine fun w hw => hdel _ _ _ _ _ ?_
  refine hg hw ?_
  clear hw w
  refine s_del (s := sr) (i := 0) (j := 1) (by omega) (by omega) (by omega) (fl_flat okT _) (fun sr' hsr' => ?_) okT.TI
  rw [del_first]
  repeat refine s_nx ?_
  have fin : ∀ sr2 kr2 sq2 kq2, HG B (rawL G.toBtT d q.1 sq2 kq2 (iq ++ [x]) (cq ++ cz) (rawL G.toBtT d r.1 sr2 kr2 ir cr' (nodeB G.toBtT n s kd :: itsR G.toBtT s (IA ++ y :: IC) :: kpsR G.toBtT kd ((A ++ q :: r :: C).map ptr) :: Γ))) Q := fun sr2 kr2 sq2 kq2 => by
    refine s_unraw (m := 2) (fit_app (i2 := []) hfq hfz) (by simp; omega) (fun _ => .inr (by simp)) ?_
    refine s_pick (kidsD G.toBtT d cr') ?_
    refine s_ownS kr2 ?_
    refine s_ownS sr2 ?_
    refine s_own r.1 ?_
    refine s_unraw (m := 2) hf2 hr.2 (fun _ => .inr fun h => by rw [h] at hr; simp at hr) ?_
    refine s_end (h (wv (iq ++ [x]) (cq ++ cz)) (wv ir cr') ?_ s kd)
    rw [wv_app (i2 := []) hfq hfz, show y :: ir = [] ++ y :: ir from rfl, wv_app hfz hf2]
    simp
  cases d with
  | zero =>
    have e1 : cr' = [] := hf2
    have e2 : cz = [] := hfz
    have e3 : cq = [] := hfq
    subst e1; subst e2; subst e3
    refine s_f ?_ (by simp at hkrn; simp [hkrn])
    simp only [List.append_nil] at fin ⊢
    exact s_end (fin sr' kr sq' kq)
  | succ d =>
    obtain ⟨z, rfl⟩ : ∃ z, cz = [z] := List.length_eq_one_iff.1 hfz
    have hcl : cr'.length = ir.length + 1 := hf2
    have hcql : cq.length = iq.length + 1 := hfq
    simp only [List.length_cons, List.length_nil] at hkrn
    refine s_t ?_ (by simp; omega)
    repeat refine s_nx ?_
    refine s_idx (s := kr) (i := 0) ?_
    refine s_ldES1 (s := kr) (c := Value.pointer) (L := ([z] ++ cr').map ptr) (x := ptr z) (by simp) ?_
    refine s_new fun t2 => ?_
    repeat refine s_nx ?_
    refine s_append (s := kq) (us := [Value.pointer (ptr z)]) (blk_rd rfl) (by simp [flatV]) (by simp only; omega) (hT := okT.TK) fun kq' hkq' => ?_
    rw [show (cq.map ptr).map Value.pointer ++ [Value.pointer (ptr z)] = ((cq ++ [z]).map ptr).map Value.pointer by simp]
    repeat refine s_nx ?_
    obtain ⟨Z2, hdel2⟩ := ok.delK
    refine fun w hw => hdel2 _ _ _ _ _ ?_
    refine hg hw ?_
    clear hw w
    refine s_del (s := kr) (i := 0) (j := 1) (by omega) (by omega) (by omega) (kp_flat _) (fun kr' hkr' => ?_) okT.TK
    rw [show (([z] ++ cr').map ptr) = ((z :: cr').map ptr) from rfl, del_firstK]
    repeat refine s_nx ?_
    refine s_pick (kidsD G.toBtT (d + 1) ([z] ++ cr')) ?_
    refine s_part ?_
    refine s_pick (kidsD G.toBtT (d + 1) [z]) ?_
    refine s_pick (kidsD G.toBtT (d + 1) cq) ?_
    refine s_join ?_
    exact s_end (fin sr' kr' sq' kq')

theorem s_merge (ok : BtDOk G c) {d n : Nat} {s kd sp kp sq kq : Sl} {A C : List (Kid G.toBtT)} {p q : Kid G.toBtT} {IA IC ip iq : List G.It} {x : G.It} {cp cq : List (Kid G.toBtT)} {i : Int} {k4 : Addr} {Q : K}
    (hi : (if (1 : Int) > i then 1 else i) = ((A.length + 1 : Nat) : Int)) (hA : IA.length = A.length) (hl : IA.length + IC.length ≤ 5) (hC : C.length = IC.length) (hp : ip.length + iq.length ≤ 4) (hfp : Fit d ip cp) (hfq : Fit d iq cq)
    (h : ∀ s' kd', HG B (nodeB G.toBtT n s' kd' :: itsR G.toBtT s' (IA ++ IC) :: kpsR G.toBtT kd' ((A ++ p :: C).map ptr) :: NodeR G.toBtT d 2 p.1 (wv ip cp ++ x :: wv iq cq) :: Γ) Q) :
    HG B (nodeB G.toBtT n s kd :: itsR G.toBtT s (IA ++ x :: IC) :: kpsR G.toBtT kd ((A ++ p :: q :: C).map ptr) :: rawL G.toBtT d p.1 sp kp ip cp (rawL G.toBtT d q.1 sq kq iq cq Γ)) (nmend_s2 G Q ⟨n, 0, none⟩ i k4 false) := by
  have okT := ok.toBtOk
  refine s_cap s fun a1 a2 a3 a4 => ?_
  refine s_cap kd fun b1 b2 b3 b4 => ?_
  refine s_cap sp fun c1 c2 c3 c4 => ?_
  refine s_cap kp fun d1 d2 d3 d4 => ?_
  refine s_cap sq fun e1 e2 e3 e4 => ?_
  refine s_cap kq fun f1 f2 f3 f4 => ?_
  have hsn := its_n a1
  have hkn := kps_n b1
  have hspn := its_n c1
  have hkpn := kps_n d1
  have hsqn := its_n e1
  have hkqn := kps_n f1
  simp only [List.length_append, List.length_cons, List.length_nil, List.length_map] at hsn hkn hspn hkpn hsqn hkqn
  have hks : cp.length ≤ 6 ∧ cq.length ≤ 6 := by
    cases d with
    | zero =>
      have e1 : cp = [] := hfp
      have e2 : cq = [] := hfq
      subst e1; subst e2; exact ⟨by simp, by simp⟩
    | succ d =>
      have e1 : cp.length = ip.length + 1 := hfp
      have e2 : cq.length = iq.length + 1 := hfq
      omega
  unfold nmend_s2
  repeat refine s_nx ?_
  refine s_ar hi ?_
  repeat first | refine s_nx ?_ | refine s_ai ?_
  refine s_idx (s := kd) (i := A.length) ?_
  refine s_ldE0 (s := kd) (x := ptr p) (kp_at at_mid) ?_
  repeat refine s_nx ?_
  refine s_idx (s := kd) (i := A.length + 1) ?_
  refine s_ldE0 (s := kd) (x := ptr q) (kp_at at_mid2) ?_
  refine s_dr ?_
  refine s_wsD [nodeB G.toBtT n s kd, itsR G.toBtT s (IA ++ x :: IC), nodeB G.toBtT p.1 sp kp, nodeB G.toBtT q.1 sq kq] ?_
  refine s_nn ?_
  refine s_ai ?_
  refine s_nn ?_
  repeat refine s_nx ?_
  refine s_idx (s := s) (i := A.length) ?_
  refine s_ldElS (s := s) (x := x) G.f_len (by rw [← hA]; simp) ?_
  repeat refine s_nx ?_
  refine s_bld1 ?_ (by simp [okT.vz.1]) (G.f_len _)
  refine s_new fun t => ?_
  repeat refine s_nx ?_
  refine s_append (s := sp) (us := G.f x) (blk_rd (G.f_len x)) (f_flat okT x) (by simp only; omega) (hT := okT.TI) fun sp1 hsp1 => ?_
  rw [show ip.flatMap G.f ++ G.f x = (ip ++ [x]).flatMap G.f by simp]
  repeat refine s_nx ?_
  refine s_append (s := sp1) (us := iq.flatMap G.f) (fun w hw => (own_rd (s := sq) hw).1) (fl_flat okT _) (by simp only at hsp1 ⊢; omega) (hT := okT.TI) fun sp2 hsp2 => ?_
  rw [show (ip ++ [x]).flatMap G.f ++ iq.flatMap G.f = (ip ++ x :: iq).flatMap G.f by simp]
  repeat refine s_nx ?_
  refine s_append (s := kp) (us := (cq.map ptr).map Value.pointer) (fun w hw => (own_rd (s := kq) hw).1) (kp_flat _) (by omega) (hT := okT.TK) fun kp' hkp' => ?_
  rw [← List.map_append, ← List.map_append]
  repeat first | refine s_nx ?_ | refine s_ai ?_
  obtain ⟨Z, hdel⟩ := ok.delI
  refine fun w hw => hdel _ _ _ _ _ ?_
  refine hg hw ?_
  clear hw w
  rw [show ((A.length + 1 : Nat) : Int) - 1 = ((A.length : Nat) : Int) by omega]
  refine s_del (s := s) (i := A.length) (j := A.length + 1) (by omega) (by omega) (by omega) (fl_flat okT _) (fun s' hs' => ?_) okT.TI
  rw [← hA, del_mid, hA]
  repeat first | refine s_nx ?_ | refine s_ai ?_
  obtain ⟨Z2, hdel2⟩ := ok.delK
  refine fun w hw => hdel2 _ _ _ _ _ ?_
  refine hg hw ?_
  clear hw w
  rw [show ((A.length + 1 : Nat) : Int) + 1 = ((A.length + 2 : Nat) : Int) by omega]
  refine s_del (s := kd) (i := A.length + 1) (j := A.length + 2) (by omega) (by omega) (by omega) (kp_flat _) (fun kd' hkd' => ?_) okT.TK
  rw [del_midK]
  repeat refine s_nx ?_
  refine s_pick (kidsD G.toBtT d cq) ?_
  refine s_pick (kidsD G.toBtT d cp) ?_
  refine s_join ?_
  refine s_pick (kidsD G.toBtT d (cp ++ cq)) ?_
  refine s_ownS kp' ?_
  refine s_ownS sp2 ?_
  refine s_own p.1 ?_
  refine s_unraw (m := 2) (fit_app hfp hfq) (by simp; omega) (fun _ => .inr (by simp)) ?_
  rw [wv_app hfp hfq]
  exact s_end (h s' kd')
end
end Bt
end Go.Sep
/- A B-tree: mend. Holds for every program. -/
namespace Go.Sep
open Go Go.RowKit
set_option linter.unusedSimpArgs false
set_option linter.unusedVariables false
namespace Bt
section
variable {κ : Type} {G : BtD κ} {c : κ → κ → Int} {B : World} {Γ Δ : List HProp}
theorem wv_two : ∀ {IA IC : List G.It} {A C : List (Kid G.toBtT)}, IA.length = A.length → C.length = IC.length → ∃ U V : List G.It, (∀ p : Kid G.toBtT, wv (IA ++ IC) (A ++ p :: C) = U ++ p.2 ++ V) ∧ ∀ (p : Kid G.toBtT) (x : G.It) (q : Kid G.toBtT), wv (IA ++ x :: IC) (A ++ p :: q :: C) = U ++ p.2 ++ x :: (q.2 ++ V)
  | [], [], [], C, _, hC => ⟨[], [], fun p => by simp [wv], fun p x q => by simp [wv]⟩
  | [], z :: IC, [], C, _, hC => ⟨[], z :: wv IC C, fun p => by simp [wv], fun p x q => by simp [wv]⟩
  | a :: IA, IC, r :: A, C, hA, hC => by
    obtain ⟨U, V, h1, h2⟩ := wv_two (IA := IA) (IC := IC) (A := A) (C := C) (by simpa using hA) hC
    exact ⟨r.2 ++ a :: U, V, fun p => by simp [wv, h1], fun p x q => by simp [wv, h2]⟩
  | [], _, _ :: _, _, hA, _ => by simp at hA
  | _ :: _, _, [], _, hA, _ => by simp at hA
theorem split_at {α : Type} {L : List α} {a c : Nat} (h : L.length = a + 1 + c) : ∃ A x C, L = A ++ x :: C ∧ A.length = a ∧ C.length = c :=
  ⟨L.take a, L[a], L.drop (a + 1), by rw [← List.drop_eq_getElem_cons, List.take_append_drop], by simp; omega, by simp; omega⟩
theorem s_asm1 {d n : Nat} {s kd : Sl} {its : List G.It} {ks : List (Kid G.toBtT)} {k : K} (hf : ks.length = its.length + 1) (hl : its.length ≤ 5) (h : HG B (NodeR G.toBtT (d + 1) 0 n (wv its ks) :: Γ) k) :
    HG B (nodeB G.toBtT n s kd :: itsR G.toBtT s its :: kpsR G.toBtT kd (ks.map ptr) :: kidsR G.toBtT d ks :: Γ) k := s_unraw (d := d + 1) (m := 0) hf hl (fun h => by omega) h
theorem s_asmK {d n : Nat} {s kd : Sl} {its : List G.It} {A C : List (Kid G.toBtT)} {p : Kid G.toBtT} {P' : List G.It} {k : K} (hf : (A ++ p :: C).length = its.length + 1) (hl : its.length ≤ 5) (h : HG B (NodeR G.toBtT (d + 1) 0 n (wv its (A ++ (p.1, P') :: C)) :: Γ) k) :
    HG B (nodeB G.toBtT n s kd :: itsR G.toBtT s its :: kpsR G.toBtT kd ((A ++ p :: C).map ptr) :: NodeR G.toBtT d 2 p.1 P' :: kidsR G.toBtT d (A ++ C) :: Γ) k := by
  rw [show (A ++ p :: C).map ptr = (A ++ (p.1, P') :: C).map ptr by simp [ptr]]
  refine s_pick (kidsR G.toBtT d (A ++ C)) ?_
  refine s_pick (NodeR G.toBtT d 2 p.1 P') ?_
  refine s_unkid (q := (p.1, P')) ?_
  refine s_pick (kidsR G.toBtT d (A ++ (p.1, P') :: C)) ?_
  refine s_ownS kd ?_
  refine s_ownS s ?_
  refine s_own n ?_
  exact s_asm1 (by simpa using hf) hl h
theorem s_asm2 {d n : Nat} {s kd : Sl} {its : List G.It} {A C : List (Kid G.toBtT)} {p q : Kid G.toBtT} {P' Q' : List G.It} {k : K} (hf : (A ++ p :: q :: C).length = its.length + 1) (hl : its.length ≤ 5) (h : HG B (NodeR G.toBtT (d + 1) 0 n (wv its (A ++ (p.1, P') :: (q.1, Q') :: C)) :: Γ) k) :
    HG B (nodeB G.toBtT n s kd :: itsR G.toBtT s its :: kpsR G.toBtT kd ((A ++ p :: q :: C).map ptr) :: NodeR G.toBtT d 2 p.1 P' :: NodeR G.toBtT d 2 q.1 Q' :: kidsR G.toBtT d (A ++ C) :: Γ) k := by
  rw [show (A ++ p :: q :: C).map ptr = (A ++ p :: (q.1, Q') :: C).map ptr by simp [ptr]]
  refine s_pick (kidsR G.toBtT d (A ++ C)) ?_
  refine s_pick (NodeR G.toBtT d 2 q.1 Q') ?_
  refine s_unkid (q := (q.1, Q')) ?_
  refine s_pick (kidsR G.toBtT d (A ++ (q.1, Q') :: C)) ?_
  refine s_pick (NodeR G.toBtT d 2 p.1 P') ?_
  refine s_ownS kd ?_
  refine s_ownS s ?_
  refine s_own n ?_
  exact s_asmK (by simpa using hf) hl h

theorem mend_spec (ok : BtDOk G c) {d n : Nat} {s kd : Sl} {its : List G.It} {A C : List (Kid G.toBtT)} {q : Kid G.toBtT} {Q : K} (hl : its.length ≤ 5) (hne : its ≠ []) (hf : (A ++ q :: C).length = its.length + 1)
    (h : HG B (NodeR G.toBtT (d + 1) 0 n (wv its (A ++ q :: C)) :: Γ) Q) :
    HG B (nodeB G.toBtT n s kd :: itsR G.toBtT s its :: kpsR G.toBtT kd ((A ++ q :: C).map ptr) :: NodeR G.toBtT d 0 q.1 q.2 :: kidsR G.toBtT d (A ++ C) :: Γ) (G.nmendC (some ⟨n, 0, none⟩) (A.length : Int) Q) := by
  refine fun w hw => ok.mend _ _ _ _ ?_
  refine hg hw ?_
  clear hw w
  have okT := ok.toBtOk
  have hnl : 1 ≤ its.length := List.length_pos_iff.2 hne
  refine s_cap s fun a1 a2 a3 a4 => ?_
  refine s_cap kd fun b1 b2 b3 b4 => ?_
  have hsn := its_n a1
  have hkn := kps_n b1
  have hf' : A.length + (C.length + 1) = its.length + 1 := by simpa using hf
  simp only [List.length_append, List.length_cons, List.length_map] at hkn
  unfold nmend
  repeat refine s_nx ?_
  refine s_idx (s := kd) (i := A.length) ?_
  refine s_ldE0 (s := kd) (x := ptr q) (kp_at at_mid) ?_
  refine s_nn ?_
  refine s_own q.1 ?_
  refine s_raw fun sq kq iq cq hfq hlq _ hqL => ?_
  refine s_cap sq fun e1 e2 e3 e4 => ?_
  have hsqn := its_n e1
  repeat refine s_nx ?_
  refine s_ite (fun hb => ?_) fun hb => ?_
  · have hb' : 2 ≤ iq.length := by simp only [decide_eq_true_eq] at hb; omega
    refine s_unraw (m := 2) hfq hlq (fun _ => .inr fun h => by rw [h] at hb'; simp at hb') ?_
    rw [← hqL]
    refine s_pick (kidsR G.toBtT d (A ++ C)) ?_
    refine s_pick (NodeR G.toBtT d 2 q.1 q.2) ?_
    refine s_ownS kd ?_
    refine s_ownS s ?_
    refine s_own n ?_
    exact s_asmK hf hl h
  have hq1 : iq.length ≤ 1 := by simp only [decide_eq_false_iff_not] at hb; omega
  rcases List.eq_nil_or_concat A with rfl | ⟨A, p, rfl⟩
  · -- no kid on the left
    obtain ⟨r, C, rfl⟩ : ∃ r C', C = r :: C' := by
      cases C with
      | nil => simp only [List.length_nil] at hf'; omega
      | cons r C => exact ⟨r, C, rfl⟩
    simp only [List.length_cons, List.length_nil, List.nil_append] at hf' hkn hf h ⊢
    obtain ⟨IA, x, IC, rfl, hIA, hIC⟩ := split_at (L := its) (a := 0) (c := C.length) (by omega)
    obtain rfl : IA = [] := List.length_eq_zero_iff.1 hIA
    obtain ⟨U, V, hU1, hU2⟩ := wv_two (IA := []) (IC := IC) (A := []) (C := C) rfl hIC.symm
    simp only [List.nil_append] at hU1 hU2 hl hf' h ⊢
    rw [hU2] at h
    simp only [List.length_cons] at hl hf'
    refine s_f ?_
    unfold nmend_s1
    repeat first | refine s_nx ?_ | refine s_ai ?_
    refine s_t ?_ (by simp; omega)
    repeat first | refine s_nx ?_ | refine s_ai ?_
    refine s_idx (s := kd) (i := 1) ?_
    refine s_ldE0 (s := kd) (x := ptr r) (kp_at (at_mid2 (A := []))) ?_
    refine s_nn ?_
    refine s_pick (kidsR G.toBtT d (r :: C)) ?_
    refine s_kid (A := []) ?_
    refine s_raw fun sr kr ir cr hfr hlr hrne hrL => ?_
    refine s_cap sr fun c1 c2 c3 c4 => ?_
    have hsrn := its_n c1
    repeat refine s_nx ?_
    by_cases hb3 : 2 < ir.length
    · rw [show decide ((2 : Int) < (sr.n : Int)) = true by simp; omega]
      obtain ⟨y, ir, rfl⟩ : ∃ y ir', ir = y :: ir' := by
        cases ir with
        | nil => simp at hb3
        | cons y ir => exact ⟨y, ir, rfl⟩
      simp only [List.length_cons] at hb3 hlr
      refine s_pick (kidsD G.toBtT d cr) ?_
      refine s_ownS kr ?_
      refine s_ownS sr ?_
      refine s_own r.1 ?_
      refine s_pick (kidsD G.toBtT d cq) ?_
      refine s_ownS kq ?_
      refine s_ownS sq ?_
      refine s_own q.1 ?_
      refine s_ownS kd ?_
      refine s_ownS s ?_
      refine s_own n ?_
      refine s_turnR ok (A := []) (IA := []) rfl rfl (by simp only [List.length_nil]; omega) hIC.symm (by omega) hq1 hfr hfq fun Q' R' e s' kd' => ?_
      refine s_pick (kidsR G.toBtT d ([] ++ C)) ?_
      refine s_pick (NodeR G.toBtT d 2 r.1 R') ?_
      refine s_pick (NodeR G.toBtT d 2 q.1 Q') ?_
      refine s_ownS kd' ?_
      refine s_ownS s' ?_
      refine s_own n ?_
      refine s_asm2 (A := []) (by simp; omega) (by simp; omega) ?_
      simp only [List.nil_append]
      rw [hU2, show U ++ (q.1, Q').2 ++ y :: ((r.1, R').2 ++ V) = U ++ (Q' ++ y :: R') ++ V by simp, e, ← hqL, ← hrL]
      simpa using h
    · rw [show decide ((2 : Int) < (sr.n : Int)) = false by simp; omega]
      refine s_pick (kidsD G.toBtT d cr) ?_
      refine s_ownS kr ?_
      refine s_ownS sr ?_
      refine s_own r.1 ?_
      refine s_pick (kidsD G.toBtT d cq) ?_
      refine s_ownS kq ?_
      refine s_ownS sq ?_
      refine s_own q.1 ?_
      refine s_ownS kd ?_
      refine s_ownS s ?_
      refine s_own n ?_
      refine s_merge ok (A := []) (IA := []) (by simp) rfl (by simp only [List.length_nil]; omega) hIC.symm (by omega) hfq hfr fun s' kd' => ?_
      refine s_pick (kidsR G.toBtT d ([] ++ C)) ?_
      refine s_pick (NodeR G.toBtT d 2 q.1 (wv iq cq ++ x :: wv ir cr)) ?_
      refine s_ownS kd' ?_
      refine s_ownS s' ?_
      refine s_own n ?_
      refine s_asmK (A := []) (by simp; omega) (by simp; omega) ?_
      simp only [List.nil_append]
      have h2 := hU1 (q.1, wv iq cq ++ x :: wv ir cr)
      rw [h2, ← hqL, ← hrL]
      simpa using h
  · -- a kid on the left
    simp only [List.concat_eq_append, List.append_assoc, List.singleton_append] at hf' hkn hf h ⊢
    have hAl : (A ++ [p]).length = A.length + 1 := by simp
    rw [hAl] at hf' hkn ⊢
    obtain ⟨IA, x, IC, rfl, hIA, hIC⟩ := split_at (L := its) (a := A.length) (c := C.length) (by omega)
    obtain ⟨U, V, hU1, hU2⟩ := wv_two (IA := IA) (IC := IC) (A := A) (C := C) hIA hIC.symm
    have hil : (IA ++ x :: IC).length = IA.length + (IC.length + 1) := by simp
    rw [hU2] at h
    rw [hil] at hl
    refine s_t ?_
    repeat first | refine s_nx ?_ | refine s_ai ?_
    refine s_idx (s := kd) (i := A.length) ?_
    refine s_ldE0 (s := kd) (x := ptr p) (kp_at at_mid) ?_
    refine s_nn ?_
    refine s_pick (kidsR G.toBtT d (A ++ p :: C)) ?_
    refine s_kid ?_
    refine s_raw fun sp kp ip cp hfp hlp hpne hpL => ?_
    refine s_cap sp fun c1 c2 c3 c4 => ?_
    have hspn := its_n c1
    repeat refine s_nx ?_
    by_cases hb3 : 2 < ip.length
    · rw [show decide ((2 : Int) < (sp.n : Int)) = true by simp; omega]
      rcases List.eq_nil_or_concat ip with rfl | ⟨ip, y, rfl⟩
      · simp at hb3
      simp only [List.concat_eq_append] at hb3 hlp hfp hpL ⊢
      have hipl : (ip ++ [y]).length = ip.length + 1 := by simp
      rw [hipl] at hb3 hlp
      refine s_pick (kidsD G.toBtT d cq) ?_
      refine s_ownS kq ?_
      refine s_ownS sq ?_
      refine s_own q.1 ?_
      refine s_pick (kidsD G.toBtT d cp) ?_
      refine s_ownS kp ?_
      refine s_ownS sp ?_
      refine s_own p.1 ?_
      refine s_ownS kd ?_
      refine s_ownS s ?_
      refine s_own n ?_
      refine s_turnL ok (A := A) (by omega) hIA (by omega) hIC.symm (by omega) hq1 hfp hfq fun P' Q' e s' kd' => ?_
      refine s_pick (kidsR G.toBtT d (A ++ C)) ?_
      refine s_pick (NodeR G.toBtT d 2 q.1 Q') ?_
      refine s_pick (NodeR G.toBtT d 2 p.1 P') ?_
      refine s_ownS kd' ?_
      refine s_ownS s' ?_
      refine s_own n ?_
      refine s_asm2 (by simp; omega) (by simp; omega) ?_
      rw [hU2, show U ++ (p.1, P').2 ++ y :: ((q.1, Q').2 ++ V) = U ++ (P' ++ y :: Q') ++ V by simp, e, ← hqL, ← hpL]
      simpa using h
    rw [show decide ((2 : Int) < (sp.n : Int)) = false by simp; omega]
    unfold nmend_s1
    repeat first | refine s_nx ?_ | refine s_ai ?_
    cases C with
    | nil =>
      refine s_f ?_ (by simp only [List.length_nil] at hkn; simp; omega)
      refine s_pick (kidsD G.toBtT d cq) ?_
      refine s_ownS kq ?_
      refine s_ownS sq ?_
      refine s_own q.1 ?_
      refine s_pick (kidsD G.toBtT d cp) ?_
      refine s_ownS kp ?_
      refine s_ownS sp ?_
      refine s_own p.1 ?_
      refine s_ownS kd ?_
      refine s_ownS s ?_
      refine s_own n ?_
      refine s_merge ok (by simp only [gt_iff_lt]; split <;> omega) hIA (by omega) hIC.symm (by omega) hfp hfq fun s' kd' => ?_
      refine s_pick (kidsR G.toBtT d (A ++ [])) ?_
      refine s_pick (NodeR G.toBtT d 2 p.1 (wv ip cp ++ x :: wv iq cq)) ?_
      refine s_ownS kd' ?_
      refine s_ownS s' ?_
      refine s_own n ?_
      refine s_asmK (by simp only [List.length_append, List.length_cons]; omega) (by simp only [List.length_append]; omega) ?_
      rw [hU1, ← hqL, ← hpL]
      simpa using h
    | cons r C =>
      simp only [List.length_cons] at hf' hkn hIC
      obtain ⟨x2, IC, rfl⟩ : ∃ x2 IC', IC = x2 :: IC' := by
        cases IC with
        | nil => simp at hIC
        | cons x2 IC => exact ⟨x2, IC, rfl⟩
      simp only [List.length_cons] at hIC hl
      refine s_t ?_ (by simp; omega)
      repeat first | refine s_nx ?_ | refine s_ai ?_
      refine s_idx (s := kd) (i := A.length + 2) ?_
      refine s_ldE0 (s := kd) (x := ptr r) (kp_at (by rw [show A ++ p :: q :: r :: C = (A ++ [p]) ++ q :: r :: C by simp, show A.length + 2 = (A ++ [p]).length + 1 by simp]; exact at_mid2)) ?_
      refine s_nn ?_
      refine s_pick (kidsR G.toBtT d (A ++ r :: C)) ?_
      refine s_kid ?_
      refine s_raw fun sr kr ir cr hfr hlr hrne hrL => ?_
      refine s_cap sr fun g1 g2 g3 g4 => ?_
      have hsrn := its_n g1
      repeat refine s_nx ?_
      by_cases hb4 : 2 < ir.length
      · rw [show decide ((2 : Int) < (sr.n : Int)) = true by simp; omega]
        obtain ⟨y, ir, rfl⟩ : ∃ y ir', ir = y :: ir' := by
          cases ir with
          | nil => simp at hb4
          | cons y ir => exact ⟨y, ir, rfl⟩
        simp only [List.length_cons] at hb4 hlr
        refine s_pick (kidsD G.toBtT d cp) ?_
        refine s_ownS kp ?_
        refine s_ownS sp ?_
        refine s_own p.1 ?_
        refine s_unraw (m := 2) hfp hlp (fun _ => .inr (hpne rfl)) ?_
        rw [← hpL]
        rw [show A ++ p :: q :: r :: C = (A ++ [p]) ++ q :: r :: C by simp, show IA ++ x :: x2 :: IC = (IA ++ [x]) ++ x2 :: IC by simp]
        refine s_pick (kidsD G.toBtT d cr) ?_
        refine s_ownS kr ?_
        refine s_ownS sr ?_
        refine s_own r.1 ?_
        refine s_pick (kidsD G.toBtT d cq) ?_
        refine s_ownS kq ?_
        refine s_ownS sq ?_
        refine s_own q.1 ?_
        refine s_ownS kd ?_
        refine s_ownS s ?_
        refine s_own n ?_
        refine s_turnR ok (A := A ++ [p]) (IA := IA ++ [x]) (by rw [hAl]) (by simp [hIA]) (by simp; omega) (by omega) (by omega) hq1 hfr hfq fun Q' R' e s' kd' => ?_
        refine s_pick (kidsR G.toBtT d (A ++ C)) ?_
        refine s_pick (NodeR G.toBtT d 2 p.1 p.2) ?_
        refine s_unkid ?_
        rw [show A ++ p :: C = (A ++ [p]) ++ C by simp]
        refine s_pick (kidsR G.toBtT d ((A ++ [p]) ++ C)) ?_
        refine s_pick (NodeR G.toBtT d 2 r.1 R') ?_
        refine s_pick (NodeR G.toBtT d 2 q.1 Q') ?_
        refine s_ownS kd' ?_
        refine s_ownS s' ?_
        refine s_own n ?_
        refine s_asm2 (by simp; omega) (by simp; omega) ?_
        obtain ⟨U', V', hV1, hV2⟩ := wv_two (IA := IA ++ [x]) (IC := IC) (A := A ++ [p]) (C := C) (by simp [hIA]) (by omega)
        have h3 := hV2 q x2 r
        have h4 := hU2 p x q
        rw [show (IA ++ [x]) ++ x2 :: IC = IA ++ x :: x2 :: IC by simp, show (A ++ [p]) ++ q :: r :: C = A ++ p :: q :: r :: C by simp, h4] at h3
        rw [hV2, show U' ++ (q.1, Q').2 ++ y :: ((r.1, R').2 ++ V') = U' ++ (Q' ++ y :: R') ++ V' by simp, e, ← hqL, ← hrL]
        rw [h3] at h
        simpa using h
      · rw [show decide ((2 : Int) < (sr.n : Int)) = false by simp; omega]
        refine s_pick (kidsD G.toBtT d cr) ?_
        refine s_ownS kr ?_
        refine s_ownS sr ?_
        refine s_own r.1 ?_
        refine s_unraw (m := 2) hfr hlr (fun _ => .inr (hrne rfl)) ?_
        rw [← hrL]
        refine s_pick (kidsR G.toBtT d (A ++ C)) ?_
        refine s_pick (NodeR G.toBtT d 2 r.1 r.2) ?_
        refine s_unkid ?_
        refine s_pick (kidsD G.toBtT d cq) ?_
        refine s_ownS kq ?_
        refine s_ownS sq ?_
        refine s_own q.1 ?_
        refine s_pick (kidsD G.toBtT d cp) ?_
        refine s_ownS kp ?_
        refine s_ownS sp ?_
        refine s_own p.1 ?_
        refine s_ownS kd ?_
        refine s_ownS s ?_
        refine s_own n ?_
        refine s_merge ok (by simp only [gt_iff_lt]; split <;> omega) hIA (by simp; omega) (by simp; omega) (by omega) hfp hfq fun s' kd' => ?_
        refine s_pick (kidsR G.toBtT d (A ++ r :: C)) ?_
        refine s_pick (NodeR G.toBtT d 2 p.1 (wv ip cp ++ x :: wv iq cq)) ?_
        refine s_ownS kd' ?_
        refine s_ownS s' ?_
        refine s_own n ?_
        refine s_asmK (by simp only [List.length_append, List.length_cons]; omega) (by simp only [List.length_append, List.length_cons]; omega) ?_
        rw [hU1, ← hqL, ← hpL]
        simpa using h
end
end Bt
end Go.Sep
/- Plain forms of functions, and that their code comes to them (package law16_LocksOrdered). -/
namespace Go.Proofs.Ytfjjocopmknhgaa
open Go Go.Sep
set_option linter.unusedVariables false
set_option linter.unusedSimpArgs false
set_option maxRecDepth 100000
set_option maxHeartbeats 4000000
attribute [local irreducible] G Gp Cx Tx Ex Sx Dx Ox Ax Lx Rx Fx Bx Bj Al Do Ld LdN St StN New CallF Ar DoU Rd Rd2 Pu Cd Ite Fv CallV CallY Ans0 Ans1 Ans2 Ans3 Ans4 Ans5 Ext Dead Dr WithS Sv LdS LdNS RdS Rd2S Nn Idx IdxA IdxS Fld Bld Slc SlcS Cat All LoopK RangeF RangeJ TakeD
namespace F_IRLaw16LocksOrdered
instance at_58 : AT Try.prog 58 4 := ⟨by kernel_rfl⟩
instance cb_13 : CB Try.prog 13 := ⟨by kernel_rfl⟩
instance cb_42 : CB Try.prog 42 := ⟨by kernel_rfl⟩
instance cb_43 : CB Try.prog 43 := ⟨by kernel_rfl⟩
instance cb_44 : CB Try.prog 44 := ⟨by kernel_rfl⟩
instance cb_45 : CB Try.prog 45 := ⟨by kernel_rfl⟩
instance cb_46 : CB Try.prog 46 := ⟨by kernel_rfl⟩
instance cb_47 : CB Try.prog 47 := ⟨by kernel_rfl⟩
instance cb_48 : CB Try.prog 48 := ⟨by kernel_rfl⟩
instance cb_49 : CB Try.prog 49 := ⟨by kernel_rfl⟩
instance ct_3 : CT Try.prog 3 := ⟨by kernel_rfl⟩
instance ct_34 : CT Try.prog 34 := ⟨by kernel_rfl⟩
instance ct_47 : CT Try.prog 47 := ⟨by kernel_rfl⟩
instance ct_9 : CT Try.prog 9 := ⟨by kernel_rfl⟩
instance ft_56_2 : FT Try.prog 56 2 2 1 := ⟨by kernel_rfl⟩
instance ft_58_0 : FT Try.prog 58 0 0 3 := ⟨by kernel_rfl⟩
instance in_3 : INT Try.prog 3 .i64 := ⟨by kernel_rfl⟩
instance in_34 : INT Try.prog 34 .u64 := ⟨by kernel_rfl⟩
instance mx : MX Try.prog := ⟨mixed⟩
instance pl_39 : PLT Try.prog 39 [(0, 1), (1, 1), (2, 1)] := ⟨_, Try.underlying39, by kernel_rfl⟩
instance sl_101 : SLT Try.prog 101 58 4 := ⟨by kernel_rfl⟩
instance sl_29 : SLT Try.prog 29 39 3 := ⟨by kernel_rfl⟩
instance sl_47 : SLT Try.prog 47 9 1 := ⟨by kernel_rfl⟩
instance sl_93 : SLT Try.prog 93 47 1 := ⟨by kernel_rfl⟩
instance sl_94 : SLT Try.prog 94 3 1 := ⟨by kernel_rfl⟩
instance sl_97 : SLT Try.prog 97 34 1 := ⟨by kernel_rfl⟩
instance st_9 : STT Try.prog 9 := ⟨by kernel_rfl⟩
instance sz_58 : SZ Try.prog 58 4 := ⟨by kernel_rfl⟩
instance un_25 : UN Try.prog 25 (.pointer 112) := ⟨Try.underlying25⟩
instance un_95 : UN Try.prog 95 (.pointer 145) := ⟨Try.underlying95⟩
instance zt_34 : ZT Try.prog 34 (.int .u64 0) := ⟨Try.t34, by kernel_rfl, by kernel_rfl⟩
instance zt_39 : ZT Try.prog 39 (.agg #[(.string ⟨#[]⟩), (.int .i64 0), (.int .u64 0)]) := ⟨Try.t39, by kernel_rfl, by kernel_rfl⟩
instance zt_58 : ZT Try.prog 58 (.agg #[(.int .i64 0), (.int .u64 0), (.int .u64 0), (.int .i64 0)]) := ⟨Try.t58, by kernel_rfl, by kernel_rfl⟩
end F_IRLaw16LocksOrdered
def law16_LocksOrdered.s5 (Q : Bool → K) (X3 : Sl → Int → K) (X4 : Sl → Int → K) (leaves1_5 : Sl) (s5_5 : (Option Addr)) (l7_5 : (Option Addr)) (here8_5 : Sl) (i9_5 : Int) (list10_5 : Sl) (marks11_5 : Sl) (k13_5 : ByteArray) (t42_5 : Sl) (t43_5 : Int) (t44_5 : Int) (t50_5 : Sl) (t51_5 : Int) (t52_5 : Int) (t63_5 : Bool) : K :=
  Ite t63_5
    (Q true)
    (Bld #[(.string ⟨#[]⟩), (.int .i64 0), (.int .u64 0)] (fun i => some (i * 3, 3)) [(0, (.agg #[(.string k13_5), (.int .i64 0), (.int .u64 0)]))] fun ct67 =>
    New 39 ct67 fun t67 =>
    Do Try.prog (Builtin.append_ #[29, 29] 29 #[(Sl.val marks11_5), (Sl.val (Sl.mk (some t67) 1 1))]) Sl.val fun t68 =>
    Ar (IntKind.wrap .i64 (t52_5 + 1)) fun t69 =>
    X4 t68 t69)
def law16_LocksOrdered.b4 (Q : Bool → K) (X3 : Sl → Int → K) (X4 : Sl → Int → K) (leaves1_4 : Sl) (s5_4 : (Option Addr)) (l7_4 : (Option Addr)) (here8_4 : Sl) (i9_4 : Int) (list10_4 : Sl) (t42_4 : Sl) (t43_4 : Int) (t44_4 : Int) (t50_4 : Sl) (t51_4 : Int) (marks11_4 : Sl) (t52_4 : Int) : K :=
  Ite (decide (t52_4 < t51_4))
    (Idx t50_4 t52_4 1 fun t54 =>
    Ld t54 Value.string fun t55 =>
    Ite (decide ((100 : Int) < (t55.size : Int)))
      (law16_LocksOrdered.s5 Q X3 X4 leaves1_4 s5_4 l7_4 here8_4 i9_4 list10_4 marks11_4 t55 t42_4 t43_4 t44_4 t50_4 t51_4 t52_4 true)
      (law16_LocksOrdered.s5 Q X3 X4 leaves1_4 s5_4 l7_4 here8_4 i9_4 list10_4 marks11_4 t55 t42_4 t43_4 t44_4 t50_4 t51_4 t52_4 (decide ((20 : Int) < (list10_4.n : Int)))))
    (Ar (IntKind.wrap .u64 i9_4) fun t73 =>
    law16_tag.call t73 fun t74 =>
    locks_Locks_Enter.call l7_4 s5_4 t74 marks11_4 <|
    Ar (IntKind.wrap .u64 i9_4) fun t79 =>
    New 34 #[(.int .u64 t79)] fun t80 =>
    Do Try.prog (Builtin.append_ #[97, 97] 97 #[(Sl.val here8_4), (Sl.val (Sl.mk (some t80) 1 1))]) Sl.val fun t81 =>
    Ar (IntKind.wrap .i64 (t44_4 + 1)) fun t82 =>
    X3 t81 t82)
def law16_LocksOrdered.b8 (Q : Bool → K) (X3 : Sl → Int → K) (X6 : Sl → Int → K) (X7 : Int → K) (X8 : Int → K) (leaves1_8 : Sl) (l7_8 : (Option Addr)) (here8_8 : Sl) (n14_8 : Int) (x16_8 : Int) (t95_8 : Sl) (t96_8 : Int) (t97_8 : Int) (t104_8 : Sl) (t105_8 : Int) (t106_8 : Int) : K :=
  Ite (decide (t106_8 < t105_8))
    (Idx t104_8 t106_8 4 fun t108 =>
    LdN t108 4 fun t109 =>
    New 58 #[(.int .i64 0), (.int .u64 0), (.int .u64 0), (.int .i64 0)] fun a18 =>
    StN a18 4 t109 <|
    Ld (a18.add 2) (Value.int .u64) fun t112 =>
    Ite (decide (x16_8 ≤ t112))
      (Q false)
      (Ar (IntKind.wrap .i64 (t106_8 + 1)) fun t115 =>
      X8 t115))
    (Ar (IntKind.wrap .i64 (t97_8 + 1)) fun t116 =>
    X7 t116)
def law16_LocksOrdered.s9 (Q : Bool → K) (X3 : Sl → Int → K) (X6 : Sl → Int → K) (X7 : Int → K) (leaves1_9 : Sl) (l7_9 : (Option Addr)) (here8_9 : Sl) (n14_9 : Int) (at19_9 : Int) : K :=
  Idx here8_9 at19_9 1 fun t132 =>
  Ld t132 (Value.int .u64) fun t133 =>
  law16_tag.call t133 fun t134 =>
  locks_Locks_Leave.call l7_9 t134 <|
  Dr <|
  Slc here8_9 0 at19_9 at19_9 1 fun t139 =>
  Ar (IntKind.wrap .i64 (at19_9 + 1)) fun t142 =>
  Slc here8_9 t142 (here8_9.n : Int) (here8_9.c : Int) 1 fun t143 =>
  Do Try.prog (Builtin.append_ #[97, 97] 97 #[(Sl.val t139), (Sl.val t143)]) Sl.val fun t144 =>
  Ar (IntKind.wrap .i64 (n14_9 + 1)) fun t87 =>
  X6 t144 t87
def law16_LocksOrdered.b7 (Q : Bool → K) (X3 : Sl → Int → K) (X6 : Sl → Int → K) (X7 : Int → K) (leaves1_7 : Sl) (l7_7 : (Option Addr)) (here8_7 : Sl) (n14_7 : Int) (t95_7 : Sl) (t96_7 : Int) (t97_7 : Int) : K :=
  Ite (decide (t97_7 < t96_7))
    (Idx t95_7 t97_7 1 fun t99 =>
    Ld t99 (Value.int .u64) fun t100 =>
    law16_tag.call t100 fun t103 =>
    locks_Locks_Ahead.call l7_7 t103 fun t104 =>
    LoopK (α := Int) (fun X x => law16_LocksOrdered.b8 Q X3 X6 X7 X leaves1_7 l7_7 here8_7 n14_7 t100 t95_7 t96_7 t97_7 t104 (t104.n : Int) x) 0)
    (Ite (decide (n14_7 < (leaves1_7.n : Int)))
      (Idx leaves1_7 n14_7 1 fun t123 =>
      Ld t123 (Value.int .i64) fun t124 =>
      Ar (bitsOf .and .i64 t124 1023) fun t125 =>
      Cd ((here8_7.n : Int) ≠ 0) <|
      Ar (Int.tmod t125 (here8_7.n : Int)) fun t128 =>
      law16_LocksOrdered.s9 Q X3 X6 X7 leaves1_7 l7_7 here8_7 n14_7 t128)
      (law16_LocksOrdered.s9 Q X3 X6 X7 leaves1_7 l7_7 here8_7 n14_7 0))
def law16_LocksOrdered.b6 (Q : Bool → K) (X3 : Sl → Int → K) (X6 : Sl → Int → K) (leaves1_6 : Sl) (l7_6 : (Option Addr)) (here8_6 : Sl) (n14_6 : Int) : K :=
  Ite (decide ((0 : Int) < (here8_6.n : Int)))
    (Idx here8_6 0 1 fun t90 =>
    Ld t90 (Value.int .u64) fun t91 =>
    law16_tag.call t91 fun t92 =>
    locks_Locks_Ready.call l7_6 t92 fun t93 =>
    Ite (!t93)
      (Q false)
      (LoopK (α := Int) (fun X x => law16_LocksOrdered.b7 Q X3 X6 X leaves1_6 l7_6 here8_6 n14_6 here8_6 (here8_6.n : Int) x) 0))
    (locks_Locks_Keys.call l7_6 fun t146 =>
    Q (decide ((t146.n : Int) = 0)))
def law16_LocksOrdered.b3 (Q : Bool → K)  (X3 : Sl → Int → K) (leaves1_3 : Sl) (s5_3 : (Option Addr)) (l7_3 : (Option Addr)) (t42_3 : Sl) (t43_3 : Int) (here8_3 : Sl) (t44_3 : Int) : K :=
  Ite (decide (t44_3 < t43_3))
    (Idx t42_3 t44_3 1 fun t47 =>
    Ld t47 Sl.val fun t48 =>
    New 39 #[] fun t49 =>
    LoopK (α := Sl × Int) (fun X x => law16_LocksOrdered.b4 Q X3 (fun marks11_4 t52_4 => X (marks11_4, t52_4)) leaves1_3 s5_3 l7_3 here8_3 t44_3 t48 t42_3 t43_3 t44_3 t48 (t48.n : Int) x.1 x.2) ((Sl.mk (some t49) 0 0), 0))
    (LoopK (α := Sl × Int) (fun X x => law16_LocksOrdered.b6 Q X3 (fun here8_6 n14_6 => X (here8_6, n14_6)) leaves1_3 l7_3 x.1 x.2) (here8_3, 0))
def law16_LocksOrdered.s2 (Q : Bool → K)  (keys0_2 : Sl) (leaves1_2 : Sl) (s5_2 : (Option Addr)) (l7_2 : (Option Addr)) (t40_2 : Bool) : K :=
  Ite t40_2
    (Q false)
    (New 34 #[] fun t41 =>
    LoopK (α := Sl × Int) (fun X x => law16_LocksOrdered.b3 Q (fun here8_3 t44_3 => X (here8_3, t44_3)) leaves1_2 s5_2 l7_2 keys0_2 (keys0_2.n : Int) x.1 x.2) ((Sl.mk (some t41) 0 0), 0))
def law16_LocksOrdered.s1 (Q : Bool → K)  (keys0_1 : Sl) (leaves1_1 : Sl) (t29_1 : Bool) : K :=
  Ite t29_1
    (Q true)
    (store_New.call 1 fun t31x0 t31x1 =>
    locks_New.call  fun t34 =>
    Ite ((t31x0).isNone)
      (law16_LocksOrdered.s2 Q keys0_1 leaves1_1 t31x0 t34 true)
      (law16_LocksOrdered.s2 Q keys0_1 leaves1_1 t31x0 t34 ((t34).isNone)))
def law16_LocksOrdered (keys0 : Sl) (leaves1 : Sl) (Q : Bool → K) : K :=
  law16_speaks.call  fun t20 =>
  Ite (!t20)
    (Q false)
    (Ite (decide ((30 : Int) < (keys0.n : Int)))
      (law16_LocksOrdered.s1 Q keys0 leaves1 true)
      (law16_LocksOrdered.s1 Q keys0 leaves1 (decide ((30 : Int) < (leaves1.n : Int)))))
theorem law16_LocksOrdered_ok (keys0 : Sl) (leaves1 : Sl) (Q : Bool → K) (w : World) (h : law16_LocksOrdered keys0 leaves1 Q w) : law16_LocksOrdered.call keys0 leaves1 Q w := by
  have hJ18 : ∀ (X3 : (Sl × Int) → K), XH 11 X3 → ∀ (X4 : (Sl × Int) → K), XH 15 X4 → JH 18 fun D => ∃ (leaves1_5 : Sl) (s5_5 : (Option Addr)) (l7_5 : (Option Addr)) (here8_5 : Sl) (i9_5 : Int) (list10_5 : Sl) (marks11_5 : Sl) (k13_5 : ByteArray) (t42_5 : Sl) (t43_5 : Int) (t44_5 : Int) (t50_5 : Sl) (t51_5 : Int) (t52_5 : Int), D [(1, (Sl.val leaves1_5)), (5, (.pointer s5_5)), (7, (.pointer l7_5)), (8, (Sl.val here8_5)), (9, (.int .i64 i9_5)), (10, (Sl.val list10_5)), (11, (Sl.val marks11_5)), (13, (.string k13_5)), (42, (Sl.val t42_5)), (43, (.int .i64 t43_5)), (44, (.int .i64 t44_5)), (50, (Sl.val t50_5)), (51, (.int .i64 t51_5)), (52, (.int .i64 t52_5))] (fun C => ∀ (t63_5 : Bool), C [(1, (Sl.val leaves1_5)), (5, (.pointer s5_5)), (7, (.pointer l7_5)), (8, (Sl.val here8_5)), (9, (.int .i64 i9_5)), (10, (Sl.val list10_5)), (11, (Sl.val marks11_5)), (13, (.string k13_5)), (42, (Sl.val t42_5)), (43, (.int .i64 t43_5)), (44, (.int .i64 t44_5)), (50, (Sl.val t50_5)), (51, (.int .i64 t51_5)), (52, (.int .i64 t52_5)), (63, (.bool t63_5))] (law16_LocksOrdered.s5 Q (fun here8_3 t44_3 => X3 (here8_3, t44_3)) (fun marks11_4 t52_4 => X4 (marks11_4, t52_4)) leaves1_5 s5_5 l7_5 here8_5 i9_5 list10_5 marks11_5 k13_5 t42_5 t43_5 t44_5 t50_5 t51_5 t52_5 t63_5)) := by intros; exact ⟨fun _ ⟨_, _, _, _, _, _, _, _, _, _, _, _, _, _, h⟩ => ⟨_, _, h⟩⟩
  have hL15 : ∀ (X3 : (Sl × Int) → K), XH 11 X3 → ∀ (leaves1_4 : Sl) (s5_4 : (Option Addr)) (l7_4 : (Option Addr)) (here8_4 : Sl) (i9_4 : Int) (list10_4 : Sl) (t42_4 : Sl) (t43_4 : Int) (t44_4 : Int) (t50_4 : Sl) (t51_4 : Int), LH 15 (fun x : Sl × Int => [(1, (Sl.val leaves1_4)), (5, (.pointer s5_4)), (7, (.pointer l7_4)), (8, (Sl.val here8_4)), (9, (.int .i64 i9_4)), (10, (Sl.val list10_4)), (11, (Sl.val x.1)), (42, (Sl.val t42_4)), (43, (.int .i64 t43_4)), (44, (.int .i64 t44_4)), (50, (Sl.val t50_4)), (51, (.int .i64 t51_4)), (52, (.int .i64 x.2))]) (fun X x => law16_LocksOrdered.b4 Q (fun here8_3 t44_3 => X3 (here8_3, t44_3)) (fun marks11_4 t52_4 => X (marks11_4, t52_4)) leaves1_4 s5_4 l7_4 here8_4 i9_4 list10_4 t42_4 t43_4 t44_4 t50_4 t51_4 x.1 x.2) := by intros; exact ⟨⟩
  have hL33 : ∀ (X3 : (Sl × Int) → K), XH 11 X3 → ∀ (X6 : (Sl × Int) → K), XH 25 X6 → ∀ (X7 : Int → K), XH 30 X7 → ∀ (leaves1_8 : Sl) (l7_8 : (Option Addr)) (here8_8 : Sl) (n14_8 : Int) (x16_8 : Int) (t95_8 : Sl) (t96_8 : Int) (t97_8 : Int) (t104_8 : Sl) (t105_8 : Int), LH 33 (fun x : Int => [(1, (Sl.val leaves1_8)), (7, (.pointer l7_8)), (8, (Sl.val here8_8)), (14, (.int .i64 n14_8)), (16, (.int .u64 x16_8)), (95, (Sl.val t95_8)), (96, (.int .i64 t96_8)), (97, (.int .i64 t97_8)), (104, (Sl.val t104_8)), (105, (.int .i64 t105_8)), (106, (.int .i64 x))]) (fun X x => law16_LocksOrdered.b8 Q (fun here8_3 t44_3 => X3 (here8_3, t44_3)) (fun here8_6 n14_6 => X6 (here8_6, n14_6)) X7 X leaves1_8 l7_8 here8_8 n14_8 x16_8 t95_8 t96_8 t97_8 t104_8 t105_8 x) := by intros; exact ⟨⟩
  have hD43 : DH 43 0 [] (.s [0, 1, 2, 3, 4, 5, 6, 7] (.a [(8, 0, .s [9] .e)])) := by intros; exact ⟨⟩
  have hJ42 : ∀ (X3 : (Sl × Int) → K), XH 11 X3 → ∀ (X6 : (Sl × Int) → K), XH 25 X6 → ∀ (X7 : Int → K), XH 30 X7 → JH 42 fun D => ∃ (leaves1_9 : Sl) (l7_9 : (Option Addr)) (here8_9 : Sl) (n14_9 : Int), D [(1, (Sl.val leaves1_9)), (7, (.pointer l7_9)), (8, (Sl.val here8_9)), (14, (.int .i64 n14_9))] (fun C => ∀ (at19_9 : Int), C [(1, (Sl.val leaves1_9)), (7, (.pointer l7_9)), (8, (Sl.val here8_9)), (14, (.int .i64 n14_9)), (19, (.int .i64 at19_9))] (law16_LocksOrdered.s9 Q (fun here8_3 t44_3 => X3 (here8_3, t44_3)) (fun here8_6 n14_6 => X6 (here8_6, n14_6)) X7 leaves1_9 l7_9 here8_9 n14_9 at19_9)) := by intros; exact ⟨fun _ ⟨_, _, _, _, h⟩ => ⟨_, _, h⟩⟩
  have hL30 : ∀ (X3 : (Sl × Int) → K), XH 11 X3 → ∀ (X6 : (Sl × Int) → K), XH 25 X6 → ∀ (leaves1_7 : Sl) (l7_7 : (Option Addr)) (here8_7 : Sl) (n14_7 : Int) (t95_7 : Sl) (t96_7 : Int), LH 30 (fun x : Int => [(1, (Sl.val leaves1_7)), (7, (.pointer l7_7)), (8, (Sl.val here8_7)), (14, (.int .i64 n14_7)), (95, (Sl.val t95_7)), (96, (.int .i64 t96_7)), (97, (.int .i64 x))]) (fun X x => law16_LocksOrdered.b7 Q (fun here8_3 t44_3 => X3 (here8_3, t44_3)) (fun here8_6 n14_6 => X6 (here8_6, n14_6)) X leaves1_7 l7_7 here8_7 n14_7 t95_7 t96_7 x) := by intros; exact ⟨⟩
  have hL25 : ∀ (X3 : (Sl × Int) → K), XH 11 X3 → ∀ (leaves1_6 : Sl) (l7_6 : (Option Addr)), LH 25 (fun x : Sl × Int => [(1, (Sl.val leaves1_6)), (7, (.pointer l7_6)), (8, (Sl.val x.1)), (14, (.int .i64 x.2))]) (fun X x => law16_LocksOrdered.b6 Q (fun here8_3 t44_3 => X3 (here8_3, t44_3)) (fun here8_6 n14_6 => X (here8_6, n14_6)) leaves1_6 l7_6 x.1 x.2) := by intros; exact ⟨⟩
  have hL11 : ∀ (leaves1_3 : Sl) (s5_3 : (Option Addr)) (l7_3 : (Option Addr)) (t42_3 : Sl) (t43_3 : Int), LH 11 (fun x : Sl × Int => [(1, (Sl.val leaves1_3)), (5, (.pointer s5_3)), (7, (.pointer l7_3)), (8, (Sl.val x.1)), (42, (Sl.val t42_3)), (43, (.int .i64 t43_3)), (44, (.int .i64 x.2))]) (fun X x => law16_LocksOrdered.b3 Q (fun here8_3 t44_3 => X (here8_3, t44_3)) leaves1_3 s5_3 l7_3 t42_3 t43_3 x.1 x.2) := by intros; exact ⟨⟩
  have hJ8 : JH 8 fun D => ∃ (keys0_2 : Sl) (leaves1_2 : Sl) (s5_2 : (Option Addr)) (l7_2 : (Option Addr)), D [(0, (Sl.val keys0_2)), (1, (Sl.val leaves1_2)), (5, (.pointer s5_2)), (7, (.pointer l7_2))] (fun C => ∀ (t40_2 : Bool), C [(0, (Sl.val keys0_2)), (1, (Sl.val leaves1_2)), (5, (.pointer s5_2)), (7, (.pointer l7_2)), (40, (.bool t40_2))] (law16_LocksOrdered.s2 Q keys0_2 leaves1_2 s5_2 l7_2 t40_2)) := by intros; exact ⟨fun _ ⟨_, _, _, _, h⟩ => ⟨_, _, h⟩⟩
  have hJ4 : JH 4 fun D => ∃ (keys0_1 : Sl) (leaves1_1 : Sl), D [(0, (Sl.val keys0_1)), (1, (Sl.val leaves1_1))] (fun C => ∀ (t29_1 : Bool), C [(0, (Sl.val keys0_1)), (1, (Sl.val leaves1_1)), (29, (.bool t29_1))] (law16_LocksOrdered.s1 Q keys0_1 leaves1_1 t29_1)) := by intros; exact ⟨fun _ ⟨_, _, h⟩ => ⟨_, _, h⟩⟩
  exact g_walk 149 h Try.func9
end Go.Proofs.Ytfjjocopmknhgaa
/- Of tries that enter all their keys at once nobody waits for one that came later. -/
namespace Go.Proofs.Ytfjjocopmknhgaa
open Go Go.Sep Go.Sep.Bt
set_option linter.unusedSimpArgs false
set_option linter.unusedVariables false
set_option maxRecDepth 100000

theorem homeOf1 (k : List UInt8) : homeOf k 1 = 0 := by
  unfold homeOf
  induction k with
  | nil => rfl
  | cons b k ih => simpa [Nat.mod_one] using ih
theorem look0 (k : List UInt8) : markLook 1 [] ⟨k, 0, 0⟩ = 0 := by simp [markLook, lookS, sGet, getM, homeOf1]
structure GoodO (H : List Nat) (M : GM) : Prop where
  park : ∀ p ∈ M, p.2.2 = []
  inc : ∀ p ∈ M, (p.2.1.map fun c => c.1.seq).Pairwise (· < ·)
  mem : ∀ p ∈ M, ∀ c ∈ p.2.1, ∃ h ∈ H, c.1 = tg (h : Int)
theorem GoodO.nil : GoodO [] [] := ⟨by simp, by simp, by simp⟩
theorem GoodO.mono {H H' : List Nat} {M : GM} (h : GoodO H M) (hh : ∀ x ∈ H, x ∈ H') : GoodO H' M := ⟨h.park, h.inc, fun p hp c hc => by
  obtain ⟨x, hx, e⟩ := h.mem p hp c hc; exact ⟨x, hh x hx, e⟩⟩
theorem GoodO.gate {H : List Nat} {M : GM} {k : List UInt8} (h : GoodO H M) : GoodO H (gateM k M) := by
  unfold gateM
  split
  · refine ⟨fun p hp => ?_, fun p hp => ?_, fun p hp => ?_⟩ <;> rcases List.mem_append.1 hp with hp | hp
    · exact h.park p hp
    · rw [List.mem_singleton.1 hp]
    · exact h.inc p hp
    · rw [List.mem_singleton.1 hp]; simp
    · exact h.mem p hp
    · rw [List.mem_singleton.1 hp]; simp
  · exact h
theorem at_mem {M : GM} {k : List UInt8} : atM k M = ([], []) ∨ (k, atM k M) ∈ M := by
  unfold atM
  cases hm : mget k M with
  | none => exact .inl rfl
  | some v => exact .inr (mget_some hm)
theorem GoodO.enter {H : List Nat} {M : GM} {dm : DM} {i : Nat} (h : GoodO (H ++ [i]) M) (hi : ∀ x ∈ H, x < i) (k : List UInt8) : GoodO (H ++ [i]) (enter1 1 [] (tg (i : Int)) (M, dm) ⟨k, 0, 0⟩).1 := by
  unfold enter1
  split
  · exact h.gate
  · rename_i hn
    rw [if_pos (look0 k)]
    simp only [Bool.or_eq_true, not_or, Bool.not_eq_true] at hn
    have hA : (atM k M).2 = [] ∧ ((atM k M).1.map fun c => c.1.seq).Pairwise (· < ·) ∧ ∀ c ∈ (atM k M).1, ∃ h ∈ H ++ [i], c.1 = tg (h : Int) := by
      rcases at_mem (M := M) (k := k) with e | e
      · rw [e]; simp
      · exact ⟨h.park _ e, h.inc _ e, h.mem _ e⟩
    have hlt : ∀ c ∈ (atM k M).1, c.1.seq < (i : Int) := fun c hc => by
      obtain ⟨x, hx, e⟩ := hA.2.2 c hc
      have hc2 : ¬ c.1 = tg (i : Int) := by
        have := hn.1
        unfold hasT at this
        rw [List.any_eq_false] at this
        simpa using this c hc
      rw [e]
      rcases List.mem_append.1 hx with hx | hx
      · have := hi x hx; show (x : Int) < i; omega
      · rw [List.mem_singleton.1 hx] at e; exact absurd e hc2
    have hg := h.gate (k := k)
    refine ⟨fun p hp => ?_, fun p hp => ?_, fun p hp => ?_⟩ <;> rcases mem_mset hp with rfl | hp
    · exact hA.1
    · exact hg.park p hp
    · simp only [List.map_append, List.map_cons, List.map_nil]
      refine List.pairwise_append.2 ⟨hA.2.1, List.pairwise_singleton _ _, fun a ha b hb => ?_⟩
      obtain ⟨c, hc, rfl⟩ := List.mem_map.1 ha
      rw [List.mem_singleton.1 hb]
      exact hlt c hc
    · exact hg.inc p hp
    · intro c hc
      rcases List.mem_append.1 hc with hc | hc
      · exact hA.2.2 c hc
      · rw [List.mem_singleton.1 hc]; exact ⟨i, by simp, rfl⟩
    · exact hg.mem p hp
theorem GoodO.enters {H : List Nat} {i : Nat} (hi : ∀ x ∈ H, x < i) : ∀ (ks : List (List UInt8)) {M : GM} {dm : DM}, GoodO (H ++ [i]) M → GoodO (H ++ [i]) (enterM 1 [] (tg (i : Int)) (ks.map fun k => ⟨k, 0, 0⟩) (M, dm)).1
  | [], M, dm, h => h
  | k :: ks, M, dm, h => by
    show GoodO _ (enterM 1 [] (tg (i : Int)) (ks.map fun k => ⟨k, 0, 0⟩) (enter1 1 [] (tg (i : Int)) (M, dm) ⟨k, 0, 0⟩)).1
    exact GoodO.enters hi ks (h.enter hi k)
theorem gsz_enters {n : Nat} {S : Recs} {tag : TagM} : ∀ (L : List MarkM) {x : GM × DM} {N : Nat}, gsz x.1 N → gsz (enterM n S tag L x).1 (N + L.length)
  | [], x, N, h => h
  | m :: L, x, N, h => by
    have := gsz_enters (n := n) (S := S) (tag := tag) L (gsz_enter (n := n) (S := S) (tag := tag) (m := m) h)
    exact gsz_le this (by simp; omega)
theorem gsz_leave {tag : TagM} {x : GM × DM} {N : Nat} (h : gsz x.1 N) : gsz (leaveM tag x).1 N := by
  refine ⟨by simpa [leaveM] using h.1, fun p hp => ?_⟩
  obtain ⟨q, hq, rfl⟩ := List.mem_map.1 hp
  have h1 := h.2 q hq
  exact ⟨Nat.le_trans (List.length_filter_le _ _) h1.1, Nat.le_trans (List.length_filter_le _ _) h1.2⟩
theorem GoodO.leave {A C : List Nat} {x : Nat} {M : GM} {dm : DM} (h : GoodO (A ++ x :: C) M) : GoodO (A ++ C) (leaveM (tg (x : Int)) (M, dm)).1 := by
  refine ⟨fun p hp => ?_, fun p hp => ?_, fun p hp c hc => ?_⟩
  all_goals obtain ⟨q, hq, rfl⟩ := List.mem_map.1 hp
  · simp only [noT, h.park q hq, List.filter_nil]
  · exact List.Pairwise.sublist ((List.filter_sublist (l := q.2.1)).map _) (h.inc q hq)
  · simp only [noT, List.mem_filter, Bool.not_eq_true', decide_eq_false_iff_not] at hc
    obtain ⟨y, hy, e⟩ := h.mem q hq c hc.1
    refine ⟨y, ?_, e⟩
    rcases List.mem_append.1 hy with hy | hy
    · exact List.mem_append_left _ hy
    · rcases List.mem_cons.1 hy with rfl | hy
      · exact absurd e hc.2
      · exact List.mem_append_right _ hy
theorem GoodO.ready {x : Nat} {H : List Nat} {M : GM} (h : GoodO (x :: H) M) (hs : (x :: H).Pairwise (· < ·)) : readyM (tg (x : Int)) M = true := by
  unfold readyM
  rw [List.all_eq_true]
  intro p hp
  unfold readyG
  rw [h.park p hp]
  simp only [hasT, List.any_nil, Bool.not_false, Bool.true_and, Bool.not_eq_true', decide_eq_false_iff_not, Int.not_lt]
  cases hf : p.2.1.findIdx? fun c => decide (c.1 = tg (x : Int)) with
  | none => simp [idxI]
  | some j =>
    have h1 := List.findIdx?_eq_some_iff_getElem.1 hf
    obtain ⟨hj, h2, h3⟩ := h1
    simp only [decide_eq_true_eq] at h2
    cases j with
    | zero => simp [idxI]
    | succ j =>
      exfalso
      have h4 := h.inc p hp
      rw [List.pairwise_iff_getElem] at h4
      have h5 := h4 0 (j + 1) (by simp; omega) (by simpa using hj) (by omega)
      simp only [List.getElem_map] at h5
      rw [h2] at h5
      obtain ⟨y, hy, e⟩ := h.mem p hp p.2.1[0] (List.getElem_mem _)
      rw [e] at h5
      have h6 : (y : Int) < x := h5
      rcases List.mem_cons.1 hy with rfl | hy
      · omega
      · have := (List.pairwise_cons.1 hs).1 y hy; omega
theorem fold_addT {P : TagM → Prop} : ∀ (L out : List TagM), (∀ t ∈ L, P t) → (∀ t ∈ out, P t) → ∀ t ∈ L.foldl addT out, P t
  | [], out, _, h2 => h2
  | a :: L, out, h1, h2 => by
    refine fold_addT L (addT out a) (fun t ht => h1 t (List.mem_cons_of_mem _ ht)) fun t ht => ?_
    unfold addT at ht
    split at ht
    · exact h2 t ht
    · rcases List.mem_append.1 ht with ht | ht
      · exact h2 t ht
      · rw [List.mem_singleton.1 ht]; exact h1 a List.mem_cons_self
theorem GoodO.ahead {H : List Nat} {M : GM} (h : GoodO H M) (x : Nat) : ∀ t ∈ aheadM (tg (x : Int)) M, t.seq < (x : Int) := by
  unfold aheadM
  have key : ∀ k, ∀ t ∈ fore (tg (x : Int)) (lineT M k), t.seq < (x : Int) := fun k t ht => by
    unfold fore at ht
    cases hf : (lineT M k).findIdx? fun t => decide (t = tg (x : Int)) with
    | none => rw [hf] at ht; simp at ht
    | some j =>
      rw [hf] at ht
      simp only [Option.getD_some] at ht
      obtain ⟨hj, h2, _⟩ := List.findIdx?_eq_some_iff_getElem.1 hf
      simp only [decide_eq_true_eq] at h2
      obtain ⟨i, hi, e⟩ := List.getElem_of_mem ht
      rw [List.length_take] at hi
      rw [List.getElem_take] at e
      have hin : ((lineT M k).map fun t => t.seq).Pairwise (· < ·) := by
        unfold lineT
        rcases at_mem (M := M) (k := k) with e | e
        · rw [e]; simp
        · have := h.inc _ e; simpa [Function.comp_def] using this
      rw [List.pairwise_iff_getElem] at hin
      have h5 := hin i j (by simp; omega) (by simpa using hj) (by omega)
      simp only [List.getElem_map] at h5
      rw [e, h2] at h5
      exact h5
  have : ∀ (ks : List (List UInt8)) (out : List TagM), (∀ t ∈ out, t.seq < (x : Int)) → ∀ t ∈ ks.foldl (fun out key => (fore (tg (x : Int)) (lineT M key)).foldl addT out) out, t.seq < (x : Int) := by
    intro ks
    induction ks with
    | nil => intro out h; exact h
    | cons k ks ih => intro out h; exact ih _ (fold_addT _ _ (key k) h)
  exact this _ _ (by simp)
theorem ahead_len {tag : TagM} {M : GM} {N : Nat} (hN : gsz M N) (hNl : N ≤ 5000) : (aheadM tag M).length ≤ 25000000 := by
  have key : ∀ (ks : List (List UInt8)) (out : List TagM), (ks.foldl (fun out key => (fore tag (lineT M key)).foldl addT out) out).length ≤ out.length + ks.length * N := by
    intro ks
    induction ks with
    | nil => intro out; simp
    | cons k ks ih =>
      intro out
      have h1 := ih ((fore tag (lineT M k)).foldl addT out)
      have h2 := addT_len (fore tag (lineT M k)) out
      have h3 : (fore tag (lineT M k)).length ≤ N := by
        unfold fore lineT
        rw [List.length_take, List.length_map]
        have := (gsz_at (k := k) hN).1; omega
      simp only [List.foldl_cons, List.length_cons, Nat.add_mul]
      omega
  have h1 := key (keysM M) []
  have h2 : (keysM M).length ≤ N := by
    have h1 := List.length_filter_le (fun k => !decide ((atM k M).1.length + (atM k M).2.length = 0)) (sortL (M.map Prod.fst))
    rw [sortL_len, List.length_map] at h1
    have := hN.1
    unfold keysM; omega
  have h3 : (keysM M).length * N ≤ 5000 * 5000 := Nat.mul_le_mul (by omega) hNl
  simp only [List.length_nil] at h1
  unfold aheadM; omega
theorem GoodO.keys {M : GM} (h : GoodO [] M) : keysM M = [] := by
  unfold keysM
  rw [List.filter_eq_nil_iff]
  intro k _
  have : atM k M = ([], []) := by
    rcases at_mem (M := M) (k := k) with e | e
    · exact e
    · have h1 := h.park _ e
      have h2 : (atM k M).1 = [] := by
        rw [List.eq_nil_iff_forall_not_mem]
        intro c hc
        obtain ⟨_, hx, _⟩ := h.mem _ e c hc
        simp at hx
      exact Prod.ext h2 h1
  rw [this]; simp
theorem and1023 (x : Int) : 0 ≤ bitsOf .and .i64 x 1023 ∧ bitsOf .and .i64 x 1023 ≤ 1023 := by
  unfold bitsOf
  have h : ((BitVec.ofInt IntKind.i64.bits x &&& BitVec.ofInt IntKind.i64.bits 1023).toNat) ≤ 1023 := by
    rw [BitVec.toNat_and]
    exact Nat.le_trans Nat.and_le_right (by decide)
  simp only
  rw [wrap64 (by omega) (by omega)]
  omega

/-! ### the walk -/
abbrev KX := List UInt8
section
variable {B : World} {Γ Δ : List HProp} {q : Bool → K} {KL : List (List KX × Sl)} {keys leaves : Sl} {LV : List Int}
theorem empty_sl {E esz : Nat} {k : K} {b : Nat} (h : HG B (SlC E esz ⟨some ⟨b, 0, none⟩, 0, 0⟩ [] :: Γ) k) : HG B (blk b (.cells ([] : List Value).toArray E (0, 0)) :: Γ) k :=
  s_conv (blk_SlC (vs := []) rfl (by simp)) h
/-- Those that leave. -/
theorem ord_b6 {l st : Nat} {M : GM} {dm : DM} {H : List Nat} {here : Sl} {X3 : Sl → Int → K} (hlv : ∀ w, Holds B Γ w → RdC w leaves 1 (LV.map (Value.int .i64))) (hLl : LV.length ≤ 30) (hHl : H.length ≤ 40) (hHb : ∀ x ∈ H, x < 100) (hs : H.Pairwise (· < ·)) (hg : GoodO H M) (hz : gsz M 2000) (h : HG B Γ (q true)) :
    HG B (SlC ty_uint64 1 here (H.map fun x : Nat => Value.int .u64 x) :: LocksR l M dm :: Γ) (LoopK (α := Sl × Int) (fun X x => law16_LocksOrdered.b6 q X3 (fun here8_6 n14_6 => X (here8_6, n14_6)) leaves (some ⟨l, 0, none⟩) x.1 x.2) (here, 0)) := by
  refine s_loop (α := Sl × Int) (ι := List Nat × GM × DM × Nat) (fun x i => x.2 = (i.2.2.2 : Int) ∧ i.2.2.2 + i.1.length ≤ 40 ∧ (∀ x ∈ i.1, x < 100) ∧ i.1.Pairwise (· < ·) ∧ GoodO i.1 i.2.1 ∧ gsz i.2.1 2000)
    (fun x i => SlC ty_uint64 1 x.1 (i.1.map fun x : Nat => Value.int .u64 x) :: LocksR l i.2.1 i.2.2.1 :: Γ) (fun x i => i.1.length) (H, M, dm, 0) ⟨rfl, by simpa using hHl, hHb, hs, hg, hz⟩ ?_
  clear hg hz hs hHb hHl
  rintro k' ⟨here, _⟩ ⟨H, M, dm, n⟩ ⟨rfl, hHl, hHb, hs, hg, hz⟩ hk'
  simp only at hHl hHb hs hg hz hk' ⊢
  unfold law16_LocksOrdered.b6
  refine s_cap here fun a1 a2 a3 a4 => ?_
  rw [List.length_map, Nat.mul_one] at a1
  refine s_ite (fun hb => ?_) fun hb => ?_
  rotate_left
  · have hH : H = [] := List.length_eq_zero_iff.1 (by simp only [decide_eq_false_iff_not] at hb; omega)
    subst hH
    refine s_own l ?_
    refine keys_hg hz (by omega) fun ks => ?_
    rw [hg.keys]
    refine s_cap ks fun b1 b2 b3 b4 => ?_
    simp only [List.map_nil, List.length_nil] at b1
    rw [show decide ((ks.n : Int) = 0) = true by simp; omega]
    exact s_end h
  obtain ⟨x0, H', rfl⟩ : ∃ x0 H', H = x0 :: H' := by
    cases H with
    | nil => simp only [List.length_nil] at a1; simp only [decide_eq_true_eq] at hb; omega
    | cons x H => exact ⟨x, H, rfl⟩
  refine s_idx1 (L := (x0 :: H').map fun x : Nat => (x : Int)) (j := 0) (fun w hw => by have := (own_rd (s := here) hw).1; simpa [Function.comp_def] using this) rfl ?_ rfl
  refine tag16_hg ?_
  refine s_own l ?_
  refine ready_hg hz (by omega) ?_
  rw [hg.ready hs]
  refine s_f ?_
  have hpos : 0 < (x0 :: H').length := by simp
  generalize hH : x0 :: H' = H at *
  -- every one that is here
  refine s_loop (α := Int) (ι := Nat) (fun x i => x = (i : Int) ∧ i ≤ H.length) (fun x i => SlC ty_uint64 1 here (H.map fun x : Nat => Value.int .u64 x) :: LocksR l M dm :: Γ) (fun x i => H.length - i) 0 ⟨rfl, Nat.zero_le _⟩ ?_ |> fun h => s_end h
  rintro k2 _ i ⟨rfl, hi⟩ hk2
  unfold law16_LocksOrdered.b7
  refine s_ite (fun hb2 => ?_) fun hb2 => ?_
  · have hil : i < H.length := by simp only [decide_eq_true_eq] at hb2; omega
    have hge : (H.map fun x : Nat => (x : Int))[i]? = some (H[i] : Int) := by rw [List.getElem?_map, List.getElem?_eq_getElem hil]; rfl
    generalize H[i] = x at hge
    refine s_idx1 (fun w hw => by have := (own_rd (s := here) hw).1; simpa [Function.comp_def] using this) hge ?_
    refine tag16_hg ?_
    refine s_own l ?_
    refine ahead_hg hz (by omega) fun a => ?_
    refine s_cap a fun b1 b2 b3 b4 => ?_
    rw [flatMap_len _ 4 tagF_len] at b1
    have hlt := hg.ahead x
    have hal := ahead_len (tag := tg (x : Int)) hz (by omega)
    generalize aheadM (tg (x : Int)) M = AL at *
    refine s_loop (α := Int) (ι := Nat) (fun y i => y = (i : Int) ∧ i ≤ AL.length) (fun y i => SlC ty_api_Tag 4 a (AL.flatMap tagF) :: LocksR l M dm :: SlC ty_uint64 1 here (H.map fun x : Nat => Value.int .u64 x) :: Γ) (fun y i => AL.length - i) 0 ⟨rfl, Nat.zero_le _⟩ ?_
    rintro k3 _ j ⟨rfl, hj⟩ hk3
    unfold law16_LocksOrdered.b8
    refine s_ite (fun hb3 => ?_) fun hb3 => ?_
    · have hjl : j < AL.length := by simp only [decide_eq_true_eq] at hb3; omega
      have hge2 : AL[j]? = some AL[j] := List.getElem?_eq_getElem hjl
      have hm := hlt AL[j] (List.getElem_mem hjl)
      generalize AL[j] = t at hge2 hm
      refine s_idxN tagF tagF_len (fun w hw => (own_rd (s := a) hw).1) hge2 ?_
      refine s_new fun a18 => ?_
      repeat refine s_nx ?_
      refine s_f ?_ (by simp; omega)
      refine s_ai ?_
      refine s_end (hk3 _ (j + 1) ⟨by simp, hjl⟩ (by omega))
    · refine s_ai ?_
      refine s_end (hk2 _ (i + 1) ⟨by simp, hil⟩ (by omega))
  · -- one leaves
    have leave : ∀ a : Nat, a < H.length → HG B (SlC ty_uint64 1 here (H.map fun x : Nat => Value.int .u64 x) :: LocksR l M dm :: Γ) (law16_LocksOrdered.s9 q X3 (fun here8_6 n14_6 => k' (here8_6, n14_6)) k2 leaves (some ⟨l, 0, none⟩) here (n : Int) (a : Int)) := fun a ha => by
      obtain ⟨A, x, C, rfl, hAl, hCl⟩ := Bt.split_at (L := H) (a := a) (c := H.length - a - 1) (by omega)
      have hlen : (A ++ x :: C).length = A.length + (C.length + 1) := List.length_append
      subst hAl
      unfold law16_LocksOrdered.s9
      refine s_idx1 (L := (A ++ x :: C).map fun x : Nat => (x : Int)) (j := A.length) (x := (x : Int)) (fun w hw => by have := (own_rd (s := here) hw).1; simpa [Function.comp_def] using this) (by simp) ?_ rfl
      refine tag16_hg ?_
      refine s_own l ?_
      refine leave_hg hz (by omega) ?_
      refine s_dr ?_
      refine s_slc (lo := 0) (hi := A.length) (mx := A.length) ?_
      refine s_ai ?_
      refine s_slc (lo := A.length + 1) (hi := here.n) (mx := here.c) ?_
      refine s_cutApp (s := here) (i := A.length) (j := A.length + 1) (by omega) (by omega) (by omega) (fun v hv => by obtain ⟨y, _, rfl⟩ := List.mem_map.1 hv; rfl) fun h2 _ => ?_
      rw [show ((A ++ x :: C).map fun x : Nat => Value.int .u64 x).take (A.length * 1) ++ ((A ++ x :: C).map fun x : Nat => Value.int .u64 x).drop ((A.length + 1) * 1) = (A ++ C).map fun x : Nat => Value.int .u64 x by
        rw [Nat.mul_one, Nat.mul_one, ← List.map_take, ← List.map_drop, ← List.map_append, List.take_left, show A ++ x :: C = (A ++ [x]) ++ C by simp, List.drop_left' (by simp)]]
      refine s_ai ?_
      refine s_end (hk' (h2, (n : Int) + 1) (A ++ C, (leaveM (tg (x : Int)) (M, dm)).1, (leaveM (tg (x : Int)) (M, dm)).2, n + 1) ⟨by simp, ?_, fun y hy => ?_, ?_, hg.leave, gsz_leave (x := (M, dm)) hz⟩ ?_)
      · simp only [List.length_append]; omega
      · refine hHb y ?_
        rcases List.mem_append.1 hy with hy | hy
        · exact List.mem_append_left _ hy
        · exact List.mem_append_right _ (List.mem_cons_of_mem _ hy)
      · exact List.Pairwise.sublist ((List.Sublist.refl A).append (List.sublist_cons_self _ _)) hs
      · simp only [List.length_append, List.length_cons]; omega
    refine s_ite (fun hb3 => ?_) fun hb3 => ?_
    · refine fun w hw => ?_
      have hr := hlv w hw.drops
      have hln : leaves.n = LV.length := by have := hr.len; simpa using this.symm
      have hnl : n < LV.length := by simp only [decide_eq_true_eq] at hb3; omega
      refine Sep.hg hw (s_idx1 (j := n) (x := LV[n]) (fun w hw => hlv w hw.drops) (List.getElem?_eq_getElem hnl) ?_ rfl)
      obtain ⟨c1, c2⟩ := and1023 LV[n]
      refine s_ar rfl ?_
      refine s_cd (by omega) ?_
      have hm : ∃ a : Nat, Int.tmod (bitsOf .and .i64 LV[n] 1023) (here.n : Int) = (a : Int) ∧ a < H.length := by
        rw [Int.tmod_eq_emod_of_nonneg c1]
        have h1 := Int.emod_nonneg (bitsOf .and .i64 LV[n] 1023) (show (here.n : Int) ≠ 0 by omega)
        have h2 := Int.emod_lt_of_pos (bitsOf .and .i64 LV[n] 1023) (show 0 < (here.n : Int) by omega)
        exact ⟨(bitsOf .and .i64 LV[n] 1023 % (here.n : Int)).toNat, by omega, by omega⟩
      obtain ⟨a, ha, hal⟩ := hm
      refine s_ar ha ?_
      exact leave a hal
    · exact leave 0 (by omega)
/-- All enter. -/
theorem ord_b3 {l st : Nat} {here : Sl} (hkl : KL.length ≤ 30) (hLl : LV.length ≤ 30) (hK : ∀ w, Holds B Γ w → RdC w keys 1 (KL.map fun x => x.2.val)) (hKs : ∀ x ∈ KL, ∀ w, Holds B Γ w → RdC w x.2 1 (x.1.map strV)) (hlv : ∀ w, Holds B Γ w → RdC w leaves 1 (LV.map (Value.int .i64))) (h : HG B Γ (q true)) :
    HG B (SlC ty_uint64 1 here (([] : List Nat).map fun x : Nat => Value.int .u64 x) :: LocksR l [] (fun _ => false) :: StoreR st 1 [] :: Γ) (LoopK (α := Sl × Int) (fun X x => law16_LocksOrdered.b3 q (fun here8_3 t44_3 => X (here8_3, t44_3)) leaves (some ⟨st, 0, none⟩) (some ⟨l, 0, none⟩) keys (keys.n : Int) x.1 x.2) (here, 0)) := by
  refine s_loop (α := Sl × Int) (ι := Nat × GM × DM) (fun x i => x.2 = (i.1 : Int) ∧ i.1 ≤ KL.length ∧ GoodO (List.range i.1) i.2.1 ∧ gsz i.2.1 (i.1 * 20))
    (fun x i => SlC ty_uint64 1 x.1 ((List.range i.1).map fun x : Nat => Value.int .u64 x) :: LocksR l i.2.1 i.2.2 :: StoreR st 1 [] :: Γ) (fun x i => KL.length - i.1) (0, [], fun _ => false) ⟨rfl, Nat.zero_le _, GoodO.nil, by simp, by simp⟩ ?_
  rintro k' ⟨here, _⟩ ⟨i, M, dm⟩ ⟨rfl, hi, hg, hz⟩ hk'
  simp only at hi hg hz hk' ⊢
  unfold law16_LocksOrdered.b3
  refine fun w hw => ?_
  have hkn : keys.n = KL.length := by have := (hK w hw.drops).len; simpa using this.symm
  refine Sep.hg hw ?_
  clear hw w
  refine s_ite (fun hb => ?_) fun hb => ?_
  · have hil : i < KL.length := by simp only [decide_eq_true_eq] at hb; omega
    have hge : KL[i]? = some KL[i] := List.getElem?_eq_getElem hil
    have hmem : KL[i] ∈ KL := List.getElem_mem hil
    generalize KL[i] = x at hge hmem
    obtain ⟨ks, ksl⟩ := x
    refine s_idx1 (c := Sl.val) (L := KL.map fun x => x.2) (x := ksl) (j := i) (fun w hw => by have := hK w hw.drops; simpa [Function.comp_def] using this) (by rw [List.getElem?_map, hge]; rfl) ?_ rfl
    refine s_new fun t49 => ?_
    refine fun w hw => ?_
    have hksn : ksl.n = ks.length := by have := (hKs _ hmem w hw.drops).len; simpa using this.symm
    refine Sep.hg hw ?_
    clear hw w
    refine empty_sl (esz := 3) ?_
    refine s_loop (α := Sl × Int) (ι := Nat) (fun x j => x.2 = (j : Int) ∧ j ≤ ks.length ∧ (j = 0 ∨ ks.length ≤ 20) ∧ ∀ y ∈ ks.take j, y.length ≤ 100)
      (fun x j => SlC ty_api_Mark 3 x.1 (((ks.take j).map fun k => (⟨k, 0, 0⟩ : MarkM)).flatMap markF) :: SlC ty_uint64 1 here ((List.range i).map fun x : Nat => Value.int .u64 x) :: LocksR l M dm :: StoreR st 1 [] :: Γ) (fun x j => ks.length - j) 0 ⟨rfl, Nat.zero_le _, .inl rfl, by simp⟩ ?_
    rintro k2 ⟨ms, _⟩ j ⟨rfl, hj, hj20, hjk⟩ hk2
    simp only at hj hj20 hjk hk2 ⊢
    unfold law16_LocksOrdered.b4
    refine s_cap ms fun d1 d2 d3 d4 => ?_
    rw [flatMap_len _ 3 markF_len, List.length_map, List.length_take, Nat.min_eq_left hj] at d1
    refine s_ite (fun hb2 => ?_) fun hb2 => ?_
    · have hjl : j < ks.length := by simp only [decide_eq_true_eq] at hb2; omega
      have hge2 : ks[j]? = some ks[j] := List.getElem?_eq_getElem hjl
      have htk : ks.take (j + 1) = ks.take j ++ [ks[j]] := List.take_succ_eq_append_getElem hjl
      generalize ks[j] = kk at hge2 htk
      refine s_idxS (L := ks) (fun w hw => hKs _ hmem w hw.drops) hge2 ?_
      have out : HG B (SlC ty_api_Mark 3 ms (((ks.take j).map fun k => (⟨k, 0, 0⟩ : MarkM)).flatMap markF) :: SlC ty_uint64 1 here ((List.range i).map fun x : Nat => Value.int .u64 x) :: LocksR l M dm :: StoreR st 1 [] :: Γ) (law16_LocksOrdered.s5 q (fun here8_3 t44_3 => k' (here8_3, t44_3)) (fun marks11_4 t52_4 => k2 (marks11_4, t52_4)) leaves (some ⟨st, 0, none⟩) (some ⟨l, 0, none⟩) here (i : Int) ksl ms (bs kk) keys (keys.n : Int) (i : Int) ksl (ksl.n : Int) (j : Int) true) := by
        unfold law16_LocksOrdered.s5
        repeat refine s_nx ?_
        exact s_end h
      have hsz : (bs kk).size = kk.length := rfl
      refine s_ite (fun hb3 => out) fun hb3 => ?_
      by_cases hb4 : 20 < ksl.n
      · rw [show decide ((20 : Int) < (ksl.n : Int)) = true by simp; omega]
        exact out
      rw [show decide ((20 : Int) < (ksl.n : Int)) = false by simp; omega]
      unfold law16_LocksOrdered.s5
      repeat refine s_nx ?_
      refine s_new fun t67 => ?_
      refine s_append (s := ms) (esz := 3) (us := markF ⟨kk, 0, 0⟩) (blk_rd rfl) (by simp [flatV]) (by simp only; omega) fun ms' _ => ?_
      rw [show ((ks.take j).map fun k => (⟨k, 0, 0⟩ : MarkM)).flatMap markF ++ markF ⟨kk, 0, 0⟩ = ((ks.take (j + 1)).map fun k => (⟨k, 0, 0⟩ : MarkM)).flatMap markF by rw [htk]; simp only [List.map_append, List.flatMap_append, List.map_cons, List.map_nil, List.flatMap_cons, List.flatMap_nil, List.append_nil]]
      refine s_ai ?_
      refine s_end (hk2 (ms', (j : Int) + 1) (j + 1) ⟨by simp, hjl, .inr (by omega), fun y hy => ?_⟩ (by omega))
      rw [htk] at hy
      rcases List.mem_append.1 hy with hy | hy
      · exact hjk y hy
      · rw [List.mem_singleton.1 hy]
        simp only [decide_eq_false_iff_not] at hb3; omega
    · have hjl : j = ks.length := by simp only [decide_eq_false_iff_not] at hb2; omega
      rw [hjl, List.take_length] at hjk
      rw [hjl, List.take_length]
      have h20 : ks.length ≤ 20 := by omega
      refine s_ar (e' := (i : Int)) (by rw [wrapU64 (by omega) (by omega)]) ?_
      refine tag16_hg ?_
      refine s_own st ?_
      refine s_own l ?_
      have hgi : GoodO (List.range i ++ [i]) (enterM 1 [] (tg (i : Int)) (ks.map fun k => ⟨k, 0, 0⟩) (M, dm)).1 := GoodO.enters (fun x hx => by simpa using hx) ks (hg.mono fun x hx => List.mem_append_left _ hx)
      have hzi := gsz_enters (n := 1) (S := []) (tag := tg (i : Int)) (ks.map fun k => ⟨k, 0, 0⟩) (x := (M, dm)) hz
      rw [List.length_map] at hzi
      refine enter_hg (L := ks.map fun k => ⟨k, 0, 0⟩) (fun w hw => (own_rd (s := ms) hw).1) (fun m hm => ?_) hz (by rw [List.length_map]; omega) ?_
      · obtain ⟨y, hy, rfl⟩ := List.mem_map.1 hm
        have := hjk y hy; simp only; omega
      refine s_ar (e' := (i : Int)) (by rw [wrapU64 (by omega) (by omega)]) ?_
      refine s_new fun t80 => ?_
      refine s_cap here fun c1 c2 c3 c4 => ?_
      rw [List.length_map, List.length_range] at c1
      refine s_append (s := here) (esz := 1) (us := [Value.int .u64 (i : Int)]) (blk_rd rfl) (by simp [flatV]) (by simp only; omega) fun here' _ => ?_
      rw [show ((List.range i).map fun x : Nat => Value.int .u64 x) ++ [Value.int .u64 (i : Int)] = (List.range (i + 1)).map fun x : Nat => Value.int .u64 x by rw [List.range_succ]; simp]
      refine s_ai ?_
      refine s_end (hk' (here', (i : Int) + 1) (i + 1, (enterM 1 [] (tg (i : Int)) (ks.map fun k => ⟨k, 0, 0⟩) (M, dm)).1, (enterM 1 [] (tg (i : Int)) (ks.map fun k => ⟨k, 0, 0⟩) (M, dm)).2) ⟨by simp, hil, ?_, gsz_le hzi (by rw [Nat.add_mul]; omega)⟩ (by simp only; omega))
      simp only
      rw [List.range_succ]; exact hgi
  · refine s_end (ord_b6 (st := st) (M := M) (dm := dm) (H := List.range i) hlv hLl (by simp; omega) (fun x hx => by simp at hx; omega) List.pairwise_lt_range hg (gsz_le hz (by omega)) h)
theorem LocksOrdered_hg (hK : ∀ w, Holds B Γ w → RdC w keys 1 (KL.map fun x => x.2.val)) (hKs : ∀ x ∈ KL, ∀ w, Holds B Γ w → RdC w x.2 1 (x.1.map strV)) (hlv : ∀ w, Holds B Γ w → RdC w leaves 1 (LV.map (Value.int .i64))) (h : HG B Γ (q true)) : HG B Γ (law16_LocksOrdered.call keys leaves q) := fun w hw => by
  refine law16_LocksOrdered_ok _ _ _ _ ?_
  have hkn : keys.n = KL.length := by have := (hK w hw).len; simpa using this.symm
  have hln : leaves.n = LV.length := by have := (hlv w hw).len; simpa using this.symm
  refine Sep.hg hw ?_
  clear hw w
  unfold law16_LocksOrdered
  refine speaks16 ?_
  repeat refine s_nx ?_
  have out : HG B Γ (law16_LocksOrdered.s1 q keys leaves true) := by
    unfold law16_LocksOrdered.s1
    exact s_t h
  refine s_ite (fun hb => out) fun hb => ?_
  by_cases hl : 30 < leaves.n
  · rw [show decide ((30 : Int) < (leaves.n : Int)) = true by simp; omega]
    exact out
  rw [show decide ((30 : Int) < (leaves.n : Int)) = false by simp; omega]
  unfold law16_LocksOrdered.s1
  repeat refine s_nx ?_
  refine storeNew_spec (n := 1) (by omega) (by omega) fun st => ?_
  refine locksNew_hg fun l => ?_
  repeat refine s_nx ?_
  unfold law16_LocksOrdered.s2
  repeat refine s_nx ?_
  refine s_new fun t41 => ?_
  refine empty_sl (esz := 1) ?_
  refine s_own st ?_
  refine s_own l ?_
  refine s_ownS ⟨some ⟨t41, 0, none⟩, 0, 0⟩ ?_
  exact ord_b3 (by simp only [decide_eq_false_iff_not] at hb; omega) (by omega) (fun w hw => hK w hw) (fun x hx w hw => hKs x hx w hw) (fun w hw => hlv w hw) h
end
end Go.Proofs.Ytfjjocopmknhgaa

namespace Go.Proofs.Ytfjjocopmknhgaa
open Go Go.Sep Go.RowKit
theorem fm1 {α β : Type} (f : α → β) (L : List α) : L.flatMap (fun x => [f x]) = L.map f := by induction L <;> simp_all
theorem rdy_keys {W : World} {s : Sl} (y0 : Rdy W Sh_ty_s_s_string (Sl.val s).cells.toList) : ∃ KL : List (List KX × Sl), RdC W s 1 (KL.map fun x => x.2.val) ∧ ∀ x ∈ KL, RdC W x.2 1 (x.1.map strV) := by
  obtain ⟨h1, h2⟩ := rdy_sl y0
  obtain ⟨L, _, hL, hd⟩ := rd_list (fun x : List KX × Sl => [x.2.val]) (fun x => RdC W x.2 1 (x.1.map strV)) (fun _ => rfl) h1 h2 fun cs hc hr => by
    obtain ⟨s', rfl, _, _, g1, g2⟩ := hr
    obtain ⟨L, _, hL, _⟩ := rd_list (fun x : KX => [strV x]) (fun _ => True) (fun _ => rfl) g1 g2 fun cs hc hr => by
      obtain ⟨b, rfl, _⟩ := hr
      obtain ⟨x, rfl⟩ := bs_of b
      exact ⟨x, rfl, trivial⟩
    exact ⟨(L, s'), rfl, by rw [fm1] at hL; exact hL⟩
  exact ⟨L, by rw [fm1 (fun x : List KX × Sl => x.2.val)] at hL; exact hL, hd⟩
theorem LocksOrdered_walk (W : World) (s : Sl) (y0 : Rdy W Sh_ty_s_s_string (Sl.val s).cells.toList) (v : Sl) (y1 : Rdy W Sh_ty_s_int (Sl.val v).cells.toList) :
    Calls Try.prog 9 #[s.val, v.val] W (Ret fun v w' => v = .bool true ∧ Below W.heap.size W w') := by
  obtain ⟨KL, hK, hKs⟩ := rdy_keys y0
  obtain ⟨LV, hlv, _⟩ := rdy_ints y1
  exact law_call (LocksOrdered_hg (Γ := []) (fun w hw => hK.old hw) (fun x hx w hw => (hKs x hx).old hw) (fun w hw => hlv.old hw) (fun w h => ⟨rfl, h⟩) W (Holds.start W))
end Go.Proofs.Ytfjjocopmknhgaa
/- Plain forms of functions, and that their code comes to them (package law16_LocksParked). -/
namespace Go.Proofs.Ytfjjocopmknhgaa
open Go Go.Sep
set_option linter.unusedVariables false
set_option linter.unusedSimpArgs false
set_option maxRecDepth 100000
set_option maxHeartbeats 4000000
attribute [local irreducible] G Gp Cx Tx Ex Sx Dx Ox Ax Lx Rx Fx Bx Bj Al Do Ld LdN St StN New CallF Ar DoU Rd Rd2 Pu Cd Ite Fv CallV CallY Ans0 Ans1 Ans2 Ans3 Ans4 Ans5 Ext Dead Dr WithS Sv LdS LdNS RdS Rd2S Nn Idx IdxA IdxS Fld Bld Slc SlcS Cat All LoopK RangeF RangeJ TakeD
namespace F_IRLaw16LocksParked
instance at_58 : AT Try.prog 58 4 := ⟨by kernel_rfl⟩
instance cb_13 : CB Try.prog 13 := ⟨by kernel_rfl⟩
instance cb_15 : CB Try.prog 15 := ⟨by kernel_rfl⟩
instance cb_42 : CB Try.prog 42 := ⟨by kernel_rfl⟩
instance cb_43 : CB Try.prog 43 := ⟨by kernel_rfl⟩
instance cb_44 : CB Try.prog 44 := ⟨by kernel_rfl⟩
instance cb_45 : CB Try.prog 45 := ⟨by kernel_rfl⟩
instance cb_48 : CB Try.prog 48 := ⟨by kernel_rfl⟩
instance cb_49 : CB Try.prog 49 := ⟨by kernel_rfl⟩
instance cb_50 : CB Try.prog 50 := ⟨by kernel_rfl⟩
instance cb_51 : CB Try.prog 51 := ⟨by kernel_rfl⟩
instance cb_52 : CB Try.prog 52 := ⟨by kernel_rfl⟩
instance ct_34 : CT Try.prog 34 := ⟨by kernel_rfl⟩
instance ft_56_2 : FT Try.prog 56 2 2 1 := ⟨by kernel_rfl⟩
instance ft_58_0 : FT Try.prog 58 0 0 3 := ⟨by kernel_rfl⟩
instance in_3 : INT Try.prog 3 .i64 := ⟨by kernel_rfl⟩
instance in_34 : INT Try.prog 34 .u64 := ⟨by kernel_rfl⟩
instance mx : MX Try.prog := ⟨mixed⟩
instance pl_39 : PLT Try.prog 39 [(0, 1), (1, 1), (2, 1)] := ⟨_, Try.underlying39, by kernel_rfl⟩
instance sl_101 : SLT Try.prog 101 58 4 := ⟨by kernel_rfl⟩
instance sl_29 : SLT Try.prog 29 39 3 := ⟨by kernel_rfl⟩
instance sl_47 : SLT Try.prog 47 9 1 := ⟨by kernel_rfl⟩
instance sl_97 : SLT Try.prog 97 34 1 := ⟨by kernel_rfl⟩
instance sz_58 : SZ Try.prog 58 4 := ⟨by kernel_rfl⟩
instance un_25 : UN Try.prog 25 (.pointer 112) := ⟨Try.underlying25⟩
instance un_4 : UN Try.prog 4 .bool := ⟨Try.underlying4⟩
instance un_95 : UN Try.prog 95 (.pointer 145) := ⟨Try.underlying95⟩
instance zt_39 : ZT Try.prog 39 (.agg #[(.string ⟨#[]⟩), (.int .i64 0), (.int .u64 0)]) := ⟨Try.t39, by kernel_rfl, by kernel_rfl⟩
instance zt_58 : ZT Try.prog 58 (.agg #[(.int .i64 0), (.int .u64 0), (.int .u64 0), (.int .i64 0)]) := ⟨Try.t58, by kernel_rfl, by kernel_rfl⟩
end F_IRLaw16LocksParked
def law16_LocksParked.s5 (Q : Bool → K) (X2 : Int → K) (X3 : Int → K) (X4 : Int → Int → K) (counts0_5 : Sl) (s5_5 : (Option Addr)) (l7_5 : (Option Addr)) (k10_5 : Int) (last11_5 : Int) (t55_5 : Sl) (t56_5 : Int) (t57_5 : Int) : K :=
  Ar (IntKind.wrap .i64 (t57_5 + 1)) fun t86 =>
  X4 last11_5 t86
def law16_LocksParked.s6 (Q : Bool → K) (X2 : Int → K) (X3 : Int → K) (X4 : Int → Int → K) (counts0_6 : Sl) (s5_6 : (Option Addr)) (l7_6 : (Option Addr)) (k10_6 : Int) (last11_6 : Int) (t13_6 : Addr) (t55_6 : Sl) (t56_6 : Int) (t57_6 : Int) (t75_6 : Bool) : K :=
  Ite t75_6
    (Ld (t13_6.add 2) (Value.int .u64) fun t78 =>
    Ar (IntKind.wrap .i64 t78) fun t79 =>
    Ite (decide (t79 ≤ last11_6))
      (Q false)
      (Ld (t13_6.add 2) (Value.int .u64) fun t84 =>
      Ar (IntKind.wrap .i64 t84) fun t85 =>
      law16_LocksParked.s5 Q X2 X3 X4 counts0_6 s5_6 l7_6 k10_6 t85 t55_6 t56_6 t57_6))
    (law16_LocksParked.s5 Q X2 X3 X4 counts0_6 s5_6 l7_6 k10_6 last11_6 t55_6 t56_6 t57_6)
def law16_LocksParked.b7 (Q : Bool → K) (X2 : Int → K) (X3 : Int → K) (X4 : Int → Int → K) (X7 : Int → K) (counts0_7 : Sl) (s5_7 : (Option Addr)) (l7_7 : (Option Addr)) (k10_7 : Int) (t87_7 : Sl) (t88_7 : Int) (t89_7 : Int) : K :=
  Ite (decide (t89_7 < t88_7))
    (Idx t87_7 t89_7 1 fun t92 =>
    Ld t92 (Value.int .u64) fun t93 =>
    Ar (IntKind.wrap .u64 t89_7) fun t96 =>
    law16_tag.call t96 fun t97 =>
    locks_Locks_Doomed.call l7_7 t97 fun t98 =>
    Ar (IntKind.wrap .u64 k10_7) fun t101 =>
    Ite (!(t98 == (decide (t93 < t101))))
      (Q false)
      (Ar (IntKind.wrap .i64 (t89_7 + 1)) fun t104 =>
      X7 t104))
    (store_Store_Move.call s5_7 ⟨#[107]⟩ 0 fun t106 =>
    Ite (decide (t106 ≠ 0))
      (Q false)
      (locks_Locks_Moved.call l7_7 s5_7 ⟨#[107]⟩ <|
      Ar (IntKind.wrap .i64 (k10_7 + 1)) fun t53 =>
      X3 t53))
def law16_LocksParked.b4 (Q : Bool → K) (X2 : Int → K) (X3 : Int → K) (X4 : Int → Int → K) (counts0_4 : Sl) (s5_4 : (Option Addr)) (l7_4 : (Option Addr)) (k10_4 : Int) (t55_4 : Sl) (t56_4 : Int) (last11_4 : Int) (t57_4 : Int) : K :=
  Ite (decide (t57_4 < t56_4))
    (Idx t55_4 t57_4 4 fun t59 =>
    LdN t59 4 fun t60 =>
    New 58 #[(.int .i64 0), (.int .u64 0), (.int .u64 0), (.int .i64 0)] fun t13 =>
    StN t13 4 t60 <|
    Ld (t13.add 2) (Value.int .u64) fun t64 =>
    Idx counts0_4 t64 1 fun t65 =>
    Ld t65 (Value.int .u64) fun t66 =>
    Ar (IntKind.wrap .u64 k10_4) fun t68 =>
    Ite (decide (t66 = t68))
      (LdN t13 4 fun t72 =>
      locks_Locks_Doomed.call l7_4 t72 fun t73 =>
      law16_LocksParked.s6 Q X2 X3 X4 counts0_4 s5_4 l7_4 k10_4 last11_4 t13 t55_4 t56_4 t57_4 (!t73))
      (law16_LocksParked.s6 Q X2 X3 X4 counts0_4 s5_4 l7_4 k10_4 last11_4 t13 t55_4 t56_4 t57_4 false))
    (LoopK (α := Int) (fun X x => law16_LocksParked.b7 Q X2 X3 X4 X counts0_4 s5_4 l7_4 k10_4 counts0_4 (counts0_4.n : Int) x) 0)
def law16_LocksParked.s9 (Q : Bool → K) (X2 : Int → K) (X3 : Int → K) (X8 : Int → K) (t4_9 : Bool) : K :=
  Q t4_9
def law16_LocksParked.b8 (Q : Bool → K) (X2 : Int → K) (X3 : Int → K) (X8 : Int → K) (l7_8 : (Option Addr)) (t112_8 : Int) (t113_8 : Int) : K :=
  Ite (decide (t113_8 < t112_8))
    (Ar (IntKind.wrap .u64 t113_8) fun t118 =>
    law16_tag.call t118 fun t119 =>
    locks_Locks_Leave.call l7_8 t119 <|
    Ar (IntKind.wrap .i64 (t113_8 + 1)) fun t121 =>
    X8 t121)
    (locks_Locks_Keys.call l7_8 fun t123 =>
    Ite (decide ((t123.n : Int) = 0))
      (law16_tag.call 0 fun t128 =>
      locks_Locks_Doomed.call l7_8 t128 fun t129 =>
      law16_LocksParked.s9 Q X2 X3 X8 (!t129))
      (law16_LocksParked.s9 Q X2 X3 X8 false))
def law16_LocksParked.b3 (Q : Bool → K) (X2 : Int → K) (X3 : Int → K) (counts0_3 : Sl) (s5_3 : (Option Addr)) (l7_3 : (Option Addr)) (k10_3 : Int) : K :=
  Ite (decide (k10_3 < 6))
    (locks_Locks_Queue.call l7_3 ⟨#[107]⟩ fun t55 =>
    LoopK (α := Int × Int) (fun X x => law16_LocksParked.b4 Q X2 X3 (fun last11_4 t57_4 => X (last11_4, t57_4)) counts0_3 s5_3 l7_3 k10_3 t55 (t55.n : Int) x.1 x.2) ((-1), 0))
    (LoopK (α := Int) (fun X x => law16_LocksParked.b8 Q X2 X3 X l7_3 (counts0_3.n : Int) x) 0)
def law16_LocksParked.b2 (Q : Bool → K)  (X2 : Int → K) (counts0_2 : Sl) (s5_2 : (Option Addr)) (l7_2 : (Option Addr)) (t33_2 : Sl) (t34_2 : Int) (t35_2 : Int) : K :=
  Ite (decide (t35_2 < t34_2))
    (Idx t33_2 t35_2 1 fun t38 =>
    Ld t38 (Value.int .u64) fun t39 =>
    Ar (IntKind.wrap .u64 t35_2) fun t43 =>
    law16_tag.call t43 fun t44 =>
    Bld #[(.string ⟨#[]⟩), (.int .i64 0), (.int .u64 0)] (fun i => some (i * 3, 3)) [(0, (.agg #[(.string ⟨#[107]⟩), (.int .i64 0), (.int .u64 t39)]))] fun ct47 =>
    New 39 ct47 fun t47 =>
    locks_Locks_Enter.call l7_2 s5_2 t44 (Sl.mk (some t47) 1 1) <|
    Ar (IntKind.wrap .i64 (t35_2 + 1)) fun t49 =>
    X2 t49)
    (LoopK (α := Int) (fun X x => law16_LocksParked.b3 Q X2 X counts0_2 s5_2 l7_2 x) 0)
def law16_LocksParked.s1 (Q : Bool → K)  (counts0_1 : Sl) (s5_1 : (Option Addr)) (l7_1 : (Option Addr)) (t32_1 : Bool) : K :=
  Ite t32_1
    (Q false)
    (LoopK (α := Int) (fun X x => law16_LocksParked.b2 Q X counts0_1 s5_1 l7_1 counts0_1 (counts0_1.n : Int) x) 0)
def law16_LocksParked (counts0 : Sl) (n1 : Int) (Q : Bool → K) : K :=
  law16_speaks.call  fun t17 =>
  Ite (!t17)
    (Q false)
    (Ite (decide ((20 : Int) < (counts0.n : Int)))
      (Q true)
      (store_New.call 1 fun t23x0 t23x1 =>
      locks_New.call  fun t26 =>
      Ite ((t23x0).isNone)
        (law16_LocksParked.s1 Q counts0 t23x0 t26 true)
        (law16_LocksParked.s1 Q counts0 t23x0 t26 ((t26).isNone))))
theorem law16_LocksParked_ok (counts0 : Sl) (n1 : Int) (Q : Bool → K) (w : World) (h : law16_LocksParked counts0 n1 Q w) : law16_LocksParked.call counts0 n1 Q w := by
  have hJ25 : ∀ (X2 : Int → K), XH 10 X2 → ∀ (X3 : Int → K), XH 15 X3 → ∀ (X4 : (Int × Int) → K), XH 19 X4 → JH 25 fun D => ∃ (counts0_5 : Sl) (s5_5 : (Option Addr)) (l7_5 : (Option Addr)) (k10_5 : Int) (t55_5 : Sl) (t56_5 : Int) (t57_5 : Int), D [(0, (Sl.val counts0_5)), (5, (.pointer s5_5)), (7, (.pointer l7_5)), (10, (.int .i64 k10_5)), (55, (Sl.val t55_5)), (56, (.int .i64 t56_5)), (57, (.int .i64 t57_5))] (fun C => ∀ (last11_5 : Int), C [(0, (Sl.val counts0_5)), (5, (.pointer s5_5)), (7, (.pointer l7_5)), (10, (.int .i64 k10_5)), (11, (.int .i64 last11_5)), (55, (Sl.val t55_5)), (56, (.int .i64 t56_5)), (57, (.int .i64 t57_5))] (law16_LocksParked.s5 Q X2 X3 (fun last11_4 t57_4 => X4 (last11_4, t57_4)) counts0_5 s5_5 l7_5 k10_5 last11_5 t55_5 t56_5 t57_5)) := by intros; exact ⟨fun _ ⟨_, _, _, _, _, _, _, h⟩ => ⟨_, _, h⟩⟩
  have hJ22 : ∀ (X2 : Int → K), XH 10 X2 → ∀ (X3 : Int → K), XH 15 X3 → ∀ (X4 : (Int × Int) → K), XH 19 X4 → JH 22 fun D => ∃ (counts0_6 : Sl) (s5_6 : (Option Addr)) (l7_6 : (Option Addr)) (k10_6 : Int) (last11_6 : Int) (t13_6 : Addr) (t55_6 : Sl) (t56_6 : Int) (t57_6 : Int), D [(0, (Sl.val counts0_6)), (5, (.pointer s5_6)), (7, (.pointer l7_6)), (10, (.int .i64 k10_6)), (11, (.int .i64 last11_6)), (13, (.pointer (some t13_6))), (55, (Sl.val t55_6)), (56, (.int .i64 t56_6)), (57, (.int .i64 t57_6))] (fun C => ∀ (t75_6 : Bool), C [(0, (Sl.val counts0_6)), (5, (.pointer s5_6)), (7, (.pointer l7_6)), (10, (.int .i64 k10_6)), (11, (.int .i64 last11_6)), (13, (.pointer (some t13_6))), (55, (Sl.val t55_6)), (56, (.int .i64 t56_6)), (57, (.int .i64 t57_6)), (75, (.bool t75_6))] (law16_LocksParked.s6 Q X2 X3 (fun last11_4 t57_4 => X4 (last11_4, t57_4)) counts0_6 s5_6 l7_6 k10_6 last11_6 t13_6 t55_6 t56_6 t57_6 t75_6)) := by intros; exact ⟨fun _ ⟨_, _, _, _, _, _, _, _, _, h⟩ => ⟨_, _, h⟩⟩
  have hL27 : ∀ (X2 : Int → K), XH 10 X2 → ∀ (X3 : Int → K), XH 15 X3 → ∀ (X4 : (Int × Int) → K), XH 19 X4 → ∀ (counts0_7 : Sl) (s5_7 : (Option Addr)) (l7_7 : (Option Addr)) (k10_7 : Int) (t87_7 : Sl) (t88_7 : Int), LH 27 (fun x : Int => [(0, (Sl.val counts0_7)), (5, (.pointer s5_7)), (7, (.pointer l7_7)), (10, (.int .i64 k10_7)), (87, (Sl.val t87_7)), (88, (.int .i64 t88_7)), (89, (.int .i64 x))]) (fun X x => law16_LocksParked.b7 Q X2 X3 (fun last11_4 t57_4 => X4 (last11_4, t57_4)) X counts0_7 s5_7 l7_7 k10_7 t87_7 t88_7 x) := by intros; exact ⟨⟩
  have hL19 : ∀ (X2 : Int → K), XH 10 X2 → ∀ (X3 : Int → K), XH 15 X3 → ∀ (counts0_4 : Sl) (s5_4 : (Option Addr)) (l7_4 : (Option Addr)) (k10_4 : Int) (t55_4 : Sl) (t56_4 : Int), LH 19 (fun x : Int × Int => [(0, (Sl.val counts0_4)), (5, (.pointer s5_4)), (7, (.pointer l7_4)), (10, (.int .i64 k10_4)), (11, (.int .i64 x.1)), (55, (Sl.val t55_4)), (56, (.int .i64 t56_4)), (57, (.int .i64 x.2))]) (fun X x => law16_LocksParked.b4 Q X2 X3 (fun last11_4 t57_4 => X (last11_4, t57_4)) counts0_4 s5_4 l7_4 k10_4 t55_4 t56_4 x.1 x.2) := by intros; exact ⟨⟩
  have hJ1000040 : ∀ (X2 : Int → K), XH 10 X2 → ∀ (X3 : Int → K), XH 15 X3 → ∀ (X8 : Int → K), XH 36 X8 → JH 1000040 fun D => D [] (fun C => ∀ (t4_9 : Bool), C [(4, (.bool t4_9))] (law16_LocksParked.s9 Q X2 X3 X8 t4_9)) := by intros; exact ⟨fun _ h => ⟨_, _, h⟩⟩
  have hL36 : ∀ (X2 : Int → K), XH 10 X2 → ∀ (X3 : Int → K), XH 15 X3 → ∀ (l7_8 : (Option Addr)) (t112_8 : Int), LH 36 (fun x : Int => [(7, (.pointer l7_8)), (112, (.int .i64 t112_8)), (113, (.int .i64 x))]) (fun X x => law16_LocksParked.b8 Q X2 X3 X l7_8 t112_8 x) := by intros; exact ⟨⟩
  have hL15 : ∀ (X2 : Int → K), XH 10 X2 → ∀ (counts0_3 : Sl) (s5_3 : (Option Addr)) (l7_3 : (Option Addr)), LH 15 (fun x : Int => [(0, (Sl.val counts0_3)), (5, (.pointer s5_3)), (7, (.pointer l7_3)), (10, (.int .i64 x))]) (fun X x => law16_LocksParked.b3 Q X2 X counts0_3 s5_3 l7_3 x) := by intros; exact ⟨⟩
  have hL10 : ∀ (counts0_2 : Sl) (s5_2 : (Option Addr)) (l7_2 : (Option Addr)) (t33_2 : Sl) (t34_2 : Int), LH 10 (fun x : Int => [(0, (Sl.val counts0_2)), (5, (.pointer s5_2)), (7, (.pointer l7_2)), (33, (Sl.val t33_2)), (34, (.int .i64 t34_2)), (35, (.int .i64 x))]) (fun X x => law16_LocksParked.b2 Q X counts0_2 s5_2 l7_2 t33_2 t34_2 x) := by intros; exact ⟨⟩
  have hJ8 : JH 8 fun D => ∃ (counts0_1 : Sl) (s5_1 : (Option Addr)) (l7_1 : (Option Addr)), D [(0, (Sl.val counts0_1)), (5, (.pointer s5_1)), (7, (.pointer l7_1))] (fun C => ∀ (t32_1 : Bool), C [(0, (Sl.val counts0_1)), (5, (.pointer s5_1)), (7, (.pointer l7_1)), (32, (.bool t32_1))] (law16_LocksParked.s1 Q counts0_1 s5_1 l7_1 t32_1)) := by intros; exact ⟨fun _ ⟨_, _, _, h⟩ => ⟨_, _, h⟩⟩
  exact g_walk 132 h Try.func10
end Go.Proofs.Ytfjjocopmknhgaa
/- Tries whose marks will be. -/
namespace Go.Proofs.Ytfjjocopmknhgaa
open Go Go.Sep Go.Sep.Bt
set_option linter.unusedSimpArgs false
set_option linter.unusedVariables false
set_option maxRecDepth 100000

abbrev kk : List UInt8 := [107]
/-- The claims of some counts, from a number on. -/
def clsF : Nat → List Int → List Claim
  | _, [] => []
  | i, c :: cs => (tg (i : Int), ⟨kk, 0, c⟩) :: clsF (i + 1) cs
theorem clsF_app : ∀ (i : Nat) (cs ds : List Int), clsF i (cs ++ ds) = clsF i cs ++ clsF (i + cs.length) ds
  | i, [], ds => rfl
  | i, c :: cs, ds => by
    show _ :: clsF (i + 1) (cs ++ ds) = _ :: (clsF (i + 1) cs ++ _)
    rw [clsF_app (i + 1) cs ds, List.length_cons, show i + 1 + cs.length = i + (cs.length + 1) by omega]
theorem clsF_mem : ∀ {i : Nat} {cs : List Int} {c : Claim}, c ∈ clsF i cs → ∃ j, j < cs.length ∧ c = (tg ((i + j : Nat) : Int), ⟨kk, 0, cs.getD j 0⟩)
  | i, [], c, h => by cases h
  | i, x :: cs, c, h => by
    rcases List.mem_cons.1 h with rfl | h
    · exact ⟨0, by simp, by simp⟩
    · obtain ⟨j, hj, e⟩ := clsF_mem h
      exact ⟨j + 1, by simpa using hj, by rw [e]; simp; omega⟩
theorem clsF_in : ∀ {i : Nat} {cs : List Int} {j : Nat}, j < cs.length → (tg ((i + j : Nat) : Int), ⟨kk, 0, cs.getD j 0⟩) ∈ clsF i cs
  | i, [], j, h => by simp at h
  | i, x :: cs, 0, h => by simp [clsF]
  | i, x :: cs, j + 1, h => by
    have := clsF_in (i := i + 1) (cs := cs) (j := j) (by simpa using h)
    refine List.mem_cons_of_mem _ ?_
    rw [show i + (j + 1) = i + 1 + j by omega]
    simpa using this
theorem clsF_lt : ∀ {i : Nat} {cs : List Int}, ((clsF i cs).map fun c => c.1.seq).Pairwise (· < ·)
  | i, [] => List.Pairwise.nil
  | i, c :: cs => by
    refine List.pairwise_cons.2 ⟨fun b hb => ?_, clsF_lt⟩
    obtain ⟨c, hc, rfl⟩ := List.mem_map.1 hb
    obtain ⟨j, _, rfl⟩ := clsF_mem hc
    show ((i : Nat) : Int) < ((i + 1 + j : Nat) : Int); omega
theorem clsF_len : ∀ {i : Nat} {cs : List Int}, (clsF i cs).length = cs.length
  | i, [] => rfl
  | i, c :: cs => by simp [clsF, clsF_len]
def lineK (CL : List Claim) : Nat → List Claim
  | 0 => CL.filter fun c => decide (c.2.cnt = 0)
  | k + 1 => lineK CL k ++ CL.filter fun c => decide (c.2.cnt = ((k + 1 : Nat) : Int))
def parkK (CL : List Claim) (k : Nat) : List Claim := CL.filter fun c => decide ((k : Int) < c.2.cnt)
def dmK (CL : List Claim) (k : Nat) : DM := fun t => CL.any fun c => decide (c.1 = t) && decide (c.2.cnt < (k : Int))
theorem lineK_mem {CL : List Claim} (h0 : ∀ c ∈ CL, 0 ≤ c.2.cnt) : ∀ {k : Nat} {c : Claim}, c ∈ lineK CL k ↔ c ∈ CL ∧ c.2.cnt ≤ (k : Int)
  | 0, c => by
    simp only [lineK, List.mem_filter, decide_eq_true_eq]
    constructor
    · rintro ⟨h1, h2⟩; exact ⟨h1, by omega⟩
    · rintro ⟨h1, h2⟩; have := h0 c h1; exact ⟨h1, by omega⟩
  | k + 1, c => by
    simp only [lineK, List.mem_append, lineK_mem h0, List.mem_filter, decide_eq_true_eq]
    constructor
    · rintro (⟨h1, h2⟩ | ⟨h1, h2⟩)
      · exact ⟨h1, by omega⟩
      · exact ⟨h1, by omega⟩
    · rintro ⟨h1, h2⟩
      by_cases h3 : c.2.cnt ≤ (k : Int)
      · exact .inl ⟨h1, h3⟩
      · exact .inr ⟨h1, by omega⟩
theorem lineK_len {CL : List Claim} : ∀ k, (lineK CL k).length ≤ (k + 1) * CL.length
  | 0 => by have := List.length_filter_le (fun c : Claim => decide (c.2.cnt = 0)) CL; simp [lineK]; omega
  | k + 1 => by
    have h1 := lineK_len (CL := CL) k
    have h2 := List.length_filter_le (fun c : Claim => decide (c.2.cnt = ((k + 1 : Nat) : Int))) CL
    simp only [lineK, List.length_append]
    rw [Nat.add_mul (k + 1) 1]
    omega
/-- Those of the last number stand in their order. -/
theorem lineK_last {CL : List Claim} (h0 : ∀ c ∈ CL, 0 ≤ c.2.cnt) (k : Nat) : (lineK CL k).filter (fun c => decide (c.2.cnt = (k : Int))) = CL.filter fun c => decide (c.2.cnt = (k : Int)) := by
  cases k with
  | zero => simp [lineK]
  | succ k =>
    simp only [lineK, List.filter_append, List.filter_filter, Bool.and_self]
    rw [List.filter_eq_nil_iff.2, List.nil_append]
    intro c hc
    have := ((lineK_mem h0).1 hc).2
    simp only [decide_eq_true_eq]; omega
/-- The state behind some moves. -/
structure PK (CL : List Claim) (k : Nat) (M : GM) (dm : DM) : Prop where
  key : ∀ p ∈ M, p.1 = kk
  len : M.length ≤ 1
  at' : atM kk M = (lineK CL k, parkK CL k)
  doom : dm = dmK CL k
theorem one_key {M : GM} (hk : ∀ p ∈ M, p.1 = kk) (hl : M.length ≤ 1) : M = [] ∨ ∃ v, M = [(kk, v)] := by
  match M, hl with
  | [], _ => exact .inl rfl
  | [(a, v)], _ => exact .inr ⟨v, by rw [show a = kk from hk (a, v) (by simp)]⟩
theorem gsz_one {M : GM} {N : Nat} (hk : ∀ p ∈ M, p.1 = kk) (hl : M.length ≤ 1) (h1 : (atM kk M).1.length ≤ N) (h2 : (atM kk M).2.length ≤ N) (hN : 1 ≤ N) : gsz M N := by
  rcases one_key hk hl with rfl | ⟨v, rfl⟩
  · exact ⟨by simp, by simp⟩
  · have e : atM kk [(kk, v)] = v := by simp [atM, mget]
    rw [e] at h1 h2
    exact ⟨by simpa using hN, by simpa using ⟨h1, h2⟩⟩
theorem mset_one {M : GM} {v : List Claim × List Claim} (hk : ∀ p ∈ M, p.1 = kk) (hl : M.length ≤ 1) : mset kk v (gateM kk M) = [(kk, v)] := by
  rcases one_key hk hl with rfl | ⟨u, rfl⟩
  · simp [gateM, mget, mset]
  · simp [gateM, mget, mset]
theorem PK.gsz {CL : List Claim} {k : Nat} {M : GM} {dm : DM} (h : PK CL k M dm) (hc : CL.length ≤ 20) (hk : k ≤ 6) : gsz M 140 := by
  refine gsz_one h.key h.len ?_ ?_ (by omega)
  · rw [h.at']
    have h1 := lineK_len (CL := CL) k
    have : (k + 1) * CL.length ≤ 7 * 20 := Nat.mul_le_mul (by omega) hc
    simp only; omega
  · rw [h.at']
    have := List.length_filter_le (fun c : Claim => decide ((k : Int) < c.2.cnt)) CL
    unfold parkK; simp only; omega
theorem del_park {r : Rec} {k : Nat} {dm : DM} (hr : r.home = 0 ∧ r.cnt = ((k + 1 : Nat) : Int)) : ∀ (P L : List Claim), (∀ c ∈ P, (k : Int) < c.2.cnt ∧ c.2.home = 0) →
    delG (mvP r) (mvS r) (L, dm) P = ((L ++ P.filter (fun c => decide (c.2.cnt = ((k + 1 : Nat) : Int))), dm), P.filter fun c => decide (((k + 1 : Nat) : Int) < c.2.cnt))
  | [], L, _ => by simp [delG]
  | c :: P, L, h => by
    obtain ⟨h1, h2⟩ := h c List.mem_cons_self
    rw [delG_cons]
    have hlk : clLook r c = if ((k + 1 : Nat) : Int) < c.2.cnt then 1 else 0 := by
      unfold clLook lookS
      rw [hr.1, hr.2, h2]
      split
      · rfl
      · rw [if_pos ⟨by omega, rfl⟩]
    by_cases h3 : ((k + 1 : Nat) : Int) < c.2.cnt
    · rw [if_pos h3] at hlk
      have e1 : mvS r (L, dm) c = (L, dm) := by unfold mvS; rw [hlk]; simp
      have e2 : mvP r (L, dm) c = false := by unfold mvP; rw [hlk]; simp
      rw [e1, e2, del_park hr P L fun c hc => h c (List.mem_cons_of_mem _ hc)]
      have e3 : decide (c.2.cnt = ((k + 1 : Nat) : Int)) = false := by simp; omega
      simp [List.filter_cons, e3, h3]
      omega
    · rw [if_neg h3] at hlk
      have e1 : mvS r (L, dm) c = (L ++ [c], dm) := by unfold mvS; rw [hlk]; simp
      have e2 : mvP r (L, dm) c = true := by unfold mvP; rw [hlk]; simp
      rw [e1, e2, del_park hr P (L ++ [c]) fun c hc => h c (List.mem_cons_of_mem _ hc)]
      have e3 : c.2.cnt = ((k + 1 : Nat) : Int) := by omega
      simp [List.filter_cons, e3]
theorem doom_line {r : Rec} : ∀ (L : List Claim) (dm : DM), (∀ c ∈ L, clLook r c ≠ 0) → ∀ t, doomL r L dm t = (dm t || L.any fun c => decide (c.1 = t))
  | [], dm, _, t => by simp [doomL]
  | c :: L, dm, h, t => by
    show doomL r L (if clLook r c ≠ 0 then dset dm c.1 true else dm) t = _
    rw [if_pos (h c List.mem_cons_self), doom_line L _ (fun c hc => h c (List.mem_cons_of_mem _ hc)) t]
    unfold dset
    by_cases h2 : t = c.1
    · simp [h2]
    · simp [h2, Ne.symm h2]
theorem PK.moved {CL : List Claim} {k : Nat} {M : GM} {dm : DM} {S : Recs} (h : PK CL k M dm) (h0 : ∀ c ∈ CL, 0 ≤ c.2.cnt ∧ c.2.home = 0) (hS : (sGet 1 S (bs kk)).home = 0 ∧ (sGet 1 S (bs kk)).cnt = ((k + 1 : Nat) : Int)) : PK CL (k + 1) (movedM 1 S kk (M, dm)).1 (movedM 1 S kk (M, dm)).2 := by
  have h0' : ∀ c ∈ CL, 0 ≤ c.2.cnt := fun c hc => (h0 c hc).1
  have hd := del_park (dm := doomL (sGet 1 S (bs kk)) (lineK CL k) dm) hS (parkK CL k) (lineK CL k) fun c hc => by
    unfold parkK at hc
    rw [List.mem_filter] at hc
    exact ⟨by simpa using hc.2, (h0 c hc.1).2⟩
  have e : movedM 1 S kk (M, dm) = ([(kk, (lineK CL (k + 1), parkK CL (k + 1)))], doomL (sGet 1 S (bs kk)) (lineK CL k) dm) := by
    unfold movedM
    simp only [h.at', hd]
    rw [mset_one h.key h.len]
    have e1 : lineK CL k ++ (parkK CL k).filter (fun c => decide (c.2.cnt = ((k + 1 : Nat) : Int))) = lineK CL (k + 1) := by
      simp only [lineK, parkK, List.filter_filter]
      congr 1
      refine List.filter_congr fun c _ => ?_
      by_cases h1 : c.2.cnt = ((k + 1 : Nat) : Int)
      · simp [h1]; omega
      · simp [h1]; intro _; omega
    have e2 : (parkK CL k).filter (fun c => decide (((k + 1 : Nat) : Int) < c.2.cnt)) = parkK CL (k + 1) := by
      simp only [parkK, List.filter_filter]
      refine List.filter_congr fun c _ => ?_
      by_cases h1 : ((k + 1 : Nat) : Int) < c.2.cnt
      · have : (k : Int) < c.2.cnt := by omega
        simp only [h1, this]; rfl
      · simp only [h1]; rfl
    rw [e1, e2]
  rw [e]
  refine ⟨by simp, by simp, by simp [atM, mget], ?_⟩
  funext t
  have hne : ∀ c ∈ lineK CL k, clLook (sGet 1 S (bs kk)) c ≠ 0 := fun c hc => by
    have h1 := ((lineK_mem h0').1 hc).2
    unfold clLook lookS
    rw [hS.1, hS.2, if_neg (by omega), if_neg (by omega)]
    omega
  show doomL (sGet 1 S (bs kk)) (lineK CL k) dm t = _
  rw [doom_line _ _ hne, h.doom]
  rw [Bool.eq_iff_iff]
  simp only [dmK, Bool.or_eq_true, List.any_eq_true, Bool.and_eq_true, decide_eq_true_eq]
  constructor
  · rintro (⟨c, hc, h1, h2⟩ | ⟨c, hc, h1⟩)
    · exact ⟨c, hc, h1, by omega⟩
    · have := (lineK_mem h0').1 hc
      exact ⟨c, this.1, h1, by omega⟩
  · rintro ⟨c, hc, h1, h2⟩
    exact .inr ⟨c, (lineK_mem h0').2 ⟨hc, by omega⟩, h1⟩
theorem PK.enter {cs : List Int} {c : Int} {M : GM} {dm : DM} (h : PK (clsF 0 cs) 0 M dm) (hcs : ∀ c ∈ cs, 0 ≤ c) (hc : 0 ≤ c) : PK (clsF 0 (cs ++ [c])) 0 (enterM 1 [] (tg (cs.length : Int)) [⟨kk, 0, c⟩] (M, dm)).1 (enterM 1 [] (tg (cs.length : Int)) [⟨kk, 0, c⟩] (M, dm)).2 := by
  have hno : ∀ L : List Claim, (∀ x ∈ L, x ∈ clsF 0 cs) → hasT (tg (cs.length : Int)) L = false := fun L hL => by
    unfold hasT
    rw [List.any_eq_false]
    intro x hx
    obtain ⟨j, hj, rfl⟩ := clsF_mem (hL x hx)
    simp only [decide_eq_true_eq, TagM.mk.injEq]
    omega
  have h1 : hasT (tg (cs.length : Int)) (lineK (clsF 0 cs) 0) = false := hno _ fun x hx => (List.mem_filter.1 hx).1
  have h2 : hasT (tg (cs.length : Int)) (parkK (clsF 0 cs) 0) = false := hno _ fun x hx => (List.mem_filter.1 hx).1
  have hcl : clsF 0 (cs ++ [c]) = clsF 0 cs ++ [(tg (cs.length : Int), ⟨kk, 0, c⟩)] := by rw [clsF_app]; simp [clsF]
  have hlk : markLook 1 [] ⟨kk, 0, c⟩ = if 0 < c then 1 else 0 := by
    simp only [markLook, lookS, sGet, getM, List.find?_nil, Option.map_none, Option.getD_none, homeOf1]
    split
    · rfl
    · rw [if_pos ⟨by omega, rfl⟩]
  have hdm : dmK (clsF 0 (cs ++ [c])) 0 = dm := by
    rw [h.doom]
    funext t
    have h3 : ∀ cs : List Int, (∀ c ∈ cs, 0 ≤ c) → dmK (clsF 0 cs) 0 t = false := fun cs hcs => by
      unfold dmK
      rw [List.any_eq_false]
      intro x hx
      obtain ⟨j, hj, rfl⟩ := clsF_mem hx
      have : 0 ≤ cs.getD j 0 := by
        rw [List.getD_eq_getElem?_getD, List.getElem?_eq_getElem hj]
        exact hcs _ (List.getElem_mem hj)
      simp only [Bool.and_eq_true, decide_eq_true_eq]
      rintro ⟨_, h4⟩
      omega
    rw [h3 cs hcs, h3 (cs ++ [c]) fun x hx => by
      rcases List.mem_append.1 hx with hx | hx
      · exact hcs x hx
      · rw [List.mem_singleton.1 hx]; exact hc]
  show PK _ 0 (enter1 1 [] (tg (cs.length : Int)) (M, dm) ⟨kk, 0, c⟩).1 (enter1 1 [] (tg (cs.length : Int)) (M, dm) ⟨kk, 0, c⟩).2
  unfold enter1
  simp only [h.at', h1, h2, Bool.or_self, Bool.false_eq_true, if_false, hlk]
  by_cases h3 : 0 < c
  · rw [if_pos h3, if_neg (by omega), if_pos rfl, mset_one h.key h.len]
    refine ⟨by simp, by simp, ?_, hdm.symm⟩
    simp only [atM, mget, if_true, Option.getD_some, hcl, lineK, parkK, List.filter_append]
    have : ¬ c = 0 := by omega
    simp [h3, this]
  · have h4 : c = 0 := by omega
    rw [if_neg h3, if_pos rfl, mset_one h.key h.len]
    refine ⟨by simp, by simp, ?_, hdm.symm⟩
    simp only [atM, mget, if_true, Option.getD_some, hcl, lineK, parkK, List.filter_append]
    simp [h4]
/-- Those that leave. -/
structure PL (CL : List Claim) (i : Nat) (M : GM) (dm : DM) : Prop where
  key : ∀ p ∈ M, p.1 = kk
  len : M.length ≤ 1
  at' : ∀ c, c ∈ (atM kk M).1 ∨ c ∈ (atM kk M).2 → c ∈ CL ∧ (i : Int) ≤ c.1.seq
  doom : ∀ t, dm t = true → (i : Int) ≤ t.seq
  sz : gsz M 140
theorem PL.leave {cs : List Int} {i : Nat} {M : GM} {dm : DM} (h : PL (clsF 0 cs) i M dm) (hd : ∀ t, dm t = true → ∃ c ∈ clsF 0 cs, c.1 = t) : PL (clsF 0 cs) (i + 1) (leaveM (tg (i : Int)) (M, dm)).1 (leaveM (tg (i : Int)) (M, dm)).2 := by
  have hat : atM kk (leaveM (tg (i : Int)) (M, dm)).1 = (noT (tg (i : Int)) (atM kk M).1, noT (tg (i : Int)) (atM kk M).2) := by
    rcases one_key h.key h.len with rfl | ⟨v, rfl⟩
    · simp [leaveM, atM, mget, noT]
    · simp [leaveM, atM, mget]
  have hne : ∀ c ∈ clsF 0 cs, (i : Int) ≤ c.1.seq → ¬ c.1 = tg (i : Int) → ((i + 1 : Nat) : Int) ≤ c.1.seq := fun c hc h1 h2 => by
    obtain ⟨j, hj, rfl⟩ := clsF_mem hc
    have h3 : (((0 + j : Nat) : Nat) : Int) ≠ (i : Int) := fun e => h2 (by simp only [e])
    have h1' : (i : Int) ≤ ((0 + j : Nat) : Int) := h1
    show ((i + 1 : Nat) : Int) ≤ ((0 + j : Nat) : Int)
    omega
  refine ⟨fun p hp => ?_, by simpa [leaveM] using h.len, fun c hc => ?_, fun t ht => ?_, gsz_leave (x := (M, dm)) h.sz⟩
  · obtain ⟨q, hq, rfl⟩ := List.mem_map.1 hp
    exact h.key q hq
  · rw [hat] at hc
    simp only [noT, List.mem_filter, Bool.not_eq_true', decide_eq_false_iff_not] at hc
    rcases hc with ⟨h1, h2⟩ | ⟨h1, h2⟩
    · have h3 := h.at' c (.inl h1)
      exact ⟨h3.1, hne c h3.1 h3.2 h2⟩
    · have h3 := h.at' c (.inr h1)
      exact ⟨h3.1, hne c h3.1 h3.2 h2⟩
  · have ht' : dset dm (tg (i : Int)) false t = true := ht
    unfold dset at ht'
    split at ht'
    · cases ht'
    · rename_i h2
      obtain ⟨c, hc, rfl⟩ := hd t ht'
      exact hne c hc (h.doom _ ht') h2
theorem PL.keys {cs : List Int} {M : GM} {dm : DM} (h : PL (clsF 0 cs) cs.length M dm) : keysM M = [] := by
  have hat : atM kk M = ([], []) := by
    have h1 : ∀ c, ¬ (c ∈ (atM kk M).1 ∨ c ∈ (atM kk M).2) := fun c hc => by
      obtain ⟨h2, h3⟩ := h.at' c hc
      obtain ⟨j, hj, rfl⟩ := clsF_mem h2
      simp only at h3; omega
    exact Prod.ext (List.eq_nil_iff_forall_not_mem.2 fun c hc => h1 c (.inl hc)) (List.eq_nil_iff_forall_not_mem.2 fun c hc => h1 c (.inr hc))
  unfold keysM
  rw [List.filter_eq_nil_iff]
  intro k hk
  rw [sortL_mem] at hk
  obtain ⟨p, hp, rfl⟩ := List.mem_map.1 hk
  rw [h.key p hp, hat]; simp
theorem dmK_at {cs : List Int} {k i : Nat} (hi : i < cs.length) : dmK (clsF 0 cs) k (tg (i : Int)) = decide (cs.getD i 0 < (k : Int)) := by
  rw [Bool.eq_iff_iff]
  simp only [dmK, List.any_eq_true, Bool.and_eq_true, decide_eq_true_eq]
  constructor
  · rintro ⟨c, hc, h1, h2⟩
    obtain ⟨j, hj, rfl⟩ := clsF_mem hc
    simp only [TagM.mk.injEq] at h1
    have : j = i := by omega
    rw [← this]; exact h2
  · intro h
    have := clsF_in (i := 0) hi
    rw [Nat.zero_add] at this
    exact ⟨_, this, rfl, h⟩

/-! ### the walk -/
section
variable {B : World} {Γ Δ : List HProp} {q : Bool → K} {counts : Sl} {cs : List Int} {l st : Nat}
theorem parked_b8 {S : Recs} {M : GM} {dm : DM} {X2 X3 : Int → K} (hcn : cs.length ≤ 20) (hp : PL (clsF 0 cs) 0 M dm) (hd : ∀ t, dm t = true → ∃ c ∈ clsF 0 cs, c.1 = t) (h : HG B Γ (q true)) :
    HG B (LocksR l M dm :: StoreR st 1 S :: Γ) (LoopK (α := Int) (fun X x => law16_LocksParked.b8 q X2 X3 X (some ⟨l, 0, none⟩) (cs.length : Int) x) 0) := by
  refine s_loop (α := Int) (ι := Nat × GM × DM) (fun x i => x = (i.1 : Int) ∧ i.1 ≤ cs.length ∧ PL (clsF 0 cs) i.1 i.2.1 i.2.2 ∧ ∀ t, i.2.2 t = true → ∃ c ∈ clsF 0 cs, c.1 = t)
    (fun x i => LocksR l i.2.1 i.2.2 :: StoreR st 1 S :: Γ) (fun x i => cs.length - i.1) (0, M, dm) ⟨rfl, Nat.zero_le _, hp, hd⟩ ?_
  clear hp hd
  rintro k' _ ⟨i, M, dm⟩ ⟨rfl, hi, hp, hd⟩ hk'
  simp only at hi hp hd hk' ⊢
  unfold law16_LocksParked.b8
  refine s_ite (fun hb => ?_) fun hb => ?_
  · have hil : i < cs.length := by simp only [decide_eq_true_eq] at hb; omega
    refine s_ar (e' := (i : Int)) (by rw [wrapU64 (by omega) (by omega)]) ?_
    refine tag16_hg ?_
    refine leave_hg hp.sz (by omega) ?_
    refine s_ai ?_
    refine hk' _ (i + 1, (leaveM (tg (i : Int)) (M, dm)).1, (leaveM (tg (i : Int)) (M, dm)).2) ⟨by simp, hil, hp.leave hd, fun t ht => ?_⟩ (by simp only; omega)
    have ht' : dset dm (tg (i : Int)) false t = true := ht
    unfold dset at ht'
    split at ht'
    · cases ht'
    · exact hd t ht'
  · have hil : i = cs.length := by simp only [decide_eq_false_iff_not] at hb; omega
    rw [hil] at hp
    refine keys_hg hp.sz (by omega) fun ks => ?_
    rw [hp.keys]
    refine s_cap ks fun b1 b2 b3 b4 => ?_
    simp only [List.map_nil, List.length_nil] at b1
    refine s_t ?_ (by simp; omega)
    refine tag16_hg ?_
    refine s_own l ?_
    refine doomed_hg ?_
    have h0 : dm (tg 0) = false := by
      cases hc : dm (tg 0) with
      | false => rfl
      | true =>
        have h1 := hp.doom _ hc
        obtain ⟨c, hc2, h2⟩ := hd _ hc
        obtain ⟨j, hj, rfl⟩ := clsF_mem hc2
        simp only at h1; omega
    rw [h0]
    unfold law16_LocksParked.s9
    exact s_end h
theorem parked_b7 {S : Recs} {M : GM} {dm : DM} {k : Nat} {X2 X3 : Int → K} {X4 : Int → Int → K} (hr : ∀ w, Holds B Γ w → RdC w counts 1 (cs.map (Value.int .u64))) (hcn : cs.length ≤ 20) (hk : k < 6) (hp : PK (clsF 0 cs) k M dm) (h0 : ∀ c ∈ clsF 0 cs, 0 ≤ c.2.cnt ∧ c.2.home = 0) (hS : (sGet 1 S (bs kk)).home = 0 ∧ (sGet 1 S (bs kk)).cnt = (k : Int)) (hSl : S.length ≤ k)
    (h : ∀ M' dm' S', PK (clsF 0 cs) (k + 1) M' dm' → (sGet 1 S' (bs kk)).home = 0 ∧ (sGet 1 S' (bs kk)).cnt = ((k + 1 : Nat) : Int) → S'.length ≤ k + 1 → HG B (LocksR l M' dm' :: StoreR st 1 S' :: Γ) (X3 ((k + 1 : Nat) : Int))) :
    HG B (LocksR l M dm :: StoreR st 1 S :: Γ) (LoopK (α := Int) (fun X x => law16_LocksParked.b7 q X2 X3 X4 X counts (some ⟨st, 0, none⟩) (some ⟨l, 0, none⟩) (k : Int) counts (counts.n : Int) x) 0) := by
  refine s_loopC (α := Int) (fun x => ∃ i : Nat, x = (i : Int) ∧ i ≤ cs.length) (fun x => cs.length - x.toNat) ⟨0, rfl, Nat.zero_le _⟩ fun k' x hx hk' => ?_
  obtain ⟨i, rfl, hi⟩ := hx
  unfold law16_LocksParked.b7
  refine fun w hw => ?_
  have hcl : counts.n = cs.length := by have := (hr w hw.drops).len; simpa using this.symm
  refine Sep.hg hw ?_
  clear hw w
  refine s_ite (fun hb => ?_) fun hb => ?_
  · have hil : i < cs.length := by simp only [decide_eq_true_eq] at hb; omega
    refine s_idx1 (L := cs) (j := i) (x := cs.getD i 0) (fun w hw => hr w hw.drops) (by rw [List.getElem?_eq_getElem hil, List.getD_eq_getElem?_getD, List.getElem?_eq_getElem hil]; rfl) ?_ rfl
    refine s_ar (e' := (i : Int)) (by rw [wrapU64 (by omega) (by omega)]) ?_
    refine tag16_hg ?_
    refine doomed_hg ?_
    refine s_ar (e' := (k : Int)) (by rw [wrapU64 (by omega) (by omega)]) ?_
    rw [show dm (tg (i : Int)) = decide (cs.getD i 0 < (k : Int)) by rw [hp.doom, dmK_at hil]]
    refine s_f ?_ (by simp)
    refine s_ai ?_
    exact hk' _ ⟨i + 1, by simp, hil⟩ (by omega)
  · refine s_own st ?_
    refine storeMove_spec (k := bs kk) (to := 0) (by show (1 : Nat) < _; omega) (by omega) ?_
    have hmv : sMove 1 S (bs kk) 0 = (putM S (bs kk) { sGet 1 S (bs kk) with home := 0, cnt := (k : Int) + 1 }, 0) := by
      unfold sMove
      rw [if_neg (by omega), hS.2, if_neg (by omega)]
    rw [hmv]
    refine s_f ?_
    refine s_own l ?_
    have hS' : (sGet 1 (putM S (bs kk) { sGet 1 S (bs kk) with home := 0, cnt := (k : Int) + 1 }) (bs kk)).home = 0 ∧ (sGet 1 (putM S (bs kk) { sGet 1 S (bs kk) with home := 0, cnt := (k : Int) + 1 }) (bs kk)).cnt = ((k + 1 : Nat) : Int) := by rw [sGet_put, if_pos rfl]; simp
    refine moved_hg (by simp) (hp.gsz (by rw [clsF_len]; exact hcn) (by omega)) (by omega) ?_
    refine s_ai ?_
    refine s_end (h _ _ _ (hp.moved h0 hS') hS' ?_)
    have := putM_len S (bs kk) { sGet 1 S (bs kk) with home := 0, cnt := (k : Int) + 1 }
    omega
theorem parked_b3 {S : Recs} {M : GM} {dm : DM} {X2 : Int → K} (hr : ∀ w, Holds B Γ w → RdC w counts 1 (cs.map (Value.int .u64))) (hcn : cs.length ≤ 20) (hp : PK (clsF 0 cs) 0 M dm) (hcs : ∀ c ∈ cs, 0 ≤ c) (hS : (sGet 1 S (bs kk)).home = 0 ∧ (sGet 1 S (bs kk)).cnt = 0) (hSl : S.length ≤ 0) (h : HG B Γ (q true)) :
    HG B (LocksR l M dm :: StoreR st 1 S :: Γ) (LoopK (α := Int) (fun X x => law16_LocksParked.b3 q X2 X counts (some ⟨st, 0, none⟩) (some ⟨l, 0, none⟩) x) 0) := by
  have h0 : ∀ c ∈ clsF 0 cs, 0 ≤ c.2.cnt ∧ c.2.home = 0 := fun c hc => by
    obtain ⟨j, hj, rfl⟩ := clsF_mem hc
    refine ⟨?_, rfl⟩
    simp only
    rw [List.getD_eq_getElem?_getD, List.getElem?_eq_getElem hj]
    exact hcs _ (List.getElem_mem hj)
  have h0' : ∀ c ∈ clsF 0 cs, 0 ≤ c.2.cnt := fun c hc => (h0 c hc).1
  refine s_loop (α := Int) (ι := Nat × GM × DM × Recs) (fun x i => x = (i.1 : Int) ∧ i.1 ≤ 6 ∧ PK (clsF 0 cs) i.1 i.2.1 i.2.2.1 ∧ ((sGet 1 i.2.2.2 (bs kk)).home = 0 ∧ (sGet 1 i.2.2.2 (bs kk)).cnt = (i.1 : Int)) ∧ i.2.2.2.length ≤ i.1)
    (fun x i => LocksR l i.2.1 i.2.2.1 :: StoreR st 1 i.2.2.2 :: Γ) (fun x i => 6 - i.1) (0, M, dm, S) ⟨rfl, by simp, hp, hS, hSl⟩ ?_
  clear hp hS hSl
  rintro k' _ ⟨k, M, dm, S⟩ ⟨rfl, hk6, hp, hS, hSl⟩ hk'
  simp only at hk6 hp hS hSl hk' ⊢
  unfold law16_LocksParked.b3
  refine fun w hw => ?_
  have hcl : counts.n = cs.length := by have := (hr w hw.drops).len; simpa using this.symm
  refine Sep.hg hw ?_
  clear hw w
  refine s_ite (fun hb => ?_) fun hb => ?_
  · have hkl : k < 6 := by simp only [decide_eq_true_eq] at hb; omega
    refine queue_hg (key := kk) (hp.gsz (by rw [clsF_len]; exact hcn) (by omega)) (by omega) fun t => ?_
    rw [hp.at']
    simp only
    refine s_cap t fun a1 a2 a3 a4 => ?_
    rw [flatMap_len _ 4 tagF_len, List.length_map] at a1
    have hll := lineK_len (CL := clsF 0 cs) k
    rw [clsF_len] at hll
    have hll2 : (k + 1) * cs.length ≤ 7 * 20 := Nat.mul_le_mul (by omega) hcn
    have hpw : ((lineK (clsF 0 cs) k).filter (fun c => decide (c.2.cnt = (k : Int)))).Pairwise fun a b => a.1.seq < b.1.seq := by
      rw [lineK_last h0']
      have := (clsF_lt (i := 0) (cs := cs))
      rw [List.pairwise_map] at this
      exact List.Pairwise.sublist List.filter_sublist this
    refine s_loop (α := Int × Int) (ι := Nat) (fun x j => x.2 = (j : Int) ∧ j ≤ (lineK (clsF 0 cs) k).length ∧ -1 ≤ x.1 ∧ x.1 ≤ 1000 ∧ ∀ c ∈ ((lineK (clsF 0 cs) k).drop j).filter (fun c => decide (c.2.cnt = (k : Int))), x.1 < c.1.seq)
      (fun x j => SlC ty_api_Tag 4 t (((lineK (clsF 0 cs) k).map Prod.fst).flatMap tagF) :: LocksR l M dm :: StoreR st 1 S :: Γ) (fun x j => (lineK (clsF 0 cs) k).length - j) 0 ⟨rfl, Nat.zero_le _, by simp, by simp, fun c hc => ?_⟩ ?_
    · rw [List.drop_zero] at hc
      obtain ⟨j, hj, rfl⟩ := clsF_mem ((lineK_mem h0').1 (List.mem_filter.1 hc).1).1
      simp only; omega
    rintro k2 ⟨last, _⟩ j ⟨rfl, hj, hl1, hl2, hla⟩ hk2
    simp only at hj hl1 hl2 hla hk2 ⊢
    unfold law16_LocksParked.b4
    refine s_ite (fun hb2 => ?_) fun hb2 => ?_
    · have hjl : j < (lineK (clsF 0 cs) k).length := by simp only [decide_eq_true_eq] at hb2; omega
      have hge : (lineK (clsF 0 cs) k)[j]? = some (lineK (clsF 0 cs) k)[j] := List.getElem?_eq_getElem hjl
      have hmem : (lineK (clsF 0 cs) k)[j] ∈ lineK (clsF 0 cs) k := List.getElem_mem hjl
      have hdr := List.drop_eq_getElem_cons hjl
      generalize (lineK (clsF 0 cs) k)[j] = c at hge hmem hdr
      rw [hdr] at hla
      have hsub : (((lineK (clsF 0 cs) k).drop j).filter (fun c => decide (c.2.cnt = (k : Int)))).Pairwise fun a b => a.1.seq < b.1.seq := List.Pairwise.sublist ((List.drop_sublist j _).filter _) hpw
      rw [hdr] at hsub
      obtain ⟨i, hi, rfl⟩ := clsF_mem ((lineK_mem h0').1 hmem).1
      refine s_idxN (L := (lineK (clsF 0 cs) k).map Prod.fst) (j := j) (x := tg ((0 + i : Nat) : Int)) tagF tagF_len (fun w hw => (own_rd (s := t) hw).1) (by rw [List.getElem?_map, hge]; rfl) ?_ rfl
      refine s_new fun t13 => ?_
      repeat refine s_nx ?_
      refine s_idx1 (L := cs) (j := i) (x := cs.getD i 0) (fun w hw => hr w hw.drops) (by rw [List.getElem?_eq_getElem hi, List.getD_eq_getElem?_getD, List.getElem?_eq_getElem hi]; rfl) ?_ (by show ((0 + i : Nat) : Int) = _; omega)
      refine s_ar (e' := (k : Int)) (by rw [wrapU64 (by omega) (by omega)]) ?_
      have next : ∀ last' : Int, -1 ≤ last' → last' ≤ 1000 → (∀ c ∈ ((lineK (clsF 0 cs) k).drop (j + 1)).filter (fun c => decide (c.2.cnt = (k : Int))), last' < c.1.seq) → HG B (blk t13 (.cells (tagF (tg ((0 + i : Nat) : Int))).toArray ty_api_Tag (0, 0)) :: SlC ty_api_Tag 4 t (((lineK (clsF 0 cs) k).map Prod.fst).flatMap tagF) :: LocksR l M dm :: StoreR st 1 S :: Γ) (law16_LocksParked.s5 q X2 k' (fun last11_4 t57_4 => k2 (last11_4, t57_4)) counts (some ⟨st, 0, none⟩) (some ⟨l, 0, none⟩) (k : Int) last' t (t.n : Int) (j : Int)) := fun last' g1 g2 g3 => by
        unfold law16_LocksParked.s5
        refine s_ai ?_
        exact s_end (hk2 (last', (j : Int) + 1) (j + 1) ⟨by simp, hjl, g1, g2, g3⟩ (by omega))
      refine s_ite (fun hb3 => ?_) fun hb3 => ?_
      · have hck : cs.getD i 0 = (k : Int) := by simpa using hb3
        rw [List.filter_cons_of_pos (by simpa using hck)] at hla hsub
        have hlt := hla _ List.mem_cons_self
        simp only at hlt
        repeat refine s_nx ?_
        refine s_own l ?_
        refine doomed_hg ?_
        rw [show dm (tg ((0 + i : Nat) : Int)) = false by rw [hp.doom, Nat.zero_add, dmK_at hi]; exact decide_eq_false (by omega)]
        unfold law16_LocksParked.s6
        repeat refine s_nx ?_
        refine s_ar (e' := (i : Int)) (by show IntKind.wrap .i64 ((0 + i : Nat) : Int) = _; rw [Nat.zero_add, wrap64 (by omega) (by omega)]) ?_
        refine s_f ?_ (by simp; omega)
        repeat refine s_nx ?_
        refine s_ar (e' := (i : Int)) (by show IntKind.wrap .i64 ((0 + i : Nat) : Int) = _; rw [Nat.zero_add, wrap64 (by omega) (by omega)]) ?_
        refine s_end (next (i : Int) (by omega) (by omega) fun c hc => ?_)
        have := (List.pairwise_cons.1 hsub).1 c hc
        simp only at this; omega
      · rw [List.filter_cons_of_neg (by simpa using hb3)] at hla
        unfold law16_LocksParked.s6
        repeat refine s_nx ?_
        exact s_end (next last hl1 hl2 hla)
    · refine s_end (parked_b7 (S := S) (M := M) (dm := dm) hr hcn hkl hp h0 hS hSl fun M' dm' S' g1 g2 g3 => ?_)
      exact hk' _ (k + 1, M', dm', S') ⟨rfl, hkl, g1, g2, g3⟩ (by simp only; omega)
  · have hkl : k = 6 := by simp only [decide_eq_false_iff_not] at hb; omega
    rw [hcl]
    refine parked_b8 hcn ⟨hp.key, hp.len, fun c hc => ?_, fun t ht => ?_, hp.gsz (by rw [clsF_len]; exact hcn) (by omega)⟩ (fun t ht => ?_) h
    · rw [hp.at'] at hc
      have hm : c ∈ clsF 0 cs := by
        rcases hc with hc | hc
        · exact ((lineK_mem h0').1 hc).1
        · exact (List.mem_filter.1 hc).1
      refine ⟨hm, ?_⟩
      obtain ⟨j, hj, rfl⟩ := clsF_mem hm
      simp only; omega
    · rw [hp.doom] at ht
      obtain ⟨c, hc, h1⟩ := List.any_eq_true.1 ht
      simp only [Bool.and_eq_true, decide_eq_true_eq] at h1
      rw [← h1.1]
      obtain ⟨j, hj, rfl⟩ := clsF_mem hc
      simp only; omega
    · rw [hp.doom] at ht
      obtain ⟨c, hc, h1⟩ := List.any_eq_true.1 ht
      simp only [Bool.and_eq_true, decide_eq_true_eq] at h1
      exact ⟨c, hc, h1.1⟩
theorem LocksParked_hg {n : Int} (hr : ∀ w, Holds B Γ w → RdC w counts 1 (cs.map (Value.int .u64))) (hcs : ∀ c ∈ cs, 0 ≤ c) (h : HG B Γ (q true)) : HG B Γ (law16_LocksParked.call counts n q) := fun w hw => by
  refine law16_LocksParked_ok _ _ _ _ ?_
  have hcl : counts.n = cs.length := by have := (hr w hw).len; simpa using this.symm
  refine Sep.hg hw ?_
  clear hw w
  unfold law16_LocksParked
  refine speaks16 ?_
  repeat refine s_nx ?_
  refine s_ite (fun hb => h) fun hb => ?_
  have hcn : cs.length ≤ 20 := by simp only [decide_eq_false_iff_not] at hb; omega
  refine storeNew_spec (n := 1) (by omega) (by omega) fun st => ?_
  refine locksNew_hg fun l => ?_
  repeat refine s_nx ?_
  unfold law16_LocksParked.s1
  repeat refine s_nx ?_
  refine s_loop (α := Int) (ι := Nat × GM × DM) (fun x i => x = (i.1 : Int) ∧ i.1 ≤ cs.length ∧ PK (clsF 0 (cs.take i.1)) 0 i.2.1 i.2.2)
    (fun x i => LocksR l i.2.1 i.2.2 :: StoreR st 1 [] :: Γ) (fun x i => cs.length - i.1) (0, [], fun _ => false) ⟨rfl, Nat.zero_le _, by simp, by simp, by simp [atM, mget, lineK, parkK, clsF], by funext t; simp [dmK, clsF]⟩ ?_
  rintro k' _ ⟨i, M, dm⟩ ⟨rfl, hi, hp⟩ hk'
  simp only at hi hp hk' ⊢
  unfold law16_LocksParked.b2
  refine s_ite (fun hb => ?_) fun hb => ?_
  · have hil : i < cs.length := by simp only [decide_eq_true_eq] at hb; omega
    have hge : cs[i]? = some cs[i] := List.getElem?_eq_getElem hil
    have hmem : cs[i] ∈ cs := List.getElem_mem hil
    have htk : cs.take (i + 1) = cs.take i ++ [cs[i]] := List.take_succ_eq_append_getElem hil
    generalize cs[i] = c at hge hmem htk
    refine s_idx1 (L := cs) (fun w hw => hr w hw.drops) hge ?_
    refine s_ar (e' := (i : Int)) (by rw [wrapU64 (by omega) (by omega)]) ?_
    refine tag16_hg ?_
    repeat refine s_nx ?_
    refine s_new fun t47 => ?_
    refine s_own st ?_
    refine s_own l ?_
    refine enter_hg (L := [⟨kk, 0, c⟩]) (fun w hw => by have := blk_rd (t := t47) (cs := markF ⟨kk, 0, c⟩) (k := 1) rfl w hw; simpa using this) (by simp) (hp.gsz (by rw [clsF_len, List.length_take]; omega) (by omega)) (by simp) ?_
    refine s_ai ?_
    have hlen : (cs.take i).length = i := by rw [List.length_take]; omega
    have hpe := hp.enter (c := c) (fun x hx => hcs x (List.mem_of_mem_take hx)) (hcs c hmem)
    rw [hlen, ← htk] at hpe
    have hfin := hk' ((i : Int) + 1) (i + 1, (enterM 1 [] (tg (i : Int)) [⟨kk, 0, c⟩] (M, dm)).1, (enterM 1 [] (tg (i : Int)) [⟨kk, 0, c⟩] (M, dm)).2) ⟨by simp, hil, hpe⟩ (by simp only; omega)
    generalize enterM 1 [] (tg (i : Int)) [⟨kk, 0, c⟩] (M, dm) = Z at hfin ⊢
    exact s_end hfin
  · have hil : i = cs.length := by simp only [decide_eq_false_iff_not] at hb; omega
    rw [hil, List.take_length] at hp
    exact parked_b3 hr hcn hp hcs (by simp [sGet, getM, homeOf1]) (by simp) h
end
end Go.Proofs.Ytfjjocopmknhgaa

namespace Go.Proofs.Ytfjjocopmknhgaa
open Go Go.Sep Go.RowKit
theorem LocksParked_walk (W : World) (s : Sl) (y0 : Rdy W Sh_ty_s_uint64 (Sl.val s).cells.toList) (n : Int) (_ : (Lit.int .i64 n).wf = true) :
    Calls Try.prog 10 #[s.val, .int .i64 n] W (Ret fun v w' => v = .bool true ∧ Below W.heap.size W w') := by
  obtain ⟨cs, hr, hw⟩ := rdy_ints y0
  exact law_call (LocksParked_hg (Γ := []) (fun w hw => hr.old hw) (fun c hc => by have := hw c hc; simp [Lit.wf, IntKind.min, IntKind.max, IntKind.signed, IntKind.bits] at this; omega) (fun w h => ⟨rfl, h⟩) W (Holds.start W))
end Go.Proofs.Ytfjjocopmknhgaa
