/- A side of a link: what its functions do. -/
import Derived.Test.YtilejcnbacmdnaaMore
import Derived.Test.YtilejcnbacmdnaaMaps
import Derived.Test.YtilejcnbacmdnaaSBytes
import Derived.Test.YtilejcnbacmdnaaIRLink
namespace Go.Proofs.Ytilejcnbacmdnaa
open Go Go.Sep
set_option linter.unusedSimpArgs false
set_option linter.unusedVariables false
set_option maxRecDepth 100000

/-! ### bytes of one's own, and lists of them -/
abbrev BS := List UInt8 × Sl
def bsV (x : BS) : Value := x.2.val
def bsB (x : BS) : HProp := Bytes ty_uint8 x.2 x.1
theorem bsV_flat (l : List BS) : ∀ v ∈ l.map bsV, flatV v = true := fun v hv => by
  obtain ⟨x, _, rfl⟩ := List.mem_map.1 hv
  rfl

structure PacketD where
  ep : Int
  pe : Int
  sq : Int
  ak : Int
  da : List UInt8
  deriving DecidableEq
abbrev pkV (p : PacketD) (d : Sl) : Array Value := #[.int .u64 p.ep, .int .u64 p.pe, .int .u64 p.sq, .int .u64 p.ak, d.val]
def pkF (x : PacketD × Sl) : List Value := [.int .u64 x.1.ep, .int .u64 x.1.pe, .int .u64 x.1.sq, .int .u64 x.1.ak, x.2.val]
def pkB (x : PacketD × Sl) : HProp := Bytes ty_uint8 x.2 x.1.da
theorem pkF_len (x : PacketD × Sl) : (pkF x).length = 5 := rfl
theorem pkF_flat (l : List (PacketD × Sl)) : ∀ v ∈ l.flatMap pkF, flatV v = true := fun v hv => by
  obtain ⟨x, _, hx⟩ := List.mem_flatMap.1 hv
  simp only [pkF, List.mem_cons, List.not_mem_nil, or_false] at hx
  rcases hx with rfl | rfl | rfl | rfl | rfl <;> rfl

/-! ### the plain law of a side -/
structure LinkD where
  ep : Int
  pe : Int
  ba : Int
  ex : Int
  out : List (List UInt8)
  early : List (Int × List UInt8)

/-- The numbers are no greater than N. -/
structure LinkD.ok (d : LinkD) (N : Int) : Prop where
  ba1 : 1 ≤ d.ba
  baN : d.ba + d.out.length ≤ N
  ex1 : 1 ≤ d.ex
  exN : d.ex + d.early.length ≤ N
  sz : ∀ x ∈ d.out, x.length ≤ 1000000000
  few : d.out.length ≤ 16

def LinkD.helloP (d : LinkD) : PacketD := ⟨d.ep, d.pe, 0, d.ex - 1, []⟩
def LinkD.packets (d : LinkD) : List PacketD :=
  if d.out ≠ [] ∧ d.pe = 0 then [⟨d.ep, 0, 0, 0, []⟩] else d.out.zipIdx.map fun x => ⟨d.ep, d.pe, d.ba + x.2, d.ex - 1, x.1⟩
def LinkD.meet (d : LinkD) (e : Int) : LinkD := if d.pe < e then { d with pe := e, ex := 1, ba := 1, early := [] } else d
def ackL (ack : Int) : List (List UInt8) → Int → List (List UInt8) × Int
  | [], ba => ([], ba)
  | x :: o, ba => if ba ≤ ack then ackL ack o (ba + 1) else (x :: o, ba)
def LinkD.ack (d : LinkD) (a : Int) : LinkD := { d with out := (ackL a d.out d.ba).1, ba := (ackL a d.out d.ba).2 }
def drain : Nat → Int → List (Int × List UInt8) → Int × List (Int × List UInt8) × List (List UInt8)
  | 0, ex, e => (ex, e, [])
  | n + 1, ex, e => match mget ex e with
    | none => (ex, e, [])
    | some x => let r := drain n (ex + 1) (mdel ex e); (r.1, r.2.1, x :: r.2.2)
def LinkD.keep (d : LinkD) (p : PacketD) : LinkD :=
  if (mget p.sq d.early).isSome = false ∧ d.ex ≤ p.sq ∧ p.sq - d.ex < 16 then { d with early := d.early ++ [(p.sq, p.da)] } else d
def LinkD.drained (d : LinkD) : LinkD × List (List UInt8) :=
  let r := drain d.early.length d.ex d.early
  ({ d with ex := r.1, early := r.2.1 }, r.2.2)
def LinkD.receive (d : LinkD) (p : PacketD) : LinkD × List (List UInt8) × List PacketD :=
  if p.ep = 0 ∨ p.ep < d.pe then (d, [], []) else
  let d := d.meet p.ep
  if p.pe ≠ d.ep then (d, [], [d.helloP]) else
  let d := d.ack p.ak
  if p.sq = 0 then (d, [], []) else
  let d := d.keep p
  let r := d.drained
  (r.1, r.2, [r.1.helloP])

section
variable {B w : World} {Γ : List HProp}

def PkR (s : Sl) (l : List PacketD) : HProp := ex fun ls : List (PacketD × Sl) => stars [pur (ls.map Prod.fst = l), SlC ty_api_Packet 5 s (ls.flatMap pkF), stars (ls.map pkB)]
def BsR (s : Sl) (l : List (List UInt8)) : HProp := ex fun ls : List BS => stars [pur (ls.map Prod.fst = l), SlC ty_s_uint8 1 s (ls.map bsV), stars (ls.map bsB)]
theorem PkR.opens {s : Sl} {l : List PacketD} (h : Holds B (PkR s l :: Γ) w) : ∃ ls : List (PacketD × Sl), ls.map Prod.fst = l ∧ Holds B (SlC ty_api_Packet 5 s (ls.flatMap pkF) :: stars (ls.map pkB) :: Γ) w := by
  obtain ⟨ls, h⟩ := Holds.ex.1 h
  obtain ⟨hl, h⟩ := Holds.pur.1 (Holds.flat.1 h)
  exact ⟨ls, hl, h⟩
theorem PkR.shuts {s : Sl} {l : List PacketD} {ls : List (PacketD × Sl)} (hl : ls.map Prod.fst = l) (h : Holds B (SlC ty_api_Packet 5 s (ls.flatMap pkF) :: stars (ls.map pkB) :: Γ) w) : Holds B (PkR s l :: Γ) w :=
  Holds.ex.2 ⟨ls, Holds.flat.2 (Holds.pur.2 ⟨hl, h⟩)⟩
theorem BsR.opens {s : Sl} {l : List (List UInt8)} (h : Holds B (BsR s l :: Γ) w) : ∃ ls : List BS, ls.map Prod.fst = l ∧ Holds B (SlC ty_s_uint8 1 s (ls.map bsV) :: stars (ls.map bsB) :: Γ) w := by
  obtain ⟨ls, h⟩ := Holds.ex.1 h
  obtain ⟨hl, h⟩ := Holds.pur.1 (Holds.flat.1 h)
  exact ⟨ls, hl, h⟩
theorem BsR.shuts {s : Sl} {l : List (List UInt8)} {ls : List BS} (hl : ls.map Prod.fst = l) (h : Holds B (SlC ty_s_uint8 1 s (ls.map bsV) :: stars (ls.map bsB) :: Γ) w) : Holds B (BsR s l :: Γ) w :=
  Holds.ex.2 ⟨ls, Holds.flat.2 (Holds.pur.2 ⟨hl, h⟩)⟩
theorem BsR.nil (h : Holds B Γ w) : Holds B (BsR ⟨none, 0, 0⟩ [] :: Γ) w := BsR.shuts (ls := []) rfl (h.starsNil.nilSl _ _)
theorem PkR.nil (h : Holds B Γ w) : Holds B (PkR ⟨none, 0, 0⟩ [] :: Γ) w := PkR.shuts (ls := []) rfl (h.starsNil.nilSl _ _)
/-- One packet without data, just built. -/
theorem PkR.one {b : Nat} {p : PacketD} (hp : p.da = []) (h : Holds B (blk b (.cells (pkV p ⟨none, 0, 0⟩) ty_api_Packet (0, 0)) :: Γ) w) : Holds B (PkR ⟨some ⟨b, 0, none⟩, 1, 1⟩ [p] :: Γ) w := by
  refine PkR.shuts (ls := [(p, ⟨none, 0, 0⟩)]) rfl ?_
  have h1 : Holds B (SlC ty_api_Packet 5 ⟨some ⟨b, 0, none⟩, 1, 1⟩ (pkF (p, ⟨none, 0, 0⟩)) :: Γ) w := h.imp (blk_SlC rfl rfl)
  have h2 : Holds B (pkB (p, ⟨none, 0, 0⟩) :: SlC ty_api_Packet 5 ⟨some ⟨b, 0, none⟩, 1, 1⟩ (pkF (p, ⟨none, 0, 0⟩)) :: Γ) w := by
    have := h1.nilSl ty_uint8 1
    unfold pkB Bytes
    simp only [hp]
    exact this
  have h3 : Holds B (stars ([pkB (p, ⟨none, 0, 0⟩)]) :: SlC ty_api_Packet 5 ⟨some ⟨b, 0, none⟩, 1, 1⟩ (pkF (p, ⟨none, 0, 0⟩)) :: Γ) w := Holds.flat.2 h2
  exact h3.swap

/-! ### the side in memory -/
abbrev lnA (d : LinkD) (s : Sl) (mb : Nat) : Array Value := #[.int .u64 d.ep, .int .u64 d.pe, .int .u64 d.ba, .int .u64 d.ex, s.val, .map (some mb)]
def LinkC (b : Nat) (d : LinkD) (s : Sl) (mb : Nat) (outs : List BS) (es : List (Int × BS)) : List HProp :=
  [blk b (.cells (lnA d s mb) ty_link_Link (0, 0)), SlC ty_s_uint8 1 s (outs.map bsV), stars (outs.map bsB), MapR (Value.int .u64) bsV mb es, stars (es.map fun p => bsB p.2)]
def LinkR (b : Nat) (d : LinkD) : HProp := ex fun s : Sl => ex fun mb : Nat => ex fun outs : List BS => ex fun es : List (Int × BS) =>
  stars (pur (outs.map Prod.fst = d.out ∧ (es.map fun p => (p.1, p.2.1)) = d.early) :: LinkC b d s mb outs es)
theorem LinkR.opens {b : Nat} {d : LinkD} (h : Holds B (LinkR b d :: Γ) w) : ∃ (s : Sl) (mb : Nat) (outs : List BS) (es : List (Int × BS)), outs.map Prod.fst = d.out ∧ (es.map fun p => (p.1, p.2.1)) = d.early ∧ Holds B (blk b (.cells (lnA d s mb) ty_link_Link (0, 0)) :: SlC ty_s_uint8 1 s (outs.map bsV) :: stars (outs.map bsB) :: MapR (Value.int .u64) bsV mb es :: stars (es.map fun p => bsB p.2) :: Γ) w := by
  obtain ⟨s, h⟩ := Holds.ex.1 h
  obtain ⟨mb, h⟩ := Holds.ex.1 h
  obtain ⟨outs, h⟩ := Holds.ex.1 h
  obtain ⟨es, h⟩ := Holds.ex.1 h
  obtain ⟨⟨h1, h2⟩, h⟩ := Holds.pur.1 (Holds.flat.1 h)
  exact ⟨s, mb, outs, es, h1, h2, h⟩
theorem LinkR.shuts {b : Nat} {d : LinkD} {s : Sl} {mb : Nat} {outs : List BS} {es : List (Int × BS)} (h1 : outs.map Prod.fst = d.out) (h2 : (es.map fun p => (p.1, p.2.1)) = d.early)
    (h : Holds B (blk b (.cells (lnA d s mb) ty_link_Link (0, 0)) :: SlC ty_s_uint8 1 s (outs.map bsV) :: stars (outs.map bsB) :: MapR (Value.int .u64) bsV mb es :: stars (es.map fun p => bsB p.2) :: Γ) w) : Holds B (LinkR b d :: Γ) w :=
  Holds.ex.2 ⟨s, Holds.ex.2 ⟨mb, Holds.ex.2 ⟨outs, Holds.ex.2 ⟨es, Holds.flat.2 (Holds.pur.2 ⟨⟨h1, h2⟩, h⟩)⟩⟩⟩⟩

theorem mapL : mapIs Try.prog 105 (.int .u64) 22 := ⟨23, by kernel_rfl, by kernel_rfl⟩

theorem link_New_spec {ep : Int} {k : Option Addr → K} (h : Holds B Γ w) (hk : ∀ b w, Holds B (LinkR b ⟨ep, 0, 1, 1, [], []⟩ :: Γ) w → k (some ⟨b, 0, none⟩) w) : link_New.call ep k w := by
  refine link_New_ok _ _ _ ?_
  unfold link_New
  refine r_mkMap (d := .int .u64) (E := 22) (enc := Value.int .u64) (cV := bsV) h fun mb w h => ?_
  refine r_new h ?_
  clear h
  intro b w h
  try simp only [add_mk, Nat.zero_add, Nat.reduceAdd]
  refine hk b _ (LinkR.shuts (s := ⟨none, 0, 0⟩) (mb := mb) (outs := []) (es := []) rfl rfl ?_)
  have h1 := (h.starsNil).starsNil.nilSl ty_s_uint8 1
  have h2 : Holds B (SlC ty_s_uint8 1 ⟨none, 0, 0⟩ [] :: stars [] :: stars [] :: blk b (.cells (lnA ⟨ep, 0, 1, 1, [], []⟩ ⟨none, 0, 0⟩ mb) ty_link_Link (0, 0)) :: MapR (Value.int .u64) bsV mb [] :: Γ) w := h1
  clear h h1
  have h := h2
  clear h2
  replace h := h.pick 2 at2
  try simp only [List.set_cons_zero, List.set_cons_succ, List.eraseIdx_zero, List.eraseIdx_cons_zero, List.eraseIdx_cons_succ, List.setIfInBounds_toArray, List.tail_cons] at h
  replace h := h.pick 4 at4
  try simp only [List.set_cons_zero, List.set_cons_succ, List.eraseIdx_zero, List.eraseIdx_cons_zero, List.eraseIdx_cons_succ, List.setIfInBounds_toArray, List.tail_cons] at h
  replace h := h.pick 3 at3
  try simp only [List.set_cons_zero, List.set_cons_succ, List.eraseIdx_zero, List.eraseIdx_cons_zero, List.eraseIdx_cons_succ, List.setIfInBounds_toArray, List.tail_cons] at h
  replace h := h.pick 3 at3
  try simp only [List.set_cons_zero, List.set_cons_succ, List.eraseIdx_zero, List.eraseIdx_cons_zero, List.eraseIdx_cons_succ, List.setIfInBounds_toArray, List.tail_cons] at h
  replace h := h.pick 4 at4
  try simp only [List.set_cons_zero, List.set_cons_succ, List.eraseIdx_zero, List.eraseIdx_cons_zero, List.eraseIdx_cons_succ, List.setIfInBounds_toArray, List.tail_cons] at h
  exact h

theorem link_packet_spec {b : Nat} {d : LinkD} {s : Sl} {mb : Nat} {T : Nat} {k : Array Value → K} (hx : 1 ≤ d.ex) (hx2 : d.ex ≤ 4611686018427387904) (h : Holds B Γ w) (hm : blk b (.cells (lnA d s mb) T (0, 0)) ∈ Γ)
    (hk : ∀ w, Holds B Γ w → k (pkV d.helloP ⟨none, 0, 0⟩) w) : link_Link_packet.call (some ⟨b, 0, none⟩) k w := by
  refine link_Link_packet_ok _ _ _ ?_
  unfold link_Link_packet
  refine r_new h ?_
  clear h
  intro t2 w h
  try simp only [add_mk, Nat.zero_add, Nat.reduceAdd]
  refine r_dr h ?_
  clear h
  intro w h
  refine r_nn rfl ?_
  simp only [add_mk, Nat.zero_add]
  refine r_ld (x := d.ep) h rfl (List.mem_cons_of_mem _ hm) ?_ ?_
  · exact rfl
  refine r_ld (x := d.pe) h rfl (List.mem_cons_of_mem _ hm) ?_ ?_
  · exact rfl
  refine r_ld (x := d.ex) h rfl (List.mem_cons_of_mem _ hm) ?_ ?_
  · exact rfl
  refine r_ar (wrapU64 (by omega) (by omega)) ?_
  first | refine r_stN 0 h rfl (by with_reducible exact at0) ?_ ?_ (fun _ _ => nofz _) ?_ ?_ | refine r_stN 1 h rfl (by with_reducible exact at1) ?_ ?_ (fun _ _ => nofz _) ?_ ?_ | refine r_stN 2 h rfl (by with_reducible exact at2) ?_ ?_ (fun _ _ => nofz _) ?_ ?_ | refine r_stN 3 h rfl (by with_reducible exact at3) ?_ ?_ (fun _ _ => nofz _) ?_ ?_ | refine r_stN 4 h rfl (by with_reducible exact at4) ?_ ?_ (fun _ _ => nofz _) ?_ ?_ | refine r_stN 5 h rfl (by with_reducible exact at5) ?_ ?_ (fun _ _ => nofz _) ?_ ?_ | refine r_stN 6 h rfl (by with_reducible exact at6) ?_ ?_ (fun _ _ => nofz _) ?_ ?_ | refine r_stN 7 h rfl (by with_reducible exact at7) ?_ ?_ (fun _ _ => nofz _) ?_ ?_
  · rfl
  · rfl
  · simp [flatV]
  clear h
  intro w h
  try simp only [List.set_cons_zero, List.set_cons_succ, List.eraseIdx_zero, List.eraseIdx_cons_zero, List.eraseIdx_cons_succ, List.setIfInBounds_toArray, List.tail_cons] at h
  refine r_ldN h rfl (by first | (with_reducible exact List.mem_cons_self) | (with_reducible exact List.mem_cons_of_mem _ (List.mem_cons_self)) | (with_reducible exact List.mem_cons_of_mem _ (List.mem_cons_of_mem _ (List.mem_cons_self))) | (with_reducible exact List.mem_cons_of_mem _ (List.mem_cons_of_mem _ (List.mem_cons_of_mem _ (List.mem_cons_self)))) | (with_reducible exact List.mem_cons_of_mem _ (List.mem_cons_of_mem _ (List.mem_cons_of_mem _ (List.mem_cons_of_mem _ (List.mem_cons_self))))) | (with_reducible exact List.mem_cons_of_mem _ (List.mem_cons_of_mem _ (List.mem_cons_of_mem _ (List.mem_cons_of_mem _ (List.mem_cons_of_mem _ (List.mem_cons_self)))))) | (with_reducible exact List.mem_cons_of_mem _ (List.mem_cons_of_mem _ (List.mem_cons_of_mem _ (List.mem_cons_of_mem _ (List.mem_cons_of_mem _ (List.mem_cons_of_mem _ (List.mem_cons_self))))))) | (with_reducible exact List.mem_cons_of_mem _ (List.mem_cons_of_mem _ (List.mem_cons_of_mem _ (List.mem_cons_of_mem _ (List.mem_cons_of_mem _ (List.mem_cons_of_mem _ (List.mem_cons_of_mem _ (List.mem_cons_self)))))))) | (with_reducible exact List.mem_cons_of_mem _ (List.mem_cons_of_mem _ (List.mem_cons_of_mem _ (List.mem_cons_of_mem _ (List.mem_cons_of_mem _ (List.mem_cons_of_mem _ (List.mem_cons_of_mem _ (List.mem_cons_of_mem _ (List.mem_cons_self))))))))) | (with_reducible exact List.mem_cons_of_mem _ (List.mem_cons_of_mem _ (List.mem_cons_of_mem _ (List.mem_cons_of_mem _ (List.mem_cons_of_mem _ (List.mem_cons_of_mem _ (List.mem_cons_of_mem _ (List.mem_cons_of_mem _ (List.mem_cons_of_mem _ (List.mem_cons_self)))))))))) | (with_reducible exact List.mem_cons_of_mem _ (List.mem_cons_of_mem _ (List.mem_cons_of_mem _ (List.mem_cons_of_mem _ (List.mem_cons_of_mem _ (List.mem_cons_of_mem _ (List.mem_cons_of_mem _ (List.mem_cons_of_mem _ (List.mem_cons_of_mem _ (List.mem_cons_of_mem _ (List.mem_cons_self))))))))))) | (with_reducible exact List.mem_cons_of_mem _ (List.mem_cons_of_mem _ (List.mem_cons_of_mem _ (List.mem_cons_of_mem _ (List.mem_cons_of_mem _ (List.mem_cons_of_mem _ (List.mem_cons_of_mem _ (List.mem_cons_of_mem _ (List.mem_cons_of_mem _ (List.mem_cons_of_mem _ (List.mem_cons_of_mem _ (List.mem_cons_self)))))))))))) | (with_reducible exact List.mem_cons_of_mem _ (List.mem_cons_of_mem _ (List.mem_cons_of_mem _ (List.mem_cons_of_mem _ (List.mem_cons_of_mem _ (List.mem_cons_of_mem _ (List.mem_cons_of_mem _ (List.mem_cons_of_mem _ (List.mem_cons_of_mem _ (List.mem_cons_of_mem _ (List.mem_cons_of_mem _ (List.mem_cons_of_mem _ (List.mem_cons_self)))))))))))))) ?_ ?_
  · rfl
  exact hk _ h.tail

theorem link_Open_spec {b : Nat} {d : LinkD} {k : Int → K} (h : Holds B (LinkR b d :: Γ) w) (hk : ∀ w, Holds B (LinkR b d :: Γ) w → k (d.out.length : Int) w) : link_Link_Open.call (some ⟨b, 0, none⟩) k w := by
  refine link_Link_Open_ok _ _ _ ?_
  unfold link_Link_Open
  obtain ⟨s, mb, outs, es, h1, h2, h⟩ := LinkR.opens h
  refine r_nn rfl ?_
  simp only [add_mk, Nat.zero_add]
  have hn := h.tail.slCap.1
  have hd := congrArg List.length h1
  simp only [List.length_map] at hn hd
  refine r_ld (x := s) h rfl (by first | (with_reducible exact List.mem_cons_self) | (with_reducible exact List.mem_cons_of_mem _ (List.mem_cons_self)) | (with_reducible exact List.mem_cons_of_mem _ (List.mem_cons_of_mem _ (List.mem_cons_self))) | (with_reducible exact List.mem_cons_of_mem _ (List.mem_cons_of_mem _ (List.mem_cons_of_mem _ (List.mem_cons_self)))) | (with_reducible exact List.mem_cons_of_mem _ (List.mem_cons_of_mem _ (List.mem_cons_of_mem _ (List.mem_cons_of_mem _ (List.mem_cons_self))))) | (with_reducible exact List.mem_cons_of_mem _ (List.mem_cons_of_mem _ (List.mem_cons_of_mem _ (List.mem_cons_of_mem _ (List.mem_cons_of_mem _ (List.mem_cons_self)))))) | (with_reducible exact List.mem_cons_of_mem _ (List.mem_cons_of_mem _ (List.mem_cons_of_mem _ (List.mem_cons_of_mem _ (List.mem_cons_of_mem _ (List.mem_cons_of_mem _ (List.mem_cons_self))))))) | (with_reducible exact List.mem_cons_of_mem _ (List.mem_cons_of_mem _ (List.mem_cons_of_mem _ (List.mem_cons_of_mem _ (List.mem_cons_of_mem _ (List.mem_cons_of_mem _ (List.mem_cons_of_mem _ (List.mem_cons_self)))))))) | (with_reducible exact List.mem_cons_of_mem _ (List.mem_cons_of_mem _ (List.mem_cons_of_mem _ (List.mem_cons_of_mem _ (List.mem_cons_of_mem _ (List.mem_cons_of_mem _ (List.mem_cons_of_mem _ (List.mem_cons_of_mem _ (List.mem_cons_self))))))))) | (with_reducible exact List.mem_cons_of_mem _ (List.mem_cons_of_mem _ (List.mem_cons_of_mem _ (List.mem_cons_of_mem _ (List.mem_cons_of_mem _ (List.mem_cons_of_mem _ (List.mem_cons_of_mem _ (List.mem_cons_of_mem _ (List.mem_cons_of_mem _ (List.mem_cons_self)))))))))) | (with_reducible exact List.mem_cons_of_mem _ (List.mem_cons_of_mem _ (List.mem_cons_of_mem _ (List.mem_cons_of_mem _ (List.mem_cons_of_mem _ (List.mem_cons_of_mem _ (List.mem_cons_of_mem _ (List.mem_cons_of_mem _ (List.mem_cons_of_mem _ (List.mem_cons_of_mem _ (List.mem_cons_self))))))))))) | (with_reducible exact List.mem_cons_of_mem _ (List.mem_cons_of_mem _ (List.mem_cons_of_mem _ (List.mem_cons_of_mem _ (List.mem_cons_of_mem _ (List.mem_cons_of_mem _ (List.mem_cons_of_mem _ (List.mem_cons_of_mem _ (List.mem_cons_of_mem _ (List.mem_cons_of_mem _ (List.mem_cons_of_mem _ (List.mem_cons_self)))))))))))) | (with_reducible exact List.mem_cons_of_mem _ (List.mem_cons_of_mem _ (List.mem_cons_of_mem _ (List.mem_cons_of_mem _ (List.mem_cons_of_mem _ (List.mem_cons_of_mem _ (List.mem_cons_of_mem _ (List.mem_cons_of_mem _ (List.mem_cons_of_mem _ (List.mem_cons_of_mem _ (List.mem_cons_of_mem _ (List.mem_cons_of_mem _ (List.mem_cons_self)))))))))))))) ?_ ?_
  · exact rfl
  have : (s.n : Int) = d.out.length := by omega
  rw [this]
  exact hk _ (LinkR.shuts h1 h2 h)

theorem link_Peer_spec {b : Nat} {d : LinkD} {k : Int → K} (h : Holds B (LinkR b d :: Γ) w) (hk : ∀ w, Holds B (LinkR b d :: Γ) w → k d.pe w) : link_Link_Peer.call (some ⟨b, 0, none⟩) k w := by
  refine link_Link_Peer_ok _ _ _ ?_
  unfold link_Link_Peer
  obtain ⟨s, mb, outs, es, h1, h2, h⟩ := LinkR.opens h
  refine r_nn rfl ?_
  simp only [add_mk, Nat.zero_add]
  refine r_ld (x := d.pe) h rfl (by first | (with_reducible exact List.mem_cons_self) | (with_reducible exact List.mem_cons_of_mem _ (List.mem_cons_self)) | (with_reducible exact List.mem_cons_of_mem _ (List.mem_cons_of_mem _ (List.mem_cons_self))) | (with_reducible exact List.mem_cons_of_mem _ (List.mem_cons_of_mem _ (List.mem_cons_of_mem _ (List.mem_cons_self)))) | (with_reducible exact List.mem_cons_of_mem _ (List.mem_cons_of_mem _ (List.mem_cons_of_mem _ (List.mem_cons_of_mem _ (List.mem_cons_self))))) | (with_reducible exact List.mem_cons_of_mem _ (List.mem_cons_of_mem _ (List.mem_cons_of_mem _ (List.mem_cons_of_mem _ (List.mem_cons_of_mem _ (List.mem_cons_self)))))) | (with_reducible exact List.mem_cons_of_mem _ (List.mem_cons_of_mem _ (List.mem_cons_of_mem _ (List.mem_cons_of_mem _ (List.mem_cons_of_mem _ (List.mem_cons_of_mem _ (List.mem_cons_self))))))) | (with_reducible exact List.mem_cons_of_mem _ (List.mem_cons_of_mem _ (List.mem_cons_of_mem _ (List.mem_cons_of_mem _ (List.mem_cons_of_mem _ (List.mem_cons_of_mem _ (List.mem_cons_of_mem _ (List.mem_cons_self)))))))) | (with_reducible exact List.mem_cons_of_mem _ (List.mem_cons_of_mem _ (List.mem_cons_of_mem _ (List.mem_cons_of_mem _ (List.mem_cons_of_mem _ (List.mem_cons_of_mem _ (List.mem_cons_of_mem _ (List.mem_cons_of_mem _ (List.mem_cons_self))))))))) | (with_reducible exact List.mem_cons_of_mem _ (List.mem_cons_of_mem _ (List.mem_cons_of_mem _ (List.mem_cons_of_mem _ (List.mem_cons_of_mem _ (List.mem_cons_of_mem _ (List.mem_cons_of_mem _ (List.mem_cons_of_mem _ (List.mem_cons_of_mem _ (List.mem_cons_self)))))))))) | (with_reducible exact List.mem_cons_of_mem _ (List.mem_cons_of_mem _ (List.mem_cons_of_mem _ (List.mem_cons_of_mem _ (List.mem_cons_of_mem _ (List.mem_cons_of_mem _ (List.mem_cons_of_mem _ (List.mem_cons_of_mem _ (List.mem_cons_of_mem _ (List.mem_cons_of_mem _ (List.mem_cons_self))))))))))) | (with_reducible exact List.mem_cons_of_mem _ (List.mem_cons_of_mem _ (List.mem_cons_of_mem _ (List.mem_cons_of_mem _ (List.mem_cons_of_mem _ (List.mem_cons_of_mem _ (List.mem_cons_of_mem _ (List.mem_cons_of_mem _ (List.mem_cons_of_mem _ (List.mem_cons_of_mem _ (List.mem_cons_of_mem _ (List.mem_cons_self)))))))))))) | (with_reducible exact List.mem_cons_of_mem _ (List.mem_cons_of_mem _ (List.mem_cons_of_mem _ (List.mem_cons_of_mem _ (List.mem_cons_of_mem _ (List.mem_cons_of_mem _ (List.mem_cons_of_mem _ (List.mem_cons_of_mem _ (List.mem_cons_of_mem _ (List.mem_cons_of_mem _ (List.mem_cons_of_mem _ (List.mem_cons_of_mem _ (List.mem_cons_self)))))))))))))) ?_ ?_
  · exact rfl
  exact hk _ (LinkR.shuts h1 h2 h)

theorem link_Send_spec {b : Nat} {d : LinkD} {data : Sl} {xs : List UInt8} {k : Int → K} (h : Holds B (LinkR b d :: Γ) w) (hr : ∀ w, Holds B (LinkR b d :: Γ) w → RdB w data xs) (hl : xs.length ≤ 1000000000)
    (hfull : 16 ≤ d.out.length → ∀ w, Holds B (LinkR b d :: Γ) w → k 2 w) (hk : d.out.length < 16 → ∀ w, Holds B (LinkR b { d with out := d.out ++ [xs] } :: Γ) w → k 0 w) :
    link_Link_Send.call (some ⟨b, 0, none⟩) data k w := by
  refine link_Link_Send_ok _ _ _ _ ?_
  unfold link_Link_Send
  obtain ⟨s, mb, outs, es, h1, h2, h⟩ := LinkR.opens h
  refine r_nn rfl ?_
  simp only [add_mk, Nat.zero_add]
  have hn := h.tail.slCap.1
  have hd := congrArg List.length h1
  simp only [List.length_map] at hn hd
  refine r_ld (x := s) h rfl (by first | (with_reducible exact List.mem_cons_self) | (with_reducible exact List.mem_cons_of_mem _ (List.mem_cons_self)) | (with_reducible exact List.mem_cons_of_mem _ (List.mem_cons_of_mem _ (List.mem_cons_self))) | (with_reducible exact List.mem_cons_of_mem _ (List.mem_cons_of_mem _ (List.mem_cons_of_mem _ (List.mem_cons_self)))) | (with_reducible exact List.mem_cons_of_mem _ (List.mem_cons_of_mem _ (List.mem_cons_of_mem _ (List.mem_cons_of_mem _ (List.mem_cons_self))))) | (with_reducible exact List.mem_cons_of_mem _ (List.mem_cons_of_mem _ (List.mem_cons_of_mem _ (List.mem_cons_of_mem _ (List.mem_cons_of_mem _ (List.mem_cons_self)))))) | (with_reducible exact List.mem_cons_of_mem _ (List.mem_cons_of_mem _ (List.mem_cons_of_mem _ (List.mem_cons_of_mem _ (List.mem_cons_of_mem _ (List.mem_cons_of_mem _ (List.mem_cons_self))))))) | (with_reducible exact List.mem_cons_of_mem _ (List.mem_cons_of_mem _ (List.mem_cons_of_mem _ (List.mem_cons_of_mem _ (List.mem_cons_of_mem _ (List.mem_cons_of_mem _ (List.mem_cons_of_mem _ (List.mem_cons_self)))))))) | (with_reducible exact List.mem_cons_of_mem _ (List.mem_cons_of_mem _ (List.mem_cons_of_mem _ (List.mem_cons_of_mem _ (List.mem_cons_of_mem _ (List.mem_cons_of_mem _ (List.mem_cons_of_mem _ (List.mem_cons_of_mem _ (List.mem_cons_self))))))))) | (with_reducible exact List.mem_cons_of_mem _ (List.mem_cons_of_mem _ (List.mem_cons_of_mem _ (List.mem_cons_of_mem _ (List.mem_cons_of_mem _ (List.mem_cons_of_mem _ (List.mem_cons_of_mem _ (List.mem_cons_of_mem _ (List.mem_cons_of_mem _ (List.mem_cons_self)))))))))) | (with_reducible exact List.mem_cons_of_mem _ (List.mem_cons_of_mem _ (List.mem_cons_of_mem _ (List.mem_cons_of_mem _ (List.mem_cons_of_mem _ (List.mem_cons_of_mem _ (List.mem_cons_of_mem _ (List.mem_cons_of_mem _ (List.mem_cons_of_mem _ (List.mem_cons_of_mem _ (List.mem_cons_self))))))))))) | (with_reducible exact List.mem_cons_of_mem _ (List.mem_cons_of_mem _ (List.mem_cons_of_mem _ (List.mem_cons_of_mem _ (List.mem_cons_of_mem _ (List.mem_cons_of_mem _ (List.mem_cons_of_mem _ (List.mem_cons_of_mem _ (List.mem_cons_of_mem _ (List.mem_cons_of_mem _ (List.mem_cons_of_mem _ (List.mem_cons_self)))))))))))) | (with_reducible exact List.mem_cons_of_mem _ (List.mem_cons_of_mem _ (List.mem_cons_of_mem _ (List.mem_cons_of_mem _ (List.mem_cons_of_mem _ (List.mem_cons_of_mem _ (List.mem_cons_of_mem _ (List.mem_cons_of_mem _ (List.mem_cons_of_mem _ (List.mem_cons_of_mem _ (List.mem_cons_of_mem _ (List.mem_cons_of_mem _ (List.mem_cons_self)))))))))))))) ?_ ?_
  · exact rfl
  refine r_ite (fun hb => ?_) (fun hb => ?_)
  · simp only [decide_eq_true_eq] at hb
    exact hfull (by omega) _ (LinkR.shuts h1 h2 h)
  · simp only [decide_eq_false_iff_not] at hb
    refine r_dr h ?_
    clear h
    intro w h
    refine r_withS h ?_
    refine r_ldS (x := s) rfl (by first | (with_reducible exact List.mem_cons_self) | (with_reducible exact List.mem_cons_of_mem _ (List.mem_cons_self)) | (with_reducible exact List.mem_cons_of_mem _ (List.mem_cons_of_mem _ (List.mem_cons_self))) | (with_reducible exact List.mem_cons_of_mem _ (List.mem_cons_of_mem _ (List.mem_cons_of_mem _ (List.mem_cons_self)))) | (with_reducible exact List.mem_cons_of_mem _ (List.mem_cons_of_mem _ (List.mem_cons_of_mem _ (List.mem_cons_of_mem _ (List.mem_cons_self))))) | (with_reducible exact List.mem_cons_of_mem _ (List.mem_cons_of_mem _ (List.mem_cons_of_mem _ (List.mem_cons_of_mem _ (List.mem_cons_of_mem _ (List.mem_cons_self)))))) | (with_reducible exact List.mem_cons_of_mem _ (List.mem_cons_of_mem _ (List.mem_cons_of_mem _ (List.mem_cons_of_mem _ (List.mem_cons_of_mem _ (List.mem_cons_of_mem _ (List.mem_cons_self))))))) | (with_reducible exact List.mem_cons_of_mem _ (List.mem_cons_of_mem _ (List.mem_cons_of_mem _ (List.mem_cons_of_mem _ (List.mem_cons_of_mem _ (List.mem_cons_of_mem _ (List.mem_cons_of_mem _ (List.mem_cons_self)))))))) | (with_reducible exact List.mem_cons_of_mem _ (List.mem_cons_of_mem _ (List.mem_cons_of_mem _ (List.mem_cons_of_mem _ (List.mem_cons_of_mem _ (List.mem_cons_of_mem _ (List.mem_cons_of_mem _ (List.mem_cons_of_mem _ (List.mem_cons_self))))))))) | (with_reducible exact List.mem_cons_of_mem _ (List.mem_cons_of_mem _ (List.mem_cons_of_mem _ (List.mem_cons_of_mem _ (List.mem_cons_of_mem _ (List.mem_cons_of_mem _ (List.mem_cons_of_mem _ (List.mem_cons_of_mem _ (List.mem_cons_of_mem _ (List.mem_cons_self)))))))))) | (with_reducible exact List.mem_cons_of_mem _ (List.mem_cons_of_mem _ (List.mem_cons_of_mem _ (List.mem_cons_of_mem _ (List.mem_cons_of_mem _ (List.mem_cons_of_mem _ (List.mem_cons_of_mem _ (List.mem_cons_of_mem _ (List.mem_cons_of_mem _ (List.mem_cons_of_mem _ (List.mem_cons_self))))))))))) | (with_reducible exact List.mem_cons_of_mem _ (List.mem_cons_of_mem _ (List.mem_cons_of_mem _ (List.mem_cons_of_mem _ (List.mem_cons_of_mem _ (List.mem_cons_of_mem _ (List.mem_cons_of_mem _ (List.mem_cons_of_mem _ (List.mem_cons_of_mem _ (List.mem_cons_of_mem _ (List.mem_cons_of_mem _ (List.mem_cons_self)))))))))))) | (with_reducible exact List.mem_cons_of_mem _ (List.mem_cons_of_mem _ (List.mem_cons_of_mem _ (List.mem_cons_of_mem _ (List.mem_cons_of_mem _ (List.mem_cons_of_mem _ (List.mem_cons_of_mem _ (List.mem_cons_of_mem _ (List.mem_cons_of_mem _ (List.mem_cons_of_mem _ (List.mem_cons_of_mem _ (List.mem_cons_of_mem _ (List.mem_cons_self)))))))))))))) ?_ ?_
    · exact rfl
    refine bytes_Clone_spec h (fun w h => hr w (LinkR.shuts h1 h2 h)) hl fun d' w h _ => ?_
    refine r_sv h.tail ?_
    refine r_new h ?_
    clear h
    intro t18 w h
    try simp only [add_mk, Nat.zero_add, Nat.reduceAdd]
    refine r_sv h.tail.tail ?_
    have hx := RdC.of_blk (n := 1) (esz := 1) h List.mem_cons_self (vs := [d'.val]) rfl rfl 1
    refine r_append (h.pick 3 at3) (by kernel_rfl) (by kernel_rfl) (by' := 24) (by kernel_rfl) zero_ty_s_uint8 rfl hx (flat_all rfl) (by simp only; omega) (by decide) fun s' w h _ _ => ?_
    try simp only [List.set_cons_zero, List.set_cons_succ, List.eraseIdx_zero, List.eraseIdx_cons_zero, List.eraseIdx_cons_succ, List.setIfInBounds_toArray, List.tail_cons] at h
    first | refine r_st 0 h rfl (by with_reducible exact at0) ?_ (nofz _) rfl ?_ | refine r_st 1 h rfl (by with_reducible exact at1) ?_ (nofz _) rfl ?_ | refine r_st 2 h rfl (by with_reducible exact at2) ?_ (nofz _) rfl ?_ | refine r_st 3 h rfl (by with_reducible exact at3) ?_ (nofz _) rfl ?_ | refine r_st 4 h rfl (by with_reducible exact at4) ?_ (nofz _) rfl ?_ | refine r_st 5 h rfl (by with_reducible exact at5) ?_ (nofz _) rfl ?_ | refine r_st 6 h rfl (by with_reducible exact at6) ?_ (nofz _) rfl ?_ | refine r_st 7 h rfl (by with_reducible exact at7) ?_ (nofz _) rfl ?_
    · first | exact Nat.lt_of_ble_eq_true rfl | (simp; done) | (simp; omega)
    clear h
    intro w h
    try simp only [List.set_cons_zero, List.set_cons_succ, List.eraseIdx_zero, List.eraseIdx_cons_zero, List.eraseIdx_cons_succ, List.setIfInBounds_toArray, List.tail_cons] at h
    have e : outs.map bsV ++ [d'.val] = (outs ++ [(xs, d')]).map bsV := by simp [bsV]
    rw [e] at h
    replace h := h.pick 6 at6
    try simp only [List.set_cons_zero, List.set_cons_succ, List.eraseIdx_zero, List.eraseIdx_cons_zero, List.eraseIdx_cons_succ, List.setIfInBounds_toArray, List.tail_cons] at h
    replace h := h.pick 6 at6
    try simp only [List.set_cons_zero, List.set_cons_succ, List.eraseIdx_zero, List.eraseIdx_cons_zero, List.eraseIdx_cons_succ, List.setIfInBounds_toArray, List.tail_cons] at h
    replace h := h.pick 2 at2
    try simp only [List.set_cons_zero, List.set_cons_succ, List.eraseIdx_zero, List.eraseIdx_cons_zero, List.eraseIdx_cons_succ, List.setIfInBounds_toArray, List.tail_cons] at h
    replace h := h.pick 5 at5
    try simp only [List.set_cons_zero, List.set_cons_succ, List.eraseIdx_zero, List.eraseIdx_cons_zero, List.eraseIdx_cons_succ, List.setIfInBounds_toArray, List.tail_cons] at h
    replace h := h.pick 5 at5
    try simp only [List.set_cons_zero, List.set_cons_succ, List.eraseIdx_zero, List.eraseIdx_cons_zero, List.eraseIdx_cons_succ, List.setIfInBounds_toArray, List.tail_cons] at h
    replace h := h.pick 6 at6
    try simp only [List.set_cons_zero, List.set_cons_succ, List.eraseIdx_zero, List.eraseIdx_cons_zero, List.eraseIdx_cons_succ, List.setIfInBounds_toArray, List.tail_cons] at h
    replace h := h.del 6 at6
    try simp only [List.set_cons_zero, List.set_cons_succ, List.eraseIdx_zero, List.eraseIdx_cons_zero, List.eraseIdx_cons_succ, List.setIfInBounds_toArray, List.tail_cons] at h
    have h3 := stars_put (x := (xs, d')) h
    clear h
    have h := h3
    clear h3
    replace h := h.pick 4 at4
    try simp only [List.set_cons_zero, List.set_cons_succ, List.eraseIdx_zero, List.eraseIdx_cons_zero, List.eraseIdx_cons_succ, List.setIfInBounds_toArray, List.tail_cons] at h
    replace h := h.pick 4 at4
    try simp only [List.set_cons_zero, List.set_cons_succ, List.eraseIdx_zero, List.eraseIdx_cons_zero, List.eraseIdx_cons_succ, List.setIfInBounds_toArray, List.tail_cons] at h
    replace h := h.pick 2 at2
    try simp only [List.set_cons_zero, List.set_cons_succ, List.eraseIdx_zero, List.eraseIdx_cons_zero, List.eraseIdx_cons_succ, List.setIfInBounds_toArray, List.tail_cons] at h
    replace h := h.pick 3 at3
    try simp only [List.set_cons_zero, List.set_cons_succ, List.eraseIdx_zero, List.eraseIdx_cons_zero, List.eraseIdx_cons_succ, List.setIfInBounds_toArray, List.tail_cons] at h
    replace h := h.pick 4 at4
    try simp only [List.set_cons_zero, List.set_cons_succ, List.eraseIdx_zero, List.eraseIdx_cons_zero, List.eraseIdx_cons_succ, List.setIfInBounds_toArray, List.tail_cons] at h
    exact hk (by omega) _ (LinkR.shuts (outs := outs ++ [(xs, d')]) (by simp [h1]) h2 h.swap)

/-! ### packets -/
def pksOf (d : LinkD) (o : List (List UInt8)) : List PacketD := o.zipIdx.map fun x => ⟨d.ep, d.pe, d.ba + x.2, d.ex - 1, x.1⟩
theorem pksOf_snoc (d : LinkD) (o : List (List UInt8)) (x : List UInt8) : pksOf d (o ++ [x]) = pksOf d o ++ [⟨d.ep, d.pe, d.ba + o.length, d.ex - 1, x⟩] := by
  simp [pksOf, List.zipIdx_append]

theorem link_Packets_spec {b : Nat} {d : LinkD} {k : Sl → K} (hok : d.ok 1000000000000) (h : Holds B (LinkR b d :: Γ) w) (hk : ∀ s w, Holds B (PkR s d.packets :: LinkR b d :: Γ) w → k s w) : link_Link_Packets.call (some ⟨b, 0, none⟩) k w := by
  obtain ⟨hba1, hbaN, hex1, hexN, hsz, hfew⟩ := hok
  refine link_Link_Packets_ok _ _ _ ?_
  unfold link_Link_Packets
  obtain ⟨s, mb, outs, es, h1, h2, h⟩ := LinkR.opens h
  refine r_nn rfl ?_
  simp only [add_mk, Nat.zero_add]
  have hn := h.tail.slCap.1
  have hd := congrArg List.length h1
  simp only [List.length_map] at hn hd
  have key : ¬ (d.out ≠ [] ∧ d.pe = 0) → link_Link_Packets.s1 k (some ⟨b, 0, none⟩) false w := by
    intro hne
    have hp : d.packets = pksOf d d.out := by unfold LinkD.packets pksOf; rw [if_neg hne]
    unfold link_Link_Packets.s1
    refine r_ite_f rfl ?_
    refine r_nn rfl ?_
    simp only [add_mk, Nat.zero_add]
    refine r_ld (x := s) h rfl (by first | (with_reducible exact List.mem_cons_self) | (with_reducible exact List.mem_cons_of_mem _ (List.mem_cons_self)) | (with_reducible exact List.mem_cons_of_mem _ (List.mem_cons_of_mem _ (List.mem_cons_self))) | (with_reducible exact List.mem_cons_of_mem _ (List.mem_cons_of_mem _ (List.mem_cons_of_mem _ (List.mem_cons_self)))) | (with_reducible exact List.mem_cons_of_mem _ (List.mem_cons_of_mem _ (List.mem_cons_of_mem _ (List.mem_cons_of_mem _ (List.mem_cons_self))))) | (with_reducible exact List.mem_cons_of_mem _ (List.mem_cons_of_mem _ (List.mem_cons_of_mem _ (List.mem_cons_of_mem _ (List.mem_cons_of_mem _ (List.mem_cons_self)))))) | (with_reducible exact List.mem_cons_of_mem _ (List.mem_cons_of_mem _ (List.mem_cons_of_mem _ (List.mem_cons_of_mem _ (List.mem_cons_of_mem _ (List.mem_cons_of_mem _ (List.mem_cons_self))))))) | (with_reducible exact List.mem_cons_of_mem _ (List.mem_cons_of_mem _ (List.mem_cons_of_mem _ (List.mem_cons_of_mem _ (List.mem_cons_of_mem _ (List.mem_cons_of_mem _ (List.mem_cons_of_mem _ (List.mem_cons_self)))))))) | (with_reducible exact List.mem_cons_of_mem _ (List.mem_cons_of_mem _ (List.mem_cons_of_mem _ (List.mem_cons_of_mem _ (List.mem_cons_of_mem _ (List.mem_cons_of_mem _ (List.mem_cons_of_mem _ (List.mem_cons_of_mem _ (List.mem_cons_self))))))))) | (with_reducible exact List.mem_cons_of_mem _ (List.mem_cons_of_mem _ (List.mem_cons_of_mem _ (List.mem_cons_of_mem _ (List.mem_cons_of_mem _ (List.mem_cons_of_mem _ (List.mem_cons_of_mem _ (List.mem_cons_of_mem _ (List.mem_cons_of_mem _ (List.mem_cons_self)))))))))) | (with_reducible exact List.mem_cons_of_mem _ (List.mem_cons_of_mem _ (List.mem_cons_of_mem _ (List.mem_cons_of_mem _ (List.mem_cons_of_mem _ (List.mem_cons_of_mem _ (List.mem_cons_of_mem _ (List.mem_cons_of_mem _ (List.mem_cons_of_mem _ (List.mem_cons_of_mem _ (List.mem_cons_self))))))))))) | (with_reducible exact List.mem_cons_of_mem _ (List.mem_cons_of_mem _ (List.mem_cons_of_mem _ (List.mem_cons_of_mem _ (List.mem_cons_of_mem _ (List.mem_cons_of_mem _ (List.mem_cons_of_mem _ (List.mem_cons_of_mem _ (List.mem_cons_of_mem _ (List.mem_cons_of_mem _ (List.mem_cons_of_mem _ (List.mem_cons_self)))))))))))) | (with_reducible exact List.mem_cons_of_mem _ (List.mem_cons_of_mem _ (List.mem_cons_of_mem _ (List.mem_cons_of_mem _ (List.mem_cons_of_mem _ (List.mem_cons_of_mem _ (List.mem_cons_of_mem _ (List.mem_cons_of_mem _ (List.mem_cons_of_mem _ (List.mem_cons_of_mem _ (List.mem_cons_of_mem _ (List.mem_cons_of_mem _ (List.mem_cons_self)))))))))))))) ?_ ?_
    · exact rfl
    refine LoopK.of (α := Sl × Int) (fun t w => ∃ j : Nat, t.2 = (j : Int) ∧ j ≤ outs.length ∧ ∃ ls : List (PacketD × Sl), ls.map Prod.fst = pksOf d (d.out.take j) ∧
        Holds B (SlC ty_api_Packet 5 t.1 (ls.flatMap pkF) :: stars (ls.map pkB) :: blk b (.cells (lnA d s mb) ty_link_Link (0, 0)) :: SlC ty_s_uint8 1 s (outs.map bsV) :: stars (outs.map bsB) :: MapR (Value.int .u64) bsV mb es :: stars (es.map fun p => bsB p.2) :: Γ) w)
      (fun t _ => ((s.n : Int) - t.2).toNat) ⟨0, rfl, by omega, [], rfl, h.starsNil.nilSl _ _⟩ ?_
    clear h
    rintro ⟨o2, t⟩ w ⟨j, ht, hj, ls, hls, h⟩
    simp only at ht h
    subst ht
    have hlsn : ls.length = j := by
      have := congrArg List.length hls
      simp [pksOf] at this; omega
    unfold link_Link_Packets.b2
    refine r_ite (fun hb => ?_) (fun hb => ?_)
    · simp only [decide_eq_true_eq] at hb
      have hjl : j < outs.length := by omega
      have hx : outs[j]? = some outs[j] := List.getElem?_eq_getElem hjl
      generalize outs[j] = x at hx
      have hdo : d.out[j]? = some x.1 := by rw [← h1, List.getElem?_map, hx]; rfl
      refine r_idx1 (c := Sl.val) (L := outs.map Prod.snd) (x := x.2) ?_ (by simp [hx]) ?_
      · have := h.rdC (List.mem_cons_of_mem _ (List.mem_cons_of_mem _ (List.mem_cons_of_mem _ List.mem_cons_self)))
        rw [List.map_map]; exact this
      refine link_packet_spec (d := d) (s := s) (mb := mb) (by omega) (by omega) h (List.mem_cons_of_mem _ (List.mem_cons_of_mem _ List.mem_cons_self)) fun w h => ?_
      refine r_new h ?_
      clear h
      intro p5 w h
      try simp only [add_mk, Nat.zero_add, Nat.reduceAdd]
      first | refine r_stN 0 h rfl (by with_reducible exact at0) ?_ ?_ (fun _ _ => nofz _) ?_ ?_ | refine r_stN 1 h rfl (by with_reducible exact at1) ?_ ?_ (fun _ _ => nofz _) ?_ ?_ | refine r_stN 2 h rfl (by with_reducible exact at2) ?_ ?_ (fun _ _ => nofz _) ?_ ?_ | refine r_stN 3 h rfl (by with_reducible exact at3) ?_ ?_ (fun _ _ => nofz _) ?_ ?_ | refine r_stN 4 h rfl (by with_reducible exact at4) ?_ ?_ (fun _ _ => nofz _) ?_ ?_ | refine r_stN 5 h rfl (by with_reducible exact at5) ?_ ?_ (fun _ _ => nofz _) ?_ ?_ | refine r_stN 6 h rfl (by with_reducible exact at6) ?_ ?_ (fun _ _ => nofz _) ?_ ?_ | refine r_stN 7 h rfl (by with_reducible exact at7) ?_ ?_ (fun _ _ => nofz _) ?_ ?_
      · rfl
      · rfl
      · simp [flatV]
      clear h
      intro w h
      try simp only [List.set_cons_zero, List.set_cons_succ, List.eraseIdx_zero, List.eraseIdx_cons_zero, List.eraseIdx_cons_succ, List.setIfInBounds_toArray, List.tail_cons] at h
      refine r_dr h ?_
      clear h
      intro w h
      refine r_withS h ?_
      refine r_ar (wrapU64 (by omega) (by omega)) ?_
      refine r_ldS (x := d.ba) rfl (by first | (with_reducible exact List.mem_cons_self) | (with_reducible exact List.mem_cons_of_mem _ (List.mem_cons_self)) | (with_reducible exact List.mem_cons_of_mem _ (List.mem_cons_of_mem _ (List.mem_cons_self))) | (with_reducible exact List.mem_cons_of_mem _ (List.mem_cons_of_mem _ (List.mem_cons_of_mem _ (List.mem_cons_self)))) | (with_reducible exact List.mem_cons_of_mem _ (List.mem_cons_of_mem _ (List.mem_cons_of_mem _ (List.mem_cons_of_mem _ (List.mem_cons_self))))) | (with_reducible exact List.mem_cons_of_mem _ (List.mem_cons_of_mem _ (List.mem_cons_of_mem _ (List.mem_cons_of_mem _ (List.mem_cons_of_mem _ (List.mem_cons_self)))))) | (with_reducible exact List.mem_cons_of_mem _ (List.mem_cons_of_mem _ (List.mem_cons_of_mem _ (List.mem_cons_of_mem _ (List.mem_cons_of_mem _ (List.mem_cons_of_mem _ (List.mem_cons_self))))))) | (with_reducible exact List.mem_cons_of_mem _ (List.mem_cons_of_mem _ (List.mem_cons_of_mem _ (List.mem_cons_of_mem _ (List.mem_cons_of_mem _ (List.mem_cons_of_mem _ (List.mem_cons_of_mem _ (List.mem_cons_self)))))))) | (with_reducible exact List.mem_cons_of_mem _ (List.mem_cons_of_mem _ (List.mem_cons_of_mem _ (List.mem_cons_of_mem _ (List.mem_cons_of_mem _ (List.mem_cons_of_mem _ (List.mem_cons_of_mem _ (List.mem_cons_of_mem _ (List.mem_cons_self))))))))) | (with_reducible exact List.mem_cons_of_mem _ (List.mem_cons_of_mem _ (List.mem_cons_of_mem _ (List.mem_cons_of_mem _ (List.mem_cons_of_mem _ (List.mem_cons_of_mem _ (List.mem_cons_of_mem _ (List.mem_cons_of_mem _ (List.mem_cons_of_mem _ (List.mem_cons_self)))))))))) | (with_reducible exact List.mem_cons_of_mem _ (List.mem_cons_of_mem _ (List.mem_cons_of_mem _ (List.mem_cons_of_mem _ (List.mem_cons_of_mem _ (List.mem_cons_of_mem _ (List.mem_cons_of_mem _ (List.mem_cons_of_mem _ (List.mem_cons_of_mem _ (List.mem_cons_of_mem _ (List.mem_cons_self))))))))))) | (with_reducible exact List.mem_cons_of_mem _ (List.mem_cons_of_mem _ (List.mem_cons_of_mem _ (List.mem_cons_of_mem _ (List.mem_cons_of_mem _ (List.mem_cons_of_mem _ (List.mem_cons_of_mem _ (List.mem_cons_of_mem _ (List.mem_cons_of_mem _ (List.mem_cons_of_mem _ (List.mem_cons_of_mem _ (List.mem_cons_self)))))))))))) | (with_reducible exact List.mem_cons_of_mem _ (List.mem_cons_of_mem _ (List.mem_cons_of_mem _ (List.mem_cons_of_mem _ (List.mem_cons_of_mem _ (List.mem_cons_of_mem _ (List.mem_cons_of_mem _ (List.mem_cons_of_mem _ (List.mem_cons_of_mem _ (List.mem_cons_of_mem _ (List.mem_cons_of_mem _ (List.mem_cons_of_mem _ (List.mem_cons_self)))))))))))))) ?_ ?_
      · exact rfl
      refine r_ar (wrapU64 (by omega) (by omega)) ?_
      refine bytes_Clone_spec (xs := x.1) h (fun w h => stars_rd (f := bsB) (l := outs) 5 h rfl (List.mem_of_getElem? hx) rfl) (hsz _ (List.mem_of_getElem? hdo)) fun d' w h _ => ?_
      refine r_sv h.tail ?_
      first | refine r_st 0 h rfl (by with_reducible exact at0) ?_ (nofz _) rfl ?_ | refine r_st 1 h rfl (by with_reducible exact at1) ?_ (nofz _) rfl ?_ | refine r_st 2 h rfl (by with_reducible exact at2) ?_ (nofz _) rfl ?_ | refine r_st 3 h rfl (by with_reducible exact at3) ?_ (nofz _) rfl ?_ | refine r_st 4 h rfl (by with_reducible exact at4) ?_ (nofz _) rfl ?_ | refine r_st 5 h rfl (by with_reducible exact at5) ?_ (nofz _) rfl ?_ | refine r_st 6 h rfl (by with_reducible exact at6) ?_ (nofz _) rfl ?_ | refine r_st 7 h rfl (by with_reducible exact at7) ?_ (nofz _) rfl ?_
      · first | exact Nat.lt_of_ble_eq_true rfl | (simp; done) | (simp; omega)
      clear h
      intro w h
      try simp only [List.set_cons_zero, List.set_cons_succ, List.eraseIdx_zero, List.eraseIdx_cons_zero, List.eraseIdx_cons_succ, List.setIfInBounds_toArray, List.tail_cons] at h
      first | refine r_st 0 h rfl (by with_reducible exact at0) ?_ (nofz _) rfl ?_ | refine r_st 1 h rfl (by with_reducible exact at1) ?_ (nofz _) rfl ?_ | refine r_st 2 h rfl (by with_reducible exact at2) ?_ (nofz _) rfl ?_ | refine r_st 3 h rfl (by with_reducible exact at3) ?_ (nofz _) rfl ?_ | refine r_st 4 h rfl (by with_reducible exact at4) ?_ (nofz _) rfl ?_ | refine r_st 5 h rfl (by with_reducible exact at5) ?_ (nofz _) rfl ?_ | refine r_st 6 h rfl (by with_reducible exact at6) ?_ (nofz _) rfl ?_ | refine r_st 7 h rfl (by with_reducible exact at7) ?_ (nofz _) rfl ?_
      · first | exact Nat.lt_of_ble_eq_true rfl | (simp; done) | (simp; omega)
      clear h
      intro w h
      try simp only [List.set_cons_zero, List.set_cons_succ, List.eraseIdx_zero, List.eraseIdx_cons_zero, List.eraseIdx_cons_succ, List.setIfInBounds_toArray, List.tail_cons] at h
      refine r_ldN h rfl (by first | (with_reducible exact List.mem_cons_self) | (with_reducible exact List.mem_cons_of_mem _ (List.mem_cons_self)) | (with_reducible exact List.mem_cons_of_mem _ (List.mem_cons_of_mem _ (List.mem_cons_self))) | (with_reducible exact List.mem_cons_of_mem _ (List.mem_cons_of_mem _ (List.mem_cons_of_mem _ (List.mem_cons_self)))) | (with_reducible exact List.mem_cons_of_mem _ (List.mem_cons_of_mem _ (List.mem_cons_of_mem _ (List.mem_cons_of_mem _ (List.mem_cons_self))))) | (with_reducible exact List.mem_cons_of_mem _ (List.mem_cons_of_mem _ (List.mem_cons_of_mem _ (List.mem_cons_of_mem _ (List.mem_cons_of_mem _ (List.mem_cons_self)))))) | (with_reducible exact List.mem_cons_of_mem _ (List.mem_cons_of_mem _ (List.mem_cons_of_mem _ (List.mem_cons_of_mem _ (List.mem_cons_of_mem _ (List.mem_cons_of_mem _ (List.mem_cons_self))))))) | (with_reducible exact List.mem_cons_of_mem _ (List.mem_cons_of_mem _ (List.mem_cons_of_mem _ (List.mem_cons_of_mem _ (List.mem_cons_of_mem _ (List.mem_cons_of_mem _ (List.mem_cons_of_mem _ (List.mem_cons_self)))))))) | (with_reducible exact List.mem_cons_of_mem _ (List.mem_cons_of_mem _ (List.mem_cons_of_mem _ (List.mem_cons_of_mem _ (List.mem_cons_of_mem _ (List.mem_cons_of_mem _ (List.mem_cons_of_mem _ (List.mem_cons_of_mem _ (List.mem_cons_self))))))))) | (with_reducible exact List.mem_cons_of_mem _ (List.mem_cons_of_mem _ (List.mem_cons_of_mem _ (List.mem_cons_of_mem _ (List.mem_cons_of_mem _ (List.mem_cons_of_mem _ (List.mem_cons_of_mem _ (List.mem_cons_of_mem _ (List.mem_cons_of_mem _ (List.mem_cons_self)))))))))) | (with_reducible exact List.mem_cons_of_mem _ (List.mem_cons_of_mem _ (List.mem_cons_of_mem _ (List.mem_cons_of_mem _ (List.mem_cons_of_mem _ (List.mem_cons_of_mem _ (List.mem_cons_of_mem _ (List.mem_cons_of_mem _ (List.mem_cons_of_mem _ (List.mem_cons_of_mem _ (List.mem_cons_self))))))))))) | (with_reducible exact List.mem_cons_of_mem _ (List.mem_cons_of_mem _ (List.mem_cons_of_mem _ (List.mem_cons_of_mem _ (List.mem_cons_of_mem _ (List.mem_cons_of_mem _ (List.mem_cons_of_mem _ (List.mem_cons_of_mem _ (List.mem_cons_of_mem _ (List.mem_cons_of_mem _ (List.mem_cons_of_mem _ (List.mem_cons_self)))))))))))) | (with_reducible exact List.mem_cons_of_mem _ (List.mem_cons_of_mem _ (List.mem_cons_of_mem _ (List.mem_cons_of_mem _ (List.mem_cons_of_mem _ (List.mem_cons_of_mem _ (List.mem_cons_of_mem _ (List.mem_cons_of_mem _ (List.mem_cons_of_mem _ (List.mem_cons_of_mem _ (List.mem_cons_of_mem _ (List.mem_cons_of_mem _ (List.mem_cons_self)))))))))))))) ?_ ?_
      · rfl
      refine r_bld1 rfl rfl ?_
      refine r_new h ?_
      clear h
      intro t50 w h
      try simp only [add_mk, Nat.zero_add, Nat.reduceAdd]
      have hr := RdC.of_blk (n := 1) (esz := 5) h List.mem_cons_self (vs := pkF ((⟨d.ep, d.pe, d.ba + j, d.ex - 1, x.1⟩ : PacketD), d')) rfl rfl 1
      refine r_append (h.pick 3 at3) (by kernel_rfl) (by kernel_rfl) (by' := 56) (by kernel_rfl) zero_ty_api_Packet rfl hr (by simpa using pkF_flat [((⟨d.ep, d.pe, d.ba + j, d.ex - 1, x.1⟩ : PacketD), d')]) ?_ (by decide) fun s' w h _ _ => ?_
      · have := (h.pick 3 at3).slCap.1
        rw [flatMap_len pkF 5 pkF_len] at this
        simp only; omega
      refine r_add64 (by omega) (by omega) ?_
      try simp only [List.set_cons_zero, List.set_cons_succ, List.eraseIdx_zero, List.eraseIdx_cons_zero, List.eraseIdx_cons_succ, List.setIfInBounds_toArray, List.tail_cons] at h
      replace h := h.pick 9 at9
      try simp only [List.set_cons_zero, List.set_cons_succ, List.eraseIdx_zero, List.eraseIdx_cons_zero, List.eraseIdx_cons_succ, List.setIfInBounds_toArray, List.tail_cons] at h
      replace h := h.pick 9 at9
      try simp only [List.set_cons_zero, List.set_cons_succ, List.eraseIdx_zero, List.eraseIdx_cons_zero, List.eraseIdx_cons_succ, List.setIfInBounds_toArray, List.tail_cons] at h
      replace h := h.pick 9 at9
      try simp only [List.set_cons_zero, List.set_cons_succ, List.eraseIdx_zero, List.eraseIdx_cons_zero, List.eraseIdx_cons_succ, List.setIfInBounds_toArray, List.tail_cons] at h
      replace h := h.pick 9 at9
      try simp only [List.set_cons_zero, List.set_cons_succ, List.eraseIdx_zero, List.eraseIdx_cons_zero, List.eraseIdx_cons_succ, List.setIfInBounds_toArray, List.tail_cons] at h
      replace h := h.pick 9 at9
      try simp only [List.set_cons_zero, List.set_cons_succ, List.eraseIdx_zero, List.eraseIdx_cons_zero, List.eraseIdx_cons_succ, List.setIfInBounds_toArray, List.tail_cons] at h
      replace h := h.pick 5 at5
      try simp only [List.set_cons_zero, List.set_cons_succ, List.eraseIdx_zero, List.eraseIdx_cons_zero, List.eraseIdx_cons_succ, List.setIfInBounds_toArray, List.tail_cons] at h
      replace h := h.pick 7 at7
      try simp only [List.set_cons_zero, List.set_cons_succ, List.eraseIdx_zero, List.eraseIdx_cons_zero, List.eraseIdx_cons_succ, List.setIfInBounds_toArray, List.tail_cons] at h
      replace h := h.pick 9 at9
      try simp only [List.set_cons_zero, List.set_cons_succ, List.eraseIdx_zero, List.eraseIdx_cons_zero, List.eraseIdx_cons_succ, List.setIfInBounds_toArray, List.tail_cons] at h
      replace h := h.del 8 at8
      try simp only [List.set_cons_zero, List.set_cons_succ, List.eraseIdx_zero, List.eraseIdx_cons_zero, List.eraseIdx_cons_succ, List.setIfInBounds_toArray, List.tail_cons] at h
      replace h := h.del 8 at8
      try simp only [List.set_cons_zero, List.set_cons_succ, List.eraseIdx_zero, List.eraseIdx_cons_zero, List.eraseIdx_cons_succ, List.setIfInBounds_toArray, List.tail_cons] at h
      have h3 : Holds B (stars ((ls ++ [((⟨d.ep, d.pe, d.ba + j, d.ex - 1, x.1⟩ : PacketD), d')]).map pkB) :: SlC ty_api_Packet 5 s' (ls.flatMap pkF ++ pkF ((⟨d.ep, d.pe, d.ba + j, d.ex - 1, x.1⟩ : PacketD), d')) :: blk b (.cells (lnA d s mb) ty_link_Link (0, 0)) :: SlC ty_s_uint8 1 s (outs.map bsV) :: stars (outs.map bsB) :: MapR (Value.int .u64) bsV mb es :: stars (es.map fun p => bsB p.2) :: Γ) w := stars_put h
      refine ⟨⟨j + 1, by simp, by omega, ls ++ [((⟨d.ep, d.pe, d.ba + j, d.ex - 1, x.1⟩ : PacketD), d')], ?_, ?_⟩, by omega⟩
      · have hjd : j < d.out.length := by omega
        have hxe : d.out[j] = x.1 := by
          rw [List.getElem?_eq_getElem hjd] at hdo
          exact Option.some.inj hdo
        rw [List.take_succ_eq_append_getElem hjd, pksOf_snoc, List.map_append, hls, hxe, List.length_take]
        simp only [List.map_cons, List.map_nil]
        congr 4
        have : min j d.out.length = j := by omega
        rw [this]
      · have e : (ls ++ [((⟨d.ep, d.pe, d.ba + j, d.ex - 1, x.1⟩ : PacketD), d')]).flatMap pkF = ls.flatMap pkF ++ pkF ((⟨d.ep, d.pe, d.ba + j, d.ex - 1, x.1⟩ : PacketD), d') := by simp
        rw [e]
        exact h3.swap
    · simp only [decide_eq_false_iff_not] at hb
      have hjl : d.out.take j = d.out := List.take_of_length_le (by omega)
      rw [hjl, ← hp] at hls
      replace h := h.pick 1 at1
      try simp only [List.set_cons_zero, List.set_cons_succ, List.eraseIdx_zero, List.eraseIdx_cons_zero, List.eraseIdx_cons_succ, List.setIfInBounds_toArray, List.tail_cons] at h
      replace h := h.pick 1 at1
      try simp only [List.set_cons_zero, List.set_cons_succ, List.eraseIdx_zero, List.eraseIdx_cons_zero, List.eraseIdx_cons_succ, List.setIfInBounds_toArray, List.tail_cons] at h
      replace h := h.pick 6 at6
      try simp only [List.set_cons_zero, List.set_cons_succ, List.eraseIdx_zero, List.eraseIdx_cons_zero, List.eraseIdx_cons_succ, List.setIfInBounds_toArray, List.tail_cons] at h
      replace h := h.pick 6 at6
      try simp only [List.set_cons_zero, List.set_cons_succ, List.eraseIdx_zero, List.eraseIdx_cons_zero, List.eraseIdx_cons_succ, List.setIfInBounds_toArray, List.tail_cons] at h
      replace h := h.pick 6 at6
      try simp only [List.set_cons_zero, List.set_cons_succ, List.eraseIdx_zero, List.eraseIdx_cons_zero, List.eraseIdx_cons_succ, List.setIfInBounds_toArray, List.tail_cons] at h
      replace h := h.pick 6 at6
      try simp only [List.set_cons_zero, List.set_cons_succ, List.eraseIdx_zero, List.eraseIdx_cons_zero, List.eraseIdx_cons_succ, List.setIfInBounds_toArray, List.tail_cons] at h
      replace h := h.pick 6 at6
      try simp only [List.set_cons_zero, List.set_cons_succ, List.eraseIdx_zero, List.eraseIdx_cons_zero, List.eraseIdx_cons_succ, List.setIfInBounds_toArray, List.tail_cons] at h
      replace h := LinkR.shuts h1 h2 h
      replace h := h.pick 2 at2
      try simp only [List.set_cons_zero, List.set_cons_succ, List.eraseIdx_zero, List.eraseIdx_cons_zero, List.eraseIdx_cons_succ, List.setIfInBounds_toArray, List.tail_cons] at h
      replace h := h.pick 2 at2
      try simp only [List.set_cons_zero, List.set_cons_succ, List.eraseIdx_zero, List.eraseIdx_cons_zero, List.eraseIdx_cons_succ, List.setIfInBounds_toArray, List.tail_cons] at h
      exact hk _ _ (PkR.shuts hls h)
  have hlen : (0 : Int) < s.n ↔ d.out ≠ [] := by
    rw [← List.length_pos_iff]; omega
  refine r_ld (x := s) h rfl (by first | (with_reducible exact List.mem_cons_self) | (with_reducible exact List.mem_cons_of_mem _ (List.mem_cons_self)) | (with_reducible exact List.mem_cons_of_mem _ (List.mem_cons_of_mem _ (List.mem_cons_self))) | (with_reducible exact List.mem_cons_of_mem _ (List.mem_cons_of_mem _ (List.mem_cons_of_mem _ (List.mem_cons_self)))) | (with_reducible exact List.mem_cons_of_mem _ (List.mem_cons_of_mem _ (List.mem_cons_of_mem _ (List.mem_cons_of_mem _ (List.mem_cons_self))))) | (with_reducible exact List.mem_cons_of_mem _ (List.mem_cons_of_mem _ (List.mem_cons_of_mem _ (List.mem_cons_of_mem _ (List.mem_cons_of_mem _ (List.mem_cons_self)))))) | (with_reducible exact List.mem_cons_of_mem _ (List.mem_cons_of_mem _ (List.mem_cons_of_mem _ (List.mem_cons_of_mem _ (List.mem_cons_of_mem _ (List.mem_cons_of_mem _ (List.mem_cons_self))))))) | (with_reducible exact List.mem_cons_of_mem _ (List.mem_cons_of_mem _ (List.mem_cons_of_mem _ (List.mem_cons_of_mem _ (List.mem_cons_of_mem _ (List.mem_cons_of_mem _ (List.mem_cons_of_mem _ (List.mem_cons_self)))))))) | (with_reducible exact List.mem_cons_of_mem _ (List.mem_cons_of_mem _ (List.mem_cons_of_mem _ (List.mem_cons_of_mem _ (List.mem_cons_of_mem _ (List.mem_cons_of_mem _ (List.mem_cons_of_mem _ (List.mem_cons_of_mem _ (List.mem_cons_self))))))))) | (with_reducible exact List.mem_cons_of_mem _ (List.mem_cons_of_mem _ (List.mem_cons_of_mem _ (List.mem_cons_of_mem _ (List.mem_cons_of_mem _ (List.mem_cons_of_mem _ (List.mem_cons_of_mem _ (List.mem_cons_of_mem _ (List.mem_cons_of_mem _ (List.mem_cons_self)))))))))) | (with_reducible exact List.mem_cons_of_mem _ (List.mem_cons_of_mem _ (List.mem_cons_of_mem _ (List.mem_cons_of_mem _ (List.mem_cons_of_mem _ (List.mem_cons_of_mem _ (List.mem_cons_of_mem _ (List.mem_cons_of_mem _ (List.mem_cons_of_mem _ (List.mem_cons_of_mem _ (List.mem_cons_self))))))))))) | (with_reducible exact List.mem_cons_of_mem _ (List.mem_cons_of_mem _ (List.mem_cons_of_mem _ (List.mem_cons_of_mem _ (List.mem_cons_of_mem _ (List.mem_cons_of_mem _ (List.mem_cons_of_mem _ (List.mem_cons_of_mem _ (List.mem_cons_of_mem _ (List.mem_cons_of_mem _ (List.mem_cons_of_mem _ (List.mem_cons_self)))))))))))) | (with_reducible exact List.mem_cons_of_mem _ (List.mem_cons_of_mem _ (List.mem_cons_of_mem _ (List.mem_cons_of_mem _ (List.mem_cons_of_mem _ (List.mem_cons_of_mem _ (List.mem_cons_of_mem _ (List.mem_cons_of_mem _ (List.mem_cons_of_mem _ (List.mem_cons_of_mem _ (List.mem_cons_of_mem _ (List.mem_cons_of_mem _ (List.mem_cons_self)))))))))))))) ?_ ?_
  · exact rfl
  refine r_ite (fun hb => ?_) (fun hb => ?_)
  · simp only [decide_eq_true_eq] at hb
    refine r_ld (x := d.pe) h rfl (by first | (with_reducible exact List.mem_cons_self) | (with_reducible exact List.mem_cons_of_mem _ (List.mem_cons_self)) | (with_reducible exact List.mem_cons_of_mem _ (List.mem_cons_of_mem _ (List.mem_cons_self))) | (with_reducible exact List.mem_cons_of_mem _ (List.mem_cons_of_mem _ (List.mem_cons_of_mem _ (List.mem_cons_self)))) | (with_reducible exact List.mem_cons_of_mem _ (List.mem_cons_of_mem _ (List.mem_cons_of_mem _ (List.mem_cons_of_mem _ (List.mem_cons_self))))) | (with_reducible exact List.mem_cons_of_mem _ (List.mem_cons_of_mem _ (List.mem_cons_of_mem _ (List.mem_cons_of_mem _ (List.mem_cons_of_mem _ (List.mem_cons_self)))))) | (with_reducible exact List.mem_cons_of_mem _ (List.mem_cons_of_mem _ (List.mem_cons_of_mem _ (List.mem_cons_of_mem _ (List.mem_cons_of_mem _ (List.mem_cons_of_mem _ (List.mem_cons_self))))))) | (with_reducible exact List.mem_cons_of_mem _ (List.mem_cons_of_mem _ (List.mem_cons_of_mem _ (List.mem_cons_of_mem _ (List.mem_cons_of_mem _ (List.mem_cons_of_mem _ (List.mem_cons_of_mem _ (List.mem_cons_self)))))))) | (with_reducible exact List.mem_cons_of_mem _ (List.mem_cons_of_mem _ (List.mem_cons_of_mem _ (List.mem_cons_of_mem _ (List.mem_cons_of_mem _ (List.mem_cons_of_mem _ (List.mem_cons_of_mem _ (List.mem_cons_of_mem _ (List.mem_cons_self))))))))) | (with_reducible exact List.mem_cons_of_mem _ (List.mem_cons_of_mem _ (List.mem_cons_of_mem _ (List.mem_cons_of_mem _ (List.mem_cons_of_mem _ (List.mem_cons_of_mem _ (List.mem_cons_of_mem _ (List.mem_cons_of_mem _ (List.mem_cons_of_mem _ (List.mem_cons_self)))))))))) | (with_reducible exact List.mem_cons_of_mem _ (List.mem_cons_of_mem _ (List.mem_cons_of_mem _ (List.mem_cons_of_mem _ (List.mem_cons_of_mem _ (List.mem_cons_of_mem _ (List.mem_cons_of_mem _ (List.mem_cons_of_mem _ (List.mem_cons_of_mem _ (List.mem_cons_of_mem _ (List.mem_cons_self))))))))))) | (with_reducible exact List.mem_cons_of_mem _ (List.mem_cons_of_mem _ (List.mem_cons_of_mem _ (List.mem_cons_of_mem _ (List.mem_cons_of_mem _ (List.mem_cons_of_mem _ (List.mem_cons_of_mem _ (List.mem_cons_of_mem _ (List.mem_cons_of_mem _ (List.mem_cons_of_mem _ (List.mem_cons_of_mem _ (List.mem_cons_self)))))))))))) | (with_reducible exact List.mem_cons_of_mem _ (List.mem_cons_of_mem _ (List.mem_cons_of_mem _ (List.mem_cons_of_mem _ (List.mem_cons_of_mem _ (List.mem_cons_of_mem _ (List.mem_cons_of_mem _ (List.mem_cons_of_mem _ (List.mem_cons_of_mem _ (List.mem_cons_of_mem _ (List.mem_cons_of_mem _ (List.mem_cons_of_mem _ (List.mem_cons_self)))))))))))))) ?_ ?_
    · exact rfl
    by_cases hp : d.pe = 0
    · rw [decide_eq_true hp]
      unfold link_Link_Packets.s1
      refine r_ite_t rfl ?_
      refine r_nn rfl ?_
      refine r_ld (x := d.ep) h rfl (by first | (with_reducible exact List.mem_cons_self) | (with_reducible exact List.mem_cons_of_mem _ (List.mem_cons_self)) | (with_reducible exact List.mem_cons_of_mem _ (List.mem_cons_of_mem _ (List.mem_cons_self))) | (with_reducible exact List.mem_cons_of_mem _ (List.mem_cons_of_mem _ (List.mem_cons_of_mem _ (List.mem_cons_self)))) | (with_reducible exact List.mem_cons_of_mem _ (List.mem_cons_of_mem _ (List.mem_cons_of_mem _ (List.mem_cons_of_mem _ (List.mem_cons_self))))) | (with_reducible exact List.mem_cons_of_mem _ (List.mem_cons_of_mem _ (List.mem_cons_of_mem _ (List.mem_cons_of_mem _ (List.mem_cons_of_mem _ (List.mem_cons_self)))))) | (with_reducible exact List.mem_cons_of_mem _ (List.mem_cons_of_mem _ (List.mem_cons_of_mem _ (List.mem_cons_of_mem _ (List.mem_cons_of_mem _ (List.mem_cons_of_mem _ (List.mem_cons_self))))))) | (with_reducible exact List.mem_cons_of_mem _ (List.mem_cons_of_mem _ (List.mem_cons_of_mem _ (List.mem_cons_of_mem _ (List.mem_cons_of_mem _ (List.mem_cons_of_mem _ (List.mem_cons_of_mem _ (List.mem_cons_self)))))))) | (with_reducible exact List.mem_cons_of_mem _ (List.mem_cons_of_mem _ (List.mem_cons_of_mem _ (List.mem_cons_of_mem _ (List.mem_cons_of_mem _ (List.mem_cons_of_mem _ (List.mem_cons_of_mem _ (List.mem_cons_of_mem _ (List.mem_cons_self))))))))) | (with_reducible exact List.mem_cons_of_mem _ (List.mem_cons_of_mem _ (List.mem_cons_of_mem _ (List.mem_cons_of_mem _ (List.mem_cons_of_mem _ (List.mem_cons_of_mem _ (List.mem_cons_of_mem _ (List.mem_cons_of_mem _ (List.mem_cons_of_mem _ (List.mem_cons_self)))))))))) | (with_reducible exact List.mem_cons_of_mem _ (List.mem_cons_of_mem _ (List.mem_cons_of_mem _ (List.mem_cons_of_mem _ (List.mem_cons_of_mem _ (List.mem_cons_of_mem _ (List.mem_cons_of_mem _ (List.mem_cons_of_mem _ (List.mem_cons_of_mem _ (List.mem_cons_of_mem _ (List.mem_cons_self))))))))))) | (with_reducible exact List.mem_cons_of_mem _ (List.mem_cons_of_mem _ (List.mem_cons_of_mem _ (List.mem_cons_of_mem _ (List.mem_cons_of_mem _ (List.mem_cons_of_mem _ (List.mem_cons_of_mem _ (List.mem_cons_of_mem _ (List.mem_cons_of_mem _ (List.mem_cons_of_mem _ (List.mem_cons_of_mem _ (List.mem_cons_self)))))))))))) | (with_reducible exact List.mem_cons_of_mem _ (List.mem_cons_of_mem _ (List.mem_cons_of_mem _ (List.mem_cons_of_mem _ (List.mem_cons_of_mem _ (List.mem_cons_of_mem _ (List.mem_cons_of_mem _ (List.mem_cons_of_mem _ (List.mem_cons_of_mem _ (List.mem_cons_of_mem _ (List.mem_cons_of_mem _ (List.mem_cons_of_mem _ (List.mem_cons_self)))))))))))))) ?_ ?_
      · exact rfl
      refine r_bld1 rfl rfl ?_
      refine r_new h ?_
      clear h
      intro t24 w h
      try simp only [add_mk, Nat.zero_add, Nat.reduceAdd]
      have hpk : d.packets = [⟨d.ep, 0, 0, 0, []⟩] := by unfold LinkD.packets; rw [if_pos ⟨hlen.1 hb, hp⟩]
      replace h := h.pick 5 at5
      try simp only [List.set_cons_zero, List.set_cons_succ, List.eraseIdx_zero, List.eraseIdx_cons_zero, List.eraseIdx_cons_succ, List.setIfInBounds_toArray, List.tail_cons] at h
      replace h := h.pick 5 at5
      try simp only [List.set_cons_zero, List.set_cons_succ, List.eraseIdx_zero, List.eraseIdx_cons_zero, List.eraseIdx_cons_succ, List.setIfInBounds_toArray, List.tail_cons] at h
      replace h := h.pick 5 at5
      try simp only [List.set_cons_zero, List.set_cons_succ, List.eraseIdx_zero, List.eraseIdx_cons_zero, List.eraseIdx_cons_succ, List.setIfInBounds_toArray, List.tail_cons] at h
      replace h := h.pick 5 at5
      try simp only [List.set_cons_zero, List.set_cons_succ, List.eraseIdx_zero, List.eraseIdx_cons_zero, List.eraseIdx_cons_succ, List.setIfInBounds_toArray, List.tail_cons] at h
      replace h := h.pick 5 at5
      try simp only [List.set_cons_zero, List.set_cons_succ, List.eraseIdx_zero, List.eraseIdx_cons_zero, List.eraseIdx_cons_succ, List.setIfInBounds_toArray, List.tail_cons] at h
      replace h := (LinkR.shuts h1 h2 h).swap
      rw [hpk] at hk
      exact hk _ _ (PkR.one rfl h)
    · rw [decide_eq_false hp]
      exact key (fun hh => hp hh.2)
  · simp only [decide_eq_false_iff_not] at hb
    exact key (fun hh => hb (hlen.2 hh.1))
end
end Go.Proofs.Ytilejcnbacmdnaa
