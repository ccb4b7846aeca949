/- DiskRenames. -/
import Derived.Test.YtgnkminakongkaaSTwice3
namespace Go.Proofs.Ytgnkminakongkaa
open Go Go.Sep
set_option linter.unusedSimpArgs false
set_option linter.unusedVariables false
set_option maxRecDepth 100000

def rA (c : Int) (dn : Bool) : DkA := ⟨1048576, c, dn⟩
theorem mset2 (old : FileD) (next : FileD) : mset [121] next [([120], old)] = [([120], old), ([121], next)] := rfl
theorem ren1 {old : List UInt8} (h : old.length ≤ 2000) : (DiskD.new 1048576).append [120] old = (⟨rA (-1) false, [([120], ⟨old, 0⟩)]⟩, 0) := by
  unfold DiskD.append
  rw [if_neg (by simp [DiskD.new]), if_neg (by decide), if_neg]
  · rfl
  · rintro (h | h)
    · exact absurd h.2 (by decide)
    · simp [DiskD.new, usedL] at h; omega
theorem ren2 (old : List UInt8) : (⟨rA (-1) false, [([120], ⟨old, 0⟩)]⟩ : DiskD).sync [120] = (⟨rA (-1) false, [([120], ⟨old, old.length⟩)]⟩, 0) := rfl
theorem ren3 {old next : List UInt8} (c : Int) (h1 : old.length ≤ 2000) (h2 : next.length ≤ 2000) : (⟨rA c false, [([120], ⟨old, old.length⟩)]⟩ : DiskD).append [121] next = (⟨(chg (rA c false)).1, [([120], ⟨old, old.length⟩), ([121], ⟨next, 0⟩)]⟩, (chg (rA c false)).2) := by
  unfold DiskD.append
  rw [if_neg (show ¬ (rA c false).down = true from Bool.false_ne_true), if_neg (show ¬ (named [121] = false) by decide), if_neg]
  · rfl
  · rintro (h | h)
    · exact absurd h.2 (show ¬ 32 ≤ 1 by decide)
    · simp [rA, usedL] at h; omega
theorem chg0 : chg (rA 0 false) = (rA 0 true, 3) := rfl
theorem chgS {c : Int} (h : 0 < c) : chg (rA c false) = (rA (c - 1) false, 0) := by
  unfold chg rA
  rw [if_neg (by simp only; omega), if_pos (by simp only; omega)]
theorem ren4 {old next : List UInt8} (c : Int) : (⟨rA c false, [([120], ⟨old, old.length⟩), ([121], ⟨next, 0⟩)]⟩ : DiskD).sync [121] = (⟨(chg (rA c false)).1, [([120], ⟨old, old.length⟩), ([121], ⟨next, if (chg (rA c false)).2 = 0 then next.length else 0⟩)]⟩, (chg (rA c false)).2) := by
  unfold DiskD.sync
  rw [if_neg (by simp [rA])]
  have hm : mget [121] [(([120] : List UInt8), (⟨old, old.length⟩ : FileD)), ([121], ⟨next, 0⟩)] = some ⟨next, 0⟩ := rfl
  rw [hm]
  simp only
  split
  · rfl
  · rfl
theorem ren5 {old next : List UInt8} (c : Int) : (⟨rA c false, [([120], ⟨old, old.length⟩), ([121], ⟨next, next.length⟩)]⟩ : DiskD).rename [121] [120] = (⟨(chg (rA c false)).1, if (chg (rA c false)).2 = 0 then [([120], ⟨next, next.length⟩)] else [([120], ⟨old, old.length⟩), ([121], ⟨next, next.length⟩)]⟩, (chg (rA c false)).2) := by
  unfold DiskD.rename
  rw [if_neg (by simp [rA])]
  have hm : mget [121] [(([120] : List UInt8), (⟨old, old.length⟩ : FileD)), ([121], ⟨next, next.length⟩)] = some ⟨next, next.length⟩ := rfl
  rw [hm]
  simp only
  rw [if_neg (by decide)]
  split
  · rfl
  · rfl
theorem read_crash {D : DiskD} (hD : OkD D) (ks : List Int) {n x : List UInt8} (hm : mget n D.files = some ⟨x, x.length⟩) : (D.crash ks).read n = (x, 0) := by
  obtain ⟨i, hi⟩ := mget_crash hD ks hm
  rw [crashF_same ks i rfl] at hi
  unfold DiskD.read
  rw [if_neg (by simp [DiskD.crash]), hi]

theorem bits_and (n m : Int) (b : Nat) (hm : (BitVec.ofInt 64 m).toNat ≤ b) (hb : b ≤ 9223372036854775807) : 0 ≤ bitsOf .and .i64 n m ∧ bitsOf .and .i64 n m ≤ b := by
  unfold bitsOf
  simp only
  have h1 : ((BitVec.ofInt IntKind.i64.bits n &&& BitVec.ofInt IntKind.i64.bits m).toNat) ≤ b := by
    rw [BitVec.toNat_and]
    exact Nat.le_trans Nat.and_le_right hm
  rw [wrap64 (by omega) (by omega)]
  omega
section
variable {B w : World} {Γ : List HProp}
theorem renames_s3 {k : Bool → K} {a b f1 : Sl} {old next x : List UInt8} {ks : List Int} {d : Nat} {D : DiskD} {e : Int} (ha : RdB B a old) (hb : RdB B b next) (hk1 : RdC B f1 1 (ks.map (Value.int .i64)))
    (hD : OkD D) (hm : mget [120] D.files = some ⟨x, x.length⟩) (hx : (e ≠ 0 ∧ x = old) ∨ x = next) (h : Holds B (DiskR d D :: Γ) w) (hk : ∀ w, Holds B Γ w → k true w) : law03_renames.s3 k a b f1 (some ⟨d, 0, none⟩) e w := by
  unfold law03_renames.s3
  refine crash_spec (ks := ks) hD h (fun w h => hk1.old h) fun o w h => ?_
  refine r_ite_f rfl ?_
  refine read_spec (n := [120]) (hD.crash ks) h fun s w h => ?_
  rw [read_crash hD ks hm] at h ⊢
  refine r_ite_f rfl ?_
  have rs : RdB w s x := Bytes.rd h List.mem_cons_self
  have s4 : law03_renames.s4 k a b s false w := by
    unfold law03_renames.s4
    refine r_ite_f rfl ?_
    refine r_str (by kernel_rfl) rs ?_
    refine r_str (by kernel_rfl) (hb.old h) ?_
    simp only [str_toList]
    unfold law03_renames.s5
    refine r_ite (fun _ => hk _ h.tail.tail.tail) (fun hne => ?_)
    refine r_str (by kernel_rfl) rs ?_
    refine r_str (by kernel_rfl) (ha.old h) ?_
    simp only [str_toList]
    have hxo : x = old := by
      rcases hx with hx | hx
      · exact hx.2
      · subst hx; simp at hne
    rw [hxo, show (old == old) = true by simp]
    exact hk _ h.tail.tail.tail
  refine r_ite (fun he => ?_) (fun _ => s4)
  simp only [decide_eq_true_eq] at he
  have hxn : x = next := by
    rcases hx with hx | hx
    · exact absurd he hx.1
    · exact hx
  refine r_str (by kernel_rfl) rs ?_
  refine r_str (by kernel_rfl) (hb.old h) ?_
  simp only [str_toList]
  rw [show (!(x == next)) = false by rw [hxn]; simp]
  exact s4

theorem law03_renames_spec {k : Bool → K} {a b f1 : Sl} {old next : List UInt8} {ks : List Int} {c : Int} (ha : RdB B a old) (hb : RdB B b next) (hk1 : RdC B f1 1 (ks.map (Value.int .i64)))
    (h : Holds B Γ w) (hk : ∀ w, Holds B Γ w → k true w) : law03_renames.call a b c f1 k w := by
  have han : old.length = a.n := by have := ha.len; simpa using this
  have hbn : next.length = b.n := by have := hb.len; simpa using this
  refine law03_renames_ok _ _ _ _ _ _ ?_
  unfold law03_renames
  unfold law03_renames.s1
  refine r_ite (fun _ => r_ite_t rfl (hk _ h)) (fun h1 => ?_)
  refine r_ite (fun _ => hk _ h) (fun h2 => ?_)
  simp only [decide_eq_false_iff_not] at h1 h2
  refine new_spec h (fun hb => by omega) fun d w _ _ h => ?_
  refine r_ite_f rfl ?_
  refine append_spec (n := [120]) (x := old) (new_ok (by decide) (by decide)) (by omega) h (fun w h => ha.old h) fun w hD h => ?_
  rw [ren1 (by omega)] at hD h
  refine sync_spec (n := [120]) hD h fun w hD h => ?_
  rw [ren2] at hD h
  obtain ⟨hm0, hm1⟩ := bits_and c 7 7 (by decide) (by decide)
  refine r_ar rfl ?_
  generalize bitsOf .and .i64 c 7 = q at hm0 hm1
  refine limit_spec h fun w h => ?_
  rw [if_neg (by omega)] at h
  have hD2 : OkD ⟨rA q false, [([120], ⟨old, old.length⟩)]⟩ := ⟨hD.room1, hD.roomN, hD.used, hD.few, ⟨by simp only [rA]; omega, by simp only [rA]; omega⟩, hD.last, hD.nodup⟩
  refine append_spec (n := [121]) (x := next) hD2 (by omega) h (fun w h => hb.old h) fun w hD h => ?_
  have e3 := ren3 (old := old) (next := next) q (by omega) (by omega)
  rw [e3] at hD h ⊢
  by_cases hq : q = 0
  · subst hq
    rw [chg0] at hD h ⊢
    refine r_ite_f rfl ?_
    unfold law03_renames.s2
    refine r_ite_f rfl ?_
    exact renames_s3 (x := old) ha hb hk1 hD rfl (.inl ⟨show (3 : Int) ≠ 0 by decide, rfl⟩) h hk
  rw [chgS (by omega)] at hD h ⊢
  refine r_ite_t rfl ?_
  refine sync_spec (n := [121]) hD h fun w hD h => ?_
  rw [ren4] at hD h ⊢
  unfold law03_renames.s2
  by_cases hq1 : q = 1
  · subst hq1
    rw [show (1 : Int) - 1 = 0 from rfl, chg0] at hD h ⊢
    refine r_ite_f rfl ?_
    exact renames_s3 (x := old) ha hb hk1 hD rfl (.inl ⟨show (3 : Int) ≠ 0 by decide, rfl⟩) h hk
  rw [chgS (by omega)] at hD h ⊢
  refine r_ite_t rfl ?_
  refine rename_spec (n := [121]) (m := [120]) hD h fun w hD h => ?_
  simp only [if_true] at hD h ⊢
  rw [ren5] at hD h ⊢
  by_cases hq2 : q = 2
  · subst hq2
    rw [show (2 : Int) - 1 - 1 = 0 from rfl, chg0] at hD h ⊢
    exact renames_s3 (x := old) ha hb hk1 hD rfl (.inl ⟨show (3 : Int) ≠ 0 by decide, rfl⟩) h hk
  rw [chgS (by omega)] at hD h ⊢
  exact renames_s3 (x := next) ha hb hk1 hD rfl (.inr rfl) h hk

theorem law03_DiskRenames_spec {k : Bool → K} {a b f1 : Sl} {old next : List UInt8} {ks : List Int} {c : Int} (ha : RdB B a old) (hb : RdB B b next) (hk1 : RdC B f1 1 (ks.map (Value.int .i64)))
    (h : Holds B Γ w) (hk : ∀ w, Holds B Γ w → k true w) : law03_DiskRenames.call #[a.val, b.val] c f1 k w := by
  refine law03_DiskRenames_ok _ _ _ _ _ ?_
  unfold law03_DiskRenames
  refine r_new h ?_
  clear h
  intro files w h
  try simp only [add_mk, Nat.zero_add, Nat.reduceAdd]
  refine law03_speaks_spec h fun w h => ?_
  refine r_ite_t rfl ?_
  refine ⟨_, by omega, by omega, rfl, ?_⟩
  simp only [show (0 : Int).toNat = 0 from rfl, add_mk]
  refine r_ld (x := a) h rfl (by first | (with_reducible exact List.mem_cons_self) | (with_reducible exact List.mem_cons_of_mem _ (List.mem_cons_self)) | (with_reducible exact List.mem_cons_of_mem _ (List.mem_cons_of_mem _ (List.mem_cons_self))) | (with_reducible exact List.mem_cons_of_mem _ (List.mem_cons_of_mem _ (List.mem_cons_of_mem _ (List.mem_cons_self)))) | (with_reducible exact List.mem_cons_of_mem _ (List.mem_cons_of_mem _ (List.mem_cons_of_mem _ (List.mem_cons_of_mem _ (List.mem_cons_self))))) | (with_reducible exact List.mem_cons_of_mem _ (List.mem_cons_of_mem _ (List.mem_cons_of_mem _ (List.mem_cons_of_mem _ (List.mem_cons_of_mem _ (List.mem_cons_self)))))) | (with_reducible exact List.mem_cons_of_mem _ (List.mem_cons_of_mem _ (List.mem_cons_of_mem _ (List.mem_cons_of_mem _ (List.mem_cons_of_mem _ (List.mem_cons_of_mem _ (List.mem_cons_self))))))) | (with_reducible exact List.mem_cons_of_mem _ (List.mem_cons_of_mem _ (List.mem_cons_of_mem _ (List.mem_cons_of_mem _ (List.mem_cons_of_mem _ (List.mem_cons_of_mem _ (List.mem_cons_of_mem _ (List.mem_cons_self)))))))) | (with_reducible exact List.mem_cons_of_mem _ (List.mem_cons_of_mem _ (List.mem_cons_of_mem _ (List.mem_cons_of_mem _ (List.mem_cons_of_mem _ (List.mem_cons_of_mem _ (List.mem_cons_of_mem _ (List.mem_cons_of_mem _ (List.mem_cons_self))))))))) | (with_reducible exact List.mem_cons_of_mem _ (List.mem_cons_of_mem _ (List.mem_cons_of_mem _ (List.mem_cons_of_mem _ (List.mem_cons_of_mem _ (List.mem_cons_of_mem _ (List.mem_cons_of_mem _ (List.mem_cons_of_mem _ (List.mem_cons_of_mem _ (List.mem_cons_self)))))))))) | (with_reducible exact List.mem_cons_of_mem _ (List.mem_cons_of_mem _ (List.mem_cons_of_mem _ (List.mem_cons_of_mem _ (List.mem_cons_of_mem _ (List.mem_cons_of_mem _ (List.mem_cons_of_mem _ (List.mem_cons_of_mem _ (List.mem_cons_of_mem _ (List.mem_cons_of_mem _ (List.mem_cons_self))))))))))) | (with_reducible exact List.mem_cons_of_mem _ (List.mem_cons_of_mem _ (List.mem_cons_of_mem _ (List.mem_cons_of_mem _ (List.mem_cons_of_mem _ (List.mem_cons_of_mem _ (List.mem_cons_of_mem _ (List.mem_cons_of_mem _ (List.mem_cons_of_mem _ (List.mem_cons_of_mem _ (List.mem_cons_of_mem _ (List.mem_cons_self)))))))))))) | (with_reducible exact List.mem_cons_of_mem _ (List.mem_cons_of_mem _ (List.mem_cons_of_mem _ (List.mem_cons_of_mem _ (List.mem_cons_of_mem _ (List.mem_cons_of_mem _ (List.mem_cons_of_mem _ (List.mem_cons_of_mem _ (List.mem_cons_of_mem _ (List.mem_cons_of_mem _ (List.mem_cons_of_mem _ (List.mem_cons_of_mem _ (List.mem_cons_self)))))))))))))) ?_ ?_
  · exact rfl
  refine ⟨_, by omega, by omega, rfl, ?_⟩
  simp only [show (1 : Int).toNat = 1 from rfl, add_mk]
  refine r_ld (x := b) h rfl (by first | (with_reducible exact List.mem_cons_self) | (with_reducible exact List.mem_cons_of_mem _ (List.mem_cons_self)) | (with_reducible exact List.mem_cons_of_mem _ (List.mem_cons_of_mem _ (List.mem_cons_self))) | (with_reducible exact List.mem_cons_of_mem _ (List.mem_cons_of_mem _ (List.mem_cons_of_mem _ (List.mem_cons_self)))) | (with_reducible exact List.mem_cons_of_mem _ (List.mem_cons_of_mem _ (List.mem_cons_of_mem _ (List.mem_cons_of_mem _ (List.mem_cons_self))))) | (with_reducible exact List.mem_cons_of_mem _ (List.mem_cons_of_mem _ (List.mem_cons_of_mem _ (List.mem_cons_of_mem _ (List.mem_cons_of_mem _ (List.mem_cons_self)))))) | (with_reducible exact List.mem_cons_of_mem _ (List.mem_cons_of_mem _ (List.mem_cons_of_mem _ (List.mem_cons_of_mem _ (List.mem_cons_of_mem _ (List.mem_cons_of_mem _ (List.mem_cons_self))))))) | (with_reducible exact List.mem_cons_of_mem _ (List.mem_cons_of_mem _ (List.mem_cons_of_mem _ (List.mem_cons_of_mem _ (List.mem_cons_of_mem _ (List.mem_cons_of_mem _ (List.mem_cons_of_mem _ (List.mem_cons_self)))))))) | (with_reducible exact List.mem_cons_of_mem _ (List.mem_cons_of_mem _ (List.mem_cons_of_mem _ (List.mem_cons_of_mem _ (List.mem_cons_of_mem _ (List.mem_cons_of_mem _ (List.mem_cons_of_mem _ (List.mem_cons_of_mem _ (List.mem_cons_self))))))))) | (with_reducible exact List.mem_cons_of_mem _ (List.mem_cons_of_mem _ (List.mem_cons_of_mem _ (List.mem_cons_of_mem _ (List.mem_cons_of_mem _ (List.mem_cons_of_mem _ (List.mem_cons_of_mem _ (List.mem_cons_of_mem _ (List.mem_cons_of_mem _ (List.mem_cons_self)))))))))) | (with_reducible exact List.mem_cons_of_mem _ (List.mem_cons_of_mem _ (List.mem_cons_of_mem _ (List.mem_cons_of_mem _ (List.mem_cons_of_mem _ (List.mem_cons_of_mem _ (List.mem_cons_of_mem _ (List.mem_cons_of_mem _ (List.mem_cons_of_mem _ (List.mem_cons_of_mem _ (List.mem_cons_self))))))))))) | (with_reducible exact List.mem_cons_of_mem _ (List.mem_cons_of_mem _ (List.mem_cons_of_mem _ (List.mem_cons_of_mem _ (List.mem_cons_of_mem _ (List.mem_cons_of_mem _ (List.mem_cons_of_mem _ (List.mem_cons_of_mem _ (List.mem_cons_of_mem _ (List.mem_cons_of_mem _ (List.mem_cons_of_mem _ (List.mem_cons_self)))))))))))) | (with_reducible exact List.mem_cons_of_mem _ (List.mem_cons_of_mem _ (List.mem_cons_of_mem _ (List.mem_cons_of_mem _ (List.mem_cons_of_mem _ (List.mem_cons_of_mem _ (List.mem_cons_of_mem _ (List.mem_cons_of_mem _ (List.mem_cons_of_mem _ (List.mem_cons_of_mem _ (List.mem_cons_of_mem _ (List.mem_cons_of_mem _ (List.mem_cons_self)))))))))))))) ?_ ?_
  · exact rfl
  refine law03_renames_spec ha hb hk1 h.tail fun w h => ?_
  unfold law03_DiskRenames.s1
  exact hk _ h
end
end Go.Proofs.Ytgnkminakongkaa

namespace Go.Proofs.Ytgnkminakongkaa
open Go Go.Sep Go.RowKit
theorem DiskRenames_walk (W : World) (cs : Array Value) (y0 : Rdy W Sh_ty_2_s_uint8 (Value.agg cs).cells.toList) (hsz : cs.size = 2) (x : Int) (_ : (Lit.int .i64 x).wf = true) (e : Sl) (y2 : Rdy W Sh_ty_s_int (Sl.val e).cells.toList) :
    Calls Try.prog 8 #[.agg cs, .int .i64 x, e.val] W (Ret fun v w' => v = .bool true ∧ Below W.heap.size W w') := by
  obtain ⟨l⟩ := cs
  match l, hsz with
  | [u, v], _ =>
    obtain ⟨⟨s, e0, _, _, h1, h2⟩, ⟨s', e1, _, _, h3, h4⟩, _⟩ := y0
    have hu : u = s.val := by
      have : [u] = [s.val] := e0
      exact (List.cons.inj this).1
    have hv : v = s'.val := by
      have : [v] = [s'.val] := e1
      exact (List.cons.inj this).1
    subst hu; subst hv
    obtain ⟨xs, _, g1⟩ := rd_bytes h1 h2
    obtain ⟨ys, _, g2⟩ := rd_bytes h3 h4
    obtain ⟨E, hE, _⟩ := rdy_ints y2
    exact law_call (law03_DiskRenames_spec g1 g2 hE (Holds.start W) fun w h => ⟨rfl, h⟩)
end Go.Proofs.Ytgnkminakongkaa
