/- Texts of the claim LocksLeave, one behind the other. -/
import Derived.Test.YtfjjocopmknhgaaGreatLocksLeaveM4
import GoSem.Instr.MapEntry
/- The walk of functions that add to what stands in a map. Holds for every program. -/
namespace Go.Sep
open Go
set_option linter.unusedVariables false
section
variable {P : Program} {σ : List (Nat × Value)} {o : Oper} {w w' : World} {v : Value} {x y z : Operand} {T : TypeId}
theorem e_mapEntry' {vx vy : Value} (ho : o.op = .mapEntry T x y) (hx : ev σ x = some vx) (hy : ev σ y = some vy) : ∀ v w w', (Instr.mapEntry T vx vy).run P w = .ok v w' → Eff P σ o w (.value v) w' := fun v w w' hr _ _ hs => by
  simp [execOp, ho, hs.ev hx, hs.ev hy, hr]
theorem e_entryStore' {vx vy vz : Value} (ho : o.op = .entryStore T x y z) (hx : ev σ x = some vx) (hy : ev σ y = some vy) (hz : ev σ z = some vz) : ∀ u w w', (Instr.entryStore T vx vy vz).run P w = .ok u w' → Eff P σ o w .skip w' := fun u w w' hr _ _ hs => by
  simp [execOp, ho, hs.ev hx, hs.ev hy, hs.ev hz, hr]
theorem we_do2 {α β : Type} {sem : Sem Value} {c : α → β → Value} {kx : α → β → K} (hs : ∀ v w w', sem.run P w = .ok v w' → Eff P σ o w (.value v) w') : WE P σ o (Do2 P sem c kx) (fun u => u) (fun u => Ans2 c kx u) := fun w ⟨t, u, w', hd, h⟩ => ⟨c t u, w', hs _ _ _ hd, t, u, rfl, h⟩
end
section
variable {P : Program} {dl : List Deferred} {n : Nat} {σ : List (Nat × Value)} {k : K} {ops : Array Oper} {Q : Exit → Act → World → Prop} {o : Oper} {S : World → Prop} {ds done : List Nat} {i d : Nat} {t : Scr}
theorem ox_e2 {kk kS : Value → K} (h : ∀ u, G dl n ((d, u) :: σ) (Al S (kS u)) (Dx P ops Q S ds (i :: done) t)) (hi : ops[i]? = some o := by rfl) (hd : o.dst = some d := by rfl) (hw : wants ops σ o = some true := by rfl) (hp : WE P σ o k (fun u => u) kk)
    (hS : SvA S kk kS) (hn : Nat.ble (d + 1) n = true := by rfl) (nd : isDef o.op = false := by rfl) : G dl n σ (Al S k) (Ox P ops Q S ds done i 1 t) := fun a w hs ⟨_, hk⟩ => by
  obtain ⟨x, w', hp, h'⟩ := hp w hk
  refine ox_run hs hi hw fun hQ => (op_value (r := none) hs nd hp ⟨fun _ _ _ => (hS x w' h').1, ?_⟩)
  rw [hd, dn_len (m := 0)]; exact h x _ w' (hs.put (Nat.le_of_ble_eq_true hn) _) (hS x w' h') hQ
end
set_option maxRecDepth 100000 in
theorem g_walk5 {P : Program} {f : FuncId} {fn : Func} {c : Code} {args : List Value} {kk : Value → K} {k : K} (n : Nat) {w : World} (hk : k w) (hf : P.funcs[f]? = some fn) (hb : fn.body = some c := by rfl) (hn : fn.ntmps = n := by rfl) (hl : Nat.ble args.length n = true := by rfl)
    (h : G [] n (numb 0 args) k (Cx none P c (bodyPostT P fn (Ret kk))) := by
      repeat' first
      | intro _
      | (refine is_tx ?_; first
          | refine tx_nil ?_
          | (refine is_gd ?_ rfl; first | refine tx_no ?_ | refine tx_no' ?_)
          | (refine is_t 0 ?_ rfl; refine tx_p (hp := by exact au_p0) ?_)
          | (refine is_t 2 ?_ rfl; first | refine tx_p (hp := by exact au_p2) ?_ | (refine gx_nn ?_; intro b hb; subst hb) | (refine gx_fv ?_; intro g fs cs hf cb; subst hf))
          | (refine is_t 3 ?_ rfl; refine tx_p (hp := by exact au_p3) ?_)
          | (refine is_t 13 ?_ rfl; refine tx_wr (hp := by exact au_wr13) ?_)
          | (refine is_t 19 ?_ rfl; first | (refine tx_wc (hp := by exact au_wc19) ?_; intro u; first | refine an_1 ?_ | refine an_0 ?_ | refine an_2 ?_ | refine an_3 ?_ | refine an_4 ?_ | refine an_5 ?_) | refine tx_wr (hp := by exact wr_rd (e_ext' rfl rfl rfl)) ?_ | (refine tx_wcn (hp := by exact au_wc19) ?_; intro u; first | refine am_0 ?_ | refine am_1 ?_ | refine am_2 ?_ | skip) | (refine tx_wy ?_; intro u; first | refine an_1 ?_ | refine an_0 ?_ | refine an_2 ?_ | refine an_3 ?_ | refine an_4 ?_ | refine an_5 ?_))
          | (refine is_t 10 ?_ rfl; first | refine tx_p (hp := by exact au_p10) ?_ | refine tx_wp (hp := by exact au_wp10) ?_)
          | (refine is_t 8 ?_ rfl; refine tx_wp (hp := by exact au_wp8) ?_)
          | (refine is_t 20 ?_ rfl; first | refine tx_p (hp := by exact au_p20) ?_ | refine tx_wr (hp := by exact au_wr20) ?_)
          | (refine is_t 27 ?_ rfl; refine tx_wp (hp := by exact au_wp27) ?_)
          | (refine is_t 4 ?_ rfl; first | refine tx_p (hp := by exact au_p4) ?_ | refine tx_wp (hp := by exact au_wp4) ?_)
          | (refine is_t 17 ?_ rfl; refine tx_wk (hp := by exact au_wk17) ?_)
          | (refine is_t 1 ?_ rfl; refine tx_p (hp := by exact au_p1) ?_)
          | (refine is_t 6 ?_ rfl; refine tx_p (hp := by exact au_p6) ?_)
          | (refine is_t 15 ?_ rfl; refine tx_we (hp := by exact au_we15) ?_)
          | (refine is_t 16 ?_ rfl; refine tx_we (hp := by exact au_we16) ?_)
          | (refine is_t 22 ?_ rfl; first | refine tx_we (hp := by exact au_we22) ?_ | refine tx_wen (hp := by exact au_we22) ?_)
          | (refine is_t 28 ?_ rfl; refine tx_wp (hp := by exact au_wp28) ?_)
          | (refine is_t 11 ?_ rfl; first | refine tx_wp (hp := by exact au_wp11) ?_ | refine tx_p (hp := by exact au_p11) ?_ | refine tx_wr (hp := by exact au_wr11) ?_ | refine tx_we (hp := by exact au_we11) ?_)
          | (refine is_t 26 ?_ rfl; first | refine tx_wp (hp := by exact au_wp26) ?_ | refine tx_p (hp := by exact au_p26) ?_)
          | (refine is_t 12 ?_ rfl; first | refine tx_wp (hp := by exact au_wp12) ?_ | refine tx_p (hp := by exact au_p12) ?_)
          | (refine is_t 5 ?_ rfl; refine tx_p (hp := by exact au_p5) ?_)
          | (refine is_t 7 ?_ rfl; refine tx_wp (hp := by exact au_wp7) ?_)
          | (refine is_t 9 ?_ rfl; refine tx_wp (hp := by exact au_wp9) ?_)
          | (refine is_t 14 ?_ rfl; first | refine tx_wr (hp := by exact wr_rd (e_lookup' rfl rfl rfl)) ?_ | (refine tx_wr (hp := by exact wr_rd2 (e_lookup' rfl rfl rfl)) ?_; intro u; refine an_2 ?_))
          | (refine is_t 18 ?_ rfl; refine tx_wk (hp := by exact au_wk18) ?_)
          | (refine is_t 99 ?_ rfl; refine tx_we (hp := by exact we_do2 (e_mapEntry' rfl rfl rfl)) ?_; intro u; refine an_2 ?_)
          | (refine is_t 99 ?_ rfl; refine tx_wk (hp := by exact wk_do (e_entryStore' rfl rfl rfl rfl)) ?_)
          | (refine is_t 21 ?_ rfl; refine tx_wp (hp := by exact au_wp21) ?_)
          | (refine is_t 23 ?_ rfl; refine tx_we (hp := by exact au_we23) ?_)
          | (refine is_t 24 ?_ rfl; refine tx_we (hp := by exact au_we24) ?_)
          | (refine is_t 25 ?_ rfl; refine tx_wr (hp := by exact au_wr25) ?_)
          | (refine tx_ite ?_ ?_ <;> (intro hb; refine gx_fold ?_; intro a w hs; try rw [hb] at hs; clear hb; revert hs; revert w; revert a; refine gx_unf ?_)))
      | (refine is_cx ?_; first
          | refine cx_reg ?_
          | (refine is_seq ?_; first | (refine cx_join ?_; (repeat apply ex_i); refine And.intro sub_auto (And.intro ?_ ?_)) | refine cx_seq ?_)
          | refine cx_cond_i ?_ ?_ rfl
          | refine cx_skip ?_
          | refine cx_ret ?_
          | refine cx_block ?_
          | refine cx_exit ?_
          | refine cx_loop ?_
          | (refine is_cond ?_; first | refine cx_cond_t ?_ | refine cx_cond_f ?_)
          | (refine is_draw ?_; first | refine cx_draw1 ?_ | refine cx_draw0 ?_ | refine cx_draw2 ?_ | refine cx_still ?_)
          | refine cx_label ?_
          | refine cx_rangeF ?_ ?_
          | refine cx_rangeJ ?_ ?_ ?_
          | refine al_drop ?_)
      | (refine is_ex ?_; first
          | refine ex_then ?_
          | refine ex_then_r ?_
          | refine ex_then_x ?_
          | refine ex_blk ?_
          | refine ex_blk_r ?_
          | refine ex_blk_x ?_
          | refine ex_blk_y ?_
          | refine ex_retM ?_
          | refine ex_ret ?_
          | refine ex_end ?_
          | exact rq_n
          | exact rq_r
          | exact rq_x
          | refine al_drop ?_)
      | exact gx_dead
      | refine gp_in ?_
      | (refine is_rx ?_; first
          | refine rx_tmp ?_
          | refine rx_nil ?_
          | refine rx_cell ?_
          | refine rx_cellN ?_)
      | (refine is_fx ?_; first
          | exact fx_1
          | exact fx_0
          | exact fx_2
          | exact fx_3
          | exact fx_4
          | exact fx_5)
      | (refine is_dx ?_; first
          | refine dx_end ?_
          | refine dx_nil ?_
          | refine dx_a ?_
          | (refine dx_iteA ?_ ?_ <;> (intro hb; refine gx_fold ?_; intro a w hs; try rw [hb] at hs; clear hb; revert hs; revert w; revert a; refine gx_unf ?_))
          | (refine dx_ite ?_ ?_ <;> (intro hb; refine gx_fold ?_; intro a w hs; try rw [hb] at hs; clear hb; revert hs; revert w; revert a; refine gx_unf ?_))
          | (refine is_gdx ?_ rfl; first | refine dx_no ?_ | refine dx_no' ?_)
          | (refine is_d 0 ?_ rfl; refine dx_p (hp := by exact au_p0) ?_)
          | (refine is_d 2 ?_ rfl; first | refine dx_p (hp := by exact au_p2) ?_ | (refine al_nn ?_; intro b hb; subst hb) | (refine gx_nn ?_; intro b hb; subst hb) | (refine al_fv ?_; intro g fs cs hf cb; subst hf) | (refine gx_fv ?_; intro g fs cs hf cb; subst hf))
          | (refine is_d 3 ?_ rfl; refine dx_p (hp := by exact au_p3) ?_)
          | (refine is_d 13 ?_ rfl; first | refine dx_is (hp := by exact au_wr13) ?_ | refine dx_S (hp := by exact au_ws13) ?_)
          | (refine is_d 10 ?_ rfl; first | refine dx_p (hp := by exact au_p10) ?_ | refine dx_wpA (hp := by exact au_wp10) ?_ | refine dx_wp (hp := by exact au_wp10) ?_)
          | (refine is_d 8 ?_ rfl; first | refine dx_wpA (hp := by exact au_wp8) ?_ | refine dx_wp (hp := by exact au_wp8) ?_)
          | (refine is_d 20 ?_ rfl; first | refine dx_p (hp := by exact au_p20) ?_ | refine dx_is (hp := by exact au_wr20) ?_ | refine dx_S (hp := by exact au_ws20) ?_)
          | (refine is_d 27 ?_ rfl; first | refine dx_wpA (hp := by exact au_wp27) ?_ | refine dx_wp (hp := by exact au_wp27) ?_)
          | (refine is_d 4 ?_ rfl; first | refine dx_p (hp := by exact au_p4) ?_ | refine dx_wpA (hp := by exact au_wp4) ?_ | refine dx_wp (hp := by exact au_wp4) ?_)
          | (refine is_d 1 ?_ rfl; refine dx_p (hp := by exact au_p1) ?_)
          | (refine is_d 6 ?_ rfl; refine dx_p (hp := by exact au_p6) ?_)
          | (refine is_d 28 ?_ rfl; first | refine dx_wpA (hp := by exact au_wp28) ?_ | refine dx_wp (hp := by exact au_wp28) ?_)
          | (refine is_d 11 ?_ rfl; first | refine dx_wpA (hp := by exact au_wp11) ?_ | refine dx_wp (hp := by exact au_wp11) ?_ | refine dx_p (hp := by exact au_p11) ?_ | refine dx_is (hp := by exact au_wr11) ?_ | refine dx_S (hp := by exact au_ws11) ?_)
          | (refine is_d 26 ?_ rfl; first | refine dx_wpA (hp := by exact au_wp26) ?_ | refine dx_wp (hp := by exact au_wp26) ?_ | refine dx_p (hp := by exact au_p26) ?_)
          | (refine is_d 12 ?_ rfl; first | refine dx_wpA (hp := by exact au_wp12) ?_ | refine dx_wp (hp := by exact au_wp12) ?_ | refine dx_p (hp := by exact au_p12) ?_)
          | (refine is_d 5 ?_ rfl; refine dx_p (hp := by exact au_p5) ?_)
          | (refine is_d 7 ?_ rfl; first | refine dx_wpA (hp := by exact au_wp7) ?_ | refine dx_wp (hp := by exact au_wp7) ?_)
          | (refine is_d 9 ?_ rfl; first | refine dx_wpA (hp := by exact au_wp9) ?_ | refine dx_wp (hp := by exact au_wp9) ?_)
          | (refine is_d 14 ?_ rfl; first | refine dx_is (hp := by exact wr_rd (e_lookup' rfl rfl rfl)) ?_ | (refine dx_is (hp := by exact wr_rd2 (e_lookup' rfl rfl rfl)) ?_; intro u; refine al_an2 ?_) | refine dx_S (hp := by exact ws_rd (e_lookup' rfl rfl rfl)) ?_ | (refine dx_S (hp := by exact ws_rd2 (e_lookup' rfl rfl rfl)) ?_; intro u; refine al_an2 ?_))
          | (refine is_d 21 ?_ rfl; first | refine dx_wpA (hp := by exact au_wp21) ?_ | refine dx_wp (hp := by exact au_wp21) ?_)
          | (refine is_d 25 ?_ rfl; first | refine dx_is (hp := by exact au_wr25) ?_ | refine dx_S (hp := by exact au_ws25) ?_)
          | refine al_drop ?_)
      | (refine is_ox ?_; first
          | (refine is_o 13 ?_ rfl; first | refine ox_r2A (hp := by exact au_wr13) ?_ | refine ox_r2 (hp := by exact au_wr13) ?_)
          | (refine is_o 19 ?_ rfl; first | (refine ox_c1 (hp := by exact au_wc19) ?_; intro u; first | refine al_an1 ?_ | refine al_an0 ?_ | refine al_an2 ?_) | (refine ox_c (hp := by exact au_wc19) ?_; intro u; first | refine an_1 ?_ | refine an_0 ?_ | refine an_2 ?_ | refine an_3 ?_ | refine an_4 ?_ | refine an_5 ?_) | (refine ox_cn (hp := by exact au_wc19) ?_; intro u; first | refine am_0 ?_ | refine am_1 ?_ | refine am_2 ?_ | skip) | (refine ox_y ?_; intro u; first | refine an_1 ?_ | refine an_0 ?_ | refine an_2 ?_ | refine an_3 ?_ | refine an_4 ?_ | refine an_5 ?_))
          | (refine is_o 20 ?_ rfl; first | refine ox_r2A (hp := by exact au_wr20) ?_ | refine ox_r2 (hp := by exact au_wr20) ?_)
          | (refine is_o 17 ?_ rfl; first | refine ox_k1 (hp := by exact au_wk17) ?_ | refine ox_k (hp := by exact au_wk17) ?_)
          | (refine is_o 15 ?_ rfl; first | refine ox_e1 (hp := by exact au_we15) ?_ | refine ox_e (hp := by exact au_we15) ?_)
          | (refine is_o 16 ?_ rfl; first | refine ox_e1 (hp := by exact au_we16) ?_ | refine ox_e (hp := by exact au_we16) ?_)
          | (refine is_o 22 ?_ rfl; first | refine ox_e1 (hp := by exact au_we22) ?_ | refine ox_e (hp := by exact au_we22) ?_ | refine ox_en1 (hp := by exact au_we22) ?_ | refine ox_en (hp := by exact au_we22) ?_)
          | (refine is_o 11 ?_ rfl; first | refine ox_e1 (hp := by exact au_we11) ?_ | refine ox_e (hp := by exact au_we11) ?_ | refine ox_r2A (hp := by exact au_wr11) ?_ | refine ox_r2 (hp := by exact au_wr11) ?_)
          | (refine is_o 14 ?_ rfl; first | refine ox_r2A (hp := by exact wr_rd (e_lookup' rfl rfl rfl)) ?_ | (refine ox_r2A (hp := by exact wr_rd2 (e_lookup' rfl rfl rfl)) ?_; intro u; refine al_an2 ?_) | refine ox_r2 (hp := by exact wr_rd (e_lookup' rfl rfl rfl)) ?_ | (refine ox_r2 (hp := by exact wr_rd2 (e_lookup' rfl rfl rfl)) ?_; intro u; refine an_2 ?_))
          | (refine is_o 18 ?_ rfl; first | refine ox_k1 (hp := by exact au_wk18) ?_ | refine ox_k (hp := by exact au_wk18) ?_)
          | (refine is_o 99 ?_ rfl; first | (refine ox_e2 (hp := by exact we_do2 (e_mapEntry' rfl rfl rfl)) (hS := sva_2) ?_; intro u; refine al_an2 ?_) | (refine ox_e (hp := by exact we_do2 (e_mapEntry' rfl rfl rfl)) ?_; intro u; refine an_2 ?_) | refine ox_k1 (hp := by exact wk_do (e_entryStore' rfl rfl rfl rfl)) ?_ | refine ox_k (hp := by exact wk_do (e_entryStore' rfl rfl rfl rfl)) ?_)
          | (refine is_o 23 ?_ rfl; first | refine ox_e1 (hp := by exact au_we23) ?_ | refine ox_e (hp := by exact au_we23) ?_)
          | (refine is_o 24 ?_ rfl; first | refine ox_e1 (hp := by exact au_we24) ?_ | refine ox_e (hp := by exact au_we24) ?_)
          | (refine is_o 25 ?_ rfl; first | refine ox_r2A (hp := by exact au_wr25) ?_ | refine ox_r2 (hp := by exact au_wr25) ?_)
          | refine al_drop ?_)
      | refine ax_allA ?_ ?_
      | refine ax_all ?_ ?_
      | exact ax_nil
      | refine ax_one ?_
      | (refine is_lx ?_; exact lx_end)
      | (refine is_sx ?_; first
          | refine sx_nil ?_
          | (refine is_gs ?_ rfl; refine sx_no ?_)
          | (refine is_s 0 ?_ rfl; refine sx_p (hp := by exact au_p0) ?_)
          | (refine is_s 2 ?_ rfl; first | refine sx_p (hp := by exact au_p2) ?_ | (refine gx_nn ?_; intro b hb; subst hb) | (refine gx_fv ?_; intro g fs cs hf cb; subst hf))
          | (refine is_s 3 ?_ rfl; refine sx_p (hp := by exact au_p3) ?_)
          | (refine is_s 13 ?_ rfl; refine sx_wr (hp := by exact au_wr13) ?_)
          | (refine is_s 10 ?_ rfl; first | refine sx_p (hp := by exact au_p10) ?_ | refine sx_wp (hp := by exact au_wp10) ?_)
          | (refine is_s 8 ?_ rfl; refine sx_wp (hp := by exact au_wp8) ?_)
          | (refine is_s 20 ?_ rfl; first | refine sx_p (hp := by exact au_p20) ?_ | refine sx_wr (hp := by exact au_wr20) ?_)
          | (refine is_s 27 ?_ rfl; refine sx_wp (hp := by exact au_wp27) ?_)
          | (refine is_s 4 ?_ rfl; first | refine sx_p (hp := by exact au_p4) ?_ | refine sx_wp (hp := by exact au_wp4) ?_)
          | (refine is_s 1 ?_ rfl; refine sx_p (hp := by exact au_p1) ?_)
          | (refine is_s 6 ?_ rfl; refine sx_p (hp := by exact au_p6) ?_)
          | (refine is_s 28 ?_ rfl; refine sx_wp (hp := by exact au_wp28) ?_)
          | (refine is_s 11 ?_ rfl; first | refine sx_wp (hp := by exact au_wp11) ?_ | refine sx_p (hp := by exact au_p11) ?_ | refine sx_wr (hp := by exact au_wr11) ?_)
          | (refine is_s 26 ?_ rfl; first | refine sx_wp (hp := by exact au_wp26) ?_ | refine sx_p (hp := by exact au_p26) ?_)
          | (refine is_s 12 ?_ rfl; first | refine sx_wp (hp := by exact au_wp12) ?_ | refine sx_p (hp := by exact au_p12) ?_)
          | (refine is_s 5 ?_ rfl; refine sx_p (hp := by exact au_p5) ?_)
          | (refine is_s 7 ?_ rfl; refine sx_wp (hp := by exact au_wp7) ?_)
          | (refine is_s 9 ?_ rfl; refine sx_wp (hp := by exact au_wp9) ?_)
          | (refine is_s 14 ?_ rfl; first | refine sx_wr (hp := by exact wr_rd (e_lookup' rfl rfl rfl)) ?_ | (refine sx_wr (hp := by exact wr_rd2 (e_lookup' rfl rfl rfl)) ?_; intro u; refine an_2 ?_))
          | (refine is_s 21 ?_ rfl; refine sx_wp (hp := by exact au_wp21) ?_)
          | (refine is_s 25 ?_ rfl; refine sx_wr (hp := by exact au_wr25) ?_)
          | (refine sx_ite ?_ ?_ <;> (intro hb; refine gx_fold ?_; intro a w hs; try rw [hb] at hs; clear hb; revert hs; revert w; revert a; refine gx_unf ?_)))
      | refine bx_b ?_
      | refine bj_b ?_
      | exact gx_jump
      | refine al_drop ?_) :
    CallF P f args.toArray kk w := g_start n hk hf h hb hn hl
end Go.Sep
/- Adding to what stands in a map. -/
namespace Go.Sep
open Go Go.RowKit Go.MapKept
set_option linter.unusedSimpArgs false
set_option linter.unusedVariables false
set_option linter.unusedSectionVars false
/-- Keys that are found. -/
structure Fnd {α : Type} [DecidableEq α] (P : Program) (kt : TypeId) (enc : α → Value) : Prop where
  chk : ∀ a w, (Instr.checkKey false 10000 kt (enc a)).run P w = .ok () w
  bits : ∀ a, Instr.sameBits 10000 (enc a) (enc a) = true
  find : ∀ (β : Type) (cV : β → Value) (es : Array MapEntry) (m : List (α × β)), mrel enc cV es m → ∀ a w, ((Instr.findKey kt (enc a) es.toList).run P w = .ok none w ∧ mget a m = none ∧ (∀ v, mset a v m = m ++ [(a, v)])) ∨
    ∃ j x, (Instr.findKey kt (enc a) es.toList).run P w = .ok (some (j, cV x)) w ∧ j < m.length ∧ m[j]? = some (a, x) ∧ mget a m = some x ∧ (∀ v, mset a v m = m.set j (a, v))
theorem fndS {α : Type} [DecidableEq α] {P : Program} {kt : TypeId} {cel : α → List Value} (h : KeyS P kt cel) : Fnd P kt (kyS cel) := ⟨fun a w => h.chk a false w, h.bits, fun β cV es m hr a w => by
  rcases run_findS h hr a w with ⟨g1, g2, g3, _⟩ | ⟨j, x, g1, g2, g3, g4, g5, _⟩
  · exact .inl ⟨g1, g2, g3⟩
  · exact .inr ⟨j, x, g1, g2, g3, g4, g5⟩⟩
theorem fndE {α : Type} [DecidableEq α] {P : Program} {kt : TypeId} {d : TypeDesc} {enc : α → Value} (hd : P.underlying kt = some d) (h : KeyE d enc) : Fnd P kt enc := ⟨fun a w => run_checkKey hd (h.key a) _ _, h.bits, fun β cV es m hr a w => by
  rcases mfound h hr a with ⟨g1, g2, g3, _⟩ | ⟨j, x, g1, g2, g3, g4, g5, _⟩
  · exact .inl ⟨run_findKey hd g1, g2, g3⟩
  · exact .inr ⟨j, x, run_findKey hd g1, g2, g3, g4, g5⟩⟩
theorem idx_born {p : MapEntry → Bool} : ∀ {l : List MapEntry} {j : Nat} {e : MapEntry}, l[j]? = some e → p e = true → (∀ i x, i < j → l[i]? = some x → p x = false) → l.findIdx? p = some j
  | [], _, _, h, _, _ => by simp at h
  | a :: l, 0, e, h, hp, _ => by
    simp at h; subst h
    simp [List.findIdx?_cons, hp]
  | a :: l, j + 1, e, h, hp, hn => by
    have h0 := hn 0 a (by omega) rfl
    rw [List.findIdx?_cons, h0]
    simp only [Bool.false_eq_true, if_false]
    rw [idx_born (j := j) (by simpa using h) hp fun i x hi hx => hn (i + 1) x (by omega) (by simpa using hx)]
    rfl
section
variable {α β : Type} [DecidableEq α] {P : Program} {B : World} {Γ Δ : List HProp} {kt : TypeId} {enc : α → Value} {cV : β → Value} {k : K}
/-- A map that has just been asked for an entry. -/
def EntR (enc : α → Value) (cV : β → Value) (b : Nat) (m : List (α × β)) (z : β) (a : α) (st : Int) : HProp := ex fun es : Array MapEntry => ex fun c : Nat => fun g =>
  (stamps es c ∧ ∃ m1 j e, mrel enc cV es m1 ∧ j < m1.length ∧ es[j]? = some e ∧ (e.born : Int) = st ∧ e.key = enc a ∧ (∀ v, m1.set j (a, v) = mset a v m) ∧ m1 = mset a ((mget a m).getD z) m) ∧ blk b (.map es c) g
instance (priority := high) own_ent {b : Nat} {m : List (α × β)} {z : β} {a : α} {st : Int} {Γ : List HProp} : Own b (EntR enc cV b m z a st :: Γ) (EntR enc cV b m z a st) Γ := ⟨.refl _⟩
/-- It's a map still. -/
theorem EntR.map {m : List (α × β)} {z : β} {a : α} {st : Int} {b : Nat} {w : World} (h : Holds B (EntR enc cV b m z a st :: Δ) w) : Holds B (MapR enc cV b (mset a ((mget a m).getD z) m) :: Δ) w := by
  obtain ⟨es, h1⟩ := Holds.ex.1 h
  obtain ⟨c, h1⟩ := Holds.ex.1 h1
  obtain ⟨hst, m1, j, e, hr, hj, he, hbn, hek, hm, h2⟩ := h1.fact fun g hg => hg.1
  subst h2
  exact MapR.shuts ⟨hr, hst⟩ (h1.imp fun g hg => hg.2)
theorem mset_same {v : β} : ∀ {m : List (α × β)} {a : α}, mget a m = some v → mset a v m = m
  | [], _, h => by simp [mget] at h
  | p :: m, a, h => by
    unfold mget at h
    unfold mset
    split at h
    · rename_i hp
      simp only [Option.some.injEq] at h
      rw [if_pos hp, hp, ← h]
    · rename_i hp
      rw [if_neg hp, mset_same h]
theorem mget_self (m : List (α × β)) (a : α) (v : β) : mget a (mset a v m) = some v := by rw [mget_mset, if_pos rfl]
theorem s_mapEnt {T E : TypeId} {b : Nat} {m : List (α × β)} {z : β} {a : α} {k : β → Int → K} (hF : Fnd P kt enc) (hz : zeroT P E (cV z)) (h : ∀ st, HG B (EntR enc cV b m z a st :: Δ) (k ((mget a m).getD z) st)) (hT : P.underlying T = some (.map kt E) := by kernel_rfl) [p : Own b Γ (MapR enc cV b m) Δ] :
    HG B Γ (Do2 P (Instr.mapEntry T (.map (some b)) (enc a)) (fun x y => .tuple #[cV x, .int .i64 y]) k) := fun w hw => by
  obtain ⟨es, c, ⟨hr, hst⟩, h1⟩ := MapR.opens (hw.perm p.perm)
  have hb := h1.block
  have hlen : es.size = m.length := by have := congrArg List.length hr; simpa using this
  have key : ∀ {es' c' v st w'}, (Instr.mapEntry T (.map (some b)) (enc a)).run P w = .ok (.tuple #[cV v, goInt st]) w' → v = (mget a m).getD z → (stamps es' c' ∧ ∃ m1 j e, mrel enc cV es' m1 ∧ j < m1.length ∧ es'[j]? = some e ∧ (e.born : Int) = st ∧ e.key = enc a ∧ (∀ v, m1.set j (a, v) = mset a v m) ∧ m1 = mset a ((mget a m).getD z) m) →
      Holds B (blk b (.map es' c') :: Δ) w' → Do2 P (Instr.mapEntry T (.map (some b)) (enc a)) (fun x y => .tuple #[cV x, .int .i64 y]) k w := fun {es' c' v st w'} h3 h4 h5 h6 => by
    subst h4
    exact ⟨_, st, w', h3, h st w' (Holds.ex.2 ⟨es', Holds.ex.2 ⟨c', h6.imp fun g hg => ⟨h5, hg⟩⟩⟩)⟩
  rcases hF.find β cV es m hr a w with ⟨g1, g2, h2⟩ | ⟨j, x, g1, hj, h0, g2, h2⟩
  · obtain ⟨e1, h3⟩ := h1.setMap (P := P) (es' := es.push { key := enc a, val := cV z, born := c }) (c' := c + 1)
    refine key (es' := es.push { key := enc a, val := cV z, born := c }) (c' := c + 1) (v := z) (st := (c : Int)) ?_ (by rw [g2]; rfl) ⟨stamps_push hst _ _, m ++ [(a, z)], m.length, ⟨enc a, cV z, c⟩, ?_, by simp, ?_, rfl, rfl, fun v => ?_, by rw [h2, g2]; rfl⟩ h3
    · unfold Instr.mapEntry
      simp only [Sem.run_bind, run_underlying hT, Result.andThen, MapKept.run_getObj_map hb, hF.chk, g1, zeroT_spec hz, e1, Sem.run_pure]
    · simp only [mrel, Array.toList_push, List.map_append, List.map_cons, List.map_nil]
      rw [show es.toList.map (fun e => (e.key, e.val)) = _ from hr]
    · rw [← hlen]; simp
    · rw [h2, List.set_append]; simp
  · have hes : ∃ e, es.toList[j]? = some e ∧ e.key = enc a := by
      have := mrel_at hr j
      rw [h0] at this
      cases he : es.toList[j]? with
      | none => rw [he] at this; simp at this
      | some e =>
        rw [he] at this
        simp only [Option.map_some, Option.some.injEq, Prod.mk.injEq] at this
        exact ⟨e, rfl, this.1⟩
    obtain ⟨e, he, hek⟩ := hes
    have he2 : es[j]? = some e := by rw [← he, Array.getElem?_toList]
    have hmod : (es.modify j fun e' => { e' with key := enc a }) = es := by
      apply Array.ext_getElem?
      intro i
      rw [Array.getElem?_modify]
      split
      · rename_i hij
        subst hij
        rw [he2]
        simp [← hek]
      · rfl
    obtain ⟨e1, h3⟩ := h1.setMap (P := P) (es' := es) (c' := c)
    refine key (es' := es) (c' := c) (v := x) (st := (e.born : Int)) ?_ (by rw [g2]; rfl) ⟨hst, m, j, e, hr, hj, he2, rfl, hek, fun v => (h2 v).symm, by rw [g2]; exact (mset_same g2).symm⟩ h3
    unfold Instr.mapEntry
    simp only [Sem.run_bind, run_underlying hT, Result.andThen, MapKept.run_getObj_map hb, hF.chk, g1, he2, Option.map_some, Option.getD_some, hek, Instr.keyThatStays, hF.bits, if_true, Sem.run_pure, hmod, e1]
theorem s_mapEntSt {T : TypeId} {b : Nat} {m : List (α × β)} {z : β} {a : α} {v : β} {x : Value} {st : Int} (hx : x = cV v) (h : HG B (MapR enc cV b (mset a v m) :: Δ) k) [p : Own b Γ (EntR enc cV b m z a st) Δ] :
    HG B Γ (DoU P (Instr.entryStore T (.map (some b)) (.int .i64 st) x) k) := fun w hw => by
  subst hx
  obtain ⟨es, h1⟩ := Holds.ex.1 (hw.perm p.perm)
  obtain ⟨c, h1⟩ := Holds.ex.1 h1
  obtain ⟨hst, m1, j, e, hr, hj, he, hbn, hek, hm, _⟩ := h1.fact fun g hg => hg.1
  have h1 := h1.imp fun g hg => hg.2
  have hb := h1.block
  have hidx : es.findIdx? (fun e' => ((e'.born : Nat) : Int) == st) = some j := by
    rw [show es.findIdx? (fun e' => ((e'.born : Nat) : Int) == st) = es.toList.findIdx? (fun e' => ((e'.born : Nat) : Int) == st) by cases es; simp]
    refine idx_born (e := e) (by rw [← he, Array.getElem?_toList]) (by simp [hbn]) fun i x hi hx => ?_
    simp only [beq_eq_false_iff_ne, ne_eq, ← hbn, Int.natCast_inj]
    intro hbe
    have hl : j < es.toList.length := by
      have := (Array.getElem?_eq_some_iff.1 he).1; simpa using this
    have h1 : (es.toList.map (·.born))[i]? = some e.born := by rw [List.getElem?_map, hx, ← hbe]; rfl
    have h2 : (es.toList.map (·.born))[j]? = some e.born := by rw [List.getElem?_map, Array.getElem?_toList, he]; rfl
    have := (List.getElem?_inj (by simp at hl ⊢; omega) hst.1).1 (h1.trans h2.symm)
    omega
  obtain ⟨e1, h3⟩ := h1.setMap (P := P) (es' := es.modify j fun e' => { e' with val := cV v }) (c' := c)
  refine ⟨(), _, ?_, h _ (MapR.shuts ⟨?_, ?_⟩ h3)⟩
  · unfold Instr.entryStore
    simp only [Sem.run_bind, MapKept.run_getObj_map hb, Result.andThen, asInt, asIntOf, Sem.run_pure, hidx, e1]
  · rw [← hm]
    simp only [mrel]
    apply List.ext_getElem?
    intro i
    have hi := mrel_at hr i
    simp only [List.getElem?_map, Array.getElem?_toList, Array.getElem?_modify] at hi ⊢
    by_cases hij : j = i
    · subst hij
      rw [List.getElem?_set_self hj, he]
      simp [hek]
    · rw [List.getElem?_set_ne hij, if_neg hij]
      exact hi
  · have : (es.modify j fun e' => { e' with val := cV v }) = es.modify j fun e' => { e' with key := enc a, val := cV v } := by
      apply Array.ext_getElem?
      intro i
      simp only [Array.getElem?_modify]
      split
      · rename_i hij
        subst hij
        rw [he]
        simp [← hek]
      · rfl
    rw [this]
    exact stamps_modify hst _ _ _
end
section
variable {P : Program} {B : World} {Γ Δ : List HProp} {k : K}
/-! ### what is read in any of some states -/
theorem s_wsP {k : (World → Prop) → K} (S : World → Prop) (h0 : ∀ w, Holds B Γ w → S w) (h : HG B Γ (k S)) : HG B Γ (WithS k) := fun w hw => ⟨S, h0 w hw, h w hw⟩
theorem s_svP {S : World → Prop} (h0 : ∀ w, Holds B Γ w → S w) (h : HG B Γ k) : HG B Γ (Sv S k) := fun w hw => ⟨h0 w hw, h w hw⟩
theorem s_ldNSP {S : World → Prop} {a : Addr} {n : Nat} {l : List Value} {k : Array Value → K} (h0 : ∀ w, S w → RdN w a l.toArray) (h : HG B Γ (k l.toArray)) (hn : l.length = n := by rfl) : HG B Γ (LdNS S a n k) := fun w hw => ⟨l.toArray, by simpa using hn, h0, h w hw⟩
theorem s_ldSP {S : World → Prop} {α : Type} {a : Addr} {c : α → Value} {x : α} {k : α → K} (h0 : ∀ w, S w → w.cell? a = some (c x)) (h : HG B Γ (k x)) : HG B Γ (LdS S a c k) := fun w hw => ⟨x, h0, h w hw⟩
theorem s_rdSP {S : World → Prop} {α : Type} {s : Sem Value} {c : α → Value} {x : α} {k : α → K} (h0 : ∀ w, S w → s.run P w = .ok (c x) w) (h : HG B Γ (k x)) : HG B Γ (RdS P S s c k) := fun w hw => ⟨x, h0, h w hw⟩
theorem rd_at {a : Addr} {b off n : Nat} {l l' : List Value} {T : TypeId} {fz : Nat × Nat} {w : World} (hw : Holds B Γ w) [ad : AdrIs a b off] [p : Own b Γ (blk b (.cells l.toArray T fz)) Δ] (hl : (l.drop off).take n = l' := by rfl) (hn : l'.length = n := by rfl) : RdN w a l'.toArray := by
  rw [ad.h]; exact rdN_own (own_blkOf hw (p := p)) hl hn
theorem look_at {α β : Type} [DecidableEq α] {kt : TypeId} {cel : α → List Value} {cV : β → Value} {T E : TypeId} {b : Nat} {m : List (α × β)} {z : β} {a : α} {w : World} (hw : Holds B Γ w) (hE : KeyS P kt cel) (hz : zeroT P E (cV z)) (hT : P.underlying T = some (.map kt E) := by kernel_rfl) [p : Own b Γ (MapR (kyS cel) cV b m) Δ] :
    (Instr.lookup T (.map (some b)) (kyS cel a) false).run P w = .ok (cV ((mget a m).getD z)) w := by
  obtain ⟨x, h1, rfl⟩ := s_look1S (B := B) (Γ := Γ) (Δ := Δ) (P := P) (b := b) (m := m) (a := a) (k := fun x _ => x = (mget a m).getD z) hE hz (fun w _ => rfl) hT w hw
  exact h1
end
end Go.Sep
/- The document's locks: claims in two lists (In, has, without, doom, Leave). -/
namespace Go.Proofs.YtfjjocopmknhgaaGreat
open Go Go.Sep Go.Sep.Bt
set_option linter.unusedSimpArgs false
set_option linter.unusedVariables false
set_option linter.unusedSectionVars false
set_option maxRecDepth 100000
theorem tagF_fl (L : List TagM) : ∀ v ∈ L.flatMap tagF, flatV v = true := fun v hv => by
  obtain ⟨x, _, hx⟩ := List.mem_flatMap.1 hv
  simp only [tagF, List.mem_cons, List.not_mem_nil, or_false] at hx
  rcases hx with rfl | rfl | rfl | rfl <;> rfl
section
variable {B : World} {Γ Δ : List HProp} {k : K} {tag : TagM}
theorem s_slc0 {E esz b : Nat} (h : HG B (SlC E esz ⟨some ⟨b, 0, none⟩, 0, 0⟩ [] :: Γ) k) : HG B (blk b (.cells ([] : List Value).toArray E (0, 0)) :: Γ) k := s_conv (blk_SlC (vs := []) rfl (by simp)) h
/-- A copy with one more, in whatever order it is made. -/
theorem s_cpyA {E T esz : Nat} {z us vs : List Value} {S : World → Prop} {s : Sl} {k : Sl → K} (h0 : ∀ w, Holds B Γ w → S w) (hr : ∀ w, Holds B Γ w → RdC w s esz vs) (hv : ∀ u ∈ vs, flatV u = true) (hroom : s.n ≤ 1000000) (h : ∀ s', s'.n = s.n + 1 → HG B (SlC E esz s' (vs ++ us) :: Γ) (k s'))
    (hz : z.length = esz := by rfl) (hl : us.length = esz := by rfl) (hfl : us.all flatV = true := by rfl) (hT : appT Tryz.prog T T E esz = true := by kernel_rfl) : HG B Γ (All [
      (New E #[] fun t => Sv S <| All [
        (Do Tryz.prog (Builtin.append_ #[T, T] T #[Sl.val (Sl.mk (some t) 0 0), s.val]) Sl.val fun a => Sv S <| Bld z.toArray (fun i => some (i * esz, esz)) [(0, .agg us.toArray)] fun ct => New E ct fun b => Sv S <|
          Do Tryz.prog (Builtin.append_ #[T, T] T #[a.val, Sl.val (Sl.mk (some b) 1 1)]) Sl.val k),
        (Bld z.toArray (fun i => some (i * esz, esz)) [(0, .agg us.toArray)] fun ct => New E ct fun b => Sv S <|
          Do Tryz.prog (Builtin.append_ #[T, T] T #[Sl.val (Sl.mk (some t) 0 0), s.val]) Sl.val fun a => Sv S <| Do Tryz.prog (Builtin.append_ #[T, T] T #[a.val, Sl.val (Sl.mk (some b) 1 1)]) Sl.val k)]),
      (Bld z.toArray (fun i => some (i * esz, esz)) [(0, .agg us.toArray)] fun ct => New E ct fun b => Sv S <| New E #[] fun t => Sv S <|
        Do Tryz.prog (Builtin.append_ #[T, T] T #[Sl.val (Sl.mk (some t) 0 0), s.val]) Sl.val fun a => Sv S <| Do Tryz.prog (Builtin.append_ #[T, T] T #[a.val, Sl.val (Sl.mk (some b) 1 1)]) Sl.val k)]) := by
  have hfa := flat_all hfl
  refine s_all2 ?_ ?_
  · refine s_new fun t => ?_
    refine s_slc0 (esz := esz) ?_
    refine s_svP (fun w hw => h0 w hw.drops) ?_
    refine s_all2 ?_ ?_
    · refine s_append (E := E) (esz := esz) (us := vs) (fun w hw => hr w hw.drops) hv (by simp only; omega) (hT := hT) fun a ha => ?_
      refine s_svP (fun w hw => h0 w hw.drops) ?_
      refine s_bld1 ?_ hz hl
      refine s_new fun b => ?_
      refine s_svP (fun w hw => h0 w hw.drops) ?_
      refine s_append (E := E) (esz := esz) (us := us) (fun w hw => RdC.of_blk hw List.mem_cons_self (by simp) (by omega) 1) hfa (by simp only at ha ⊢; omega) (hT := hT) fun a' ha' => ?_
      rw [List.nil_append]
      exact s_end (h a' (by simp only at ha ha'; omega))
    · refine s_bld1 ?_ hz hl
      refine s_new fun b => ?_
      refine s_svP (fun w hw => h0 w hw.drops) ?_
      refine s_append (s := ⟨some ⟨t, 0, none⟩, 0, 0⟩) (E := E) (esz := esz) (us := vs) (fun w hw => hr w hw.drops) hv (by simp only; omega) (hT := hT) fun a ha => ?_
      refine s_svP (fun w hw => h0 w hw.drops) ?_
      refine s_append (E := E) (esz := esz) (us := us) (fun w hw => RdC.of_blk hw (List.mem_cons_of_mem _ List.mem_cons_self) (by simp) (by omega) 1) hfa (by simp only at ha ⊢; omega) (hT := hT) fun a' ha' => ?_
      rw [List.nil_append]
      exact s_end (h a' (by simp only at ha ha'; omega))
  · refine s_bld1 ?_ hz hl
    refine s_new fun b => ?_
    refine s_svP (fun w hw => h0 w hw.drops) ?_
    refine s_new fun t => ?_
    refine s_slc0 (esz := esz) ?_
    refine s_svP (fun w hw => h0 w hw.drops) ?_
    refine s_append (E := E) (esz := esz) (us := vs) (fun w hw => hr w hw.drops) hv (by simp only; omega) (hT := hT) fun a ha => ?_
    refine s_svP (fun w hw => h0 w hw.drops) ?_
    refine s_append (E := E) (esz := esz) (us := us) (fun w hw => RdC.of_blk hw (List.mem_cons_of_mem _ List.mem_cons_self) (by simp) (by omega) 1) hfa (by simp only at ha ⊢; omega) (hT := hT) fun a' ha' => ?_
    rw [List.nil_append]
    exact s_end (h a' (by simp only at ha ha'; omega))
theorem in16_hg {s : Sl} {L : List TagM} {Q : Bool → K} (hl : L.length < 1000000000) (hr : ∀ w, Holds B Γ w → RdC w s 4 (L.flatMap tagF)) (h : HG B Γ (Q (decide (tag ∈ L)))) : HG B Γ (ref16_In.call s (tagF tag).toArray Q) := fun w hw => by
  refine ref16_In_ok _ _ _ _ ?_
  have ln : s.n = L.length := rd_len tagF_len (by omega) (hr w hw)
  refine hg hw ?_
  clear hw w
  unfold ref16_In
  refine s_new fun g3 => ?_
  refine s_loop (α := Int) (ι := Nat) (fun x i => x = (i : Int) ∧ i ≤ L.length ∧ tag ∉ L.take i) (fun x i => blk g3 (.cells (tagF tag).toArray ty_api_Tag (0, 0)) :: Γ) (fun x i => L.length - i) 0 ⟨rfl, Nat.zero_le _, by simp⟩ ?_
  rintro k' _ i ⟨rfl, hi, hn⟩ hk'
  unfold ref16_In.b1
  refine s_ite (fun hb => ?_) fun hb => ?_
  · have hil : i < L.length := by simp only [decide_eq_true_eq] at hb; omega
    have htk := List.take_succ_eq_append_getElem hil
    have hge : L[i]? = some L[i] := List.getElem?_eq_getElem hil
    have hmem : L[i] ∈ L := List.getElem_mem hil
    generalize L[i] = x at htk hge hmem
    refine s_dr ?_
    refine s_idxN tagF tagF_len (fun w hw => hr w hw.drops) hge ?_
    refine s_ldN (b := g3) (l' := tagF tag) ?_
    refine s_eqS (xs := tagF x) (ys := tagF tag) (ks := tagK) tagF_inj ?_
    refine s_ite (fun hp => ?_) fun hp => ?_
    · have : x = tag := by simpa using hp
      rw [show decide (tag ∈ L) = true by rw [← this]; simpa using hmem] at h
      exact s_end h
    · have hne : x ≠ tag := by simpa using hp
      refine s_ai ?_
      exact hk' ((i : Int) + 1) (i + 1) ⟨by simp, hil, by rw [htk]; simp [hn, Ne.symm hne]⟩ (by omega)
  · have hil : i = L.length := by simp only [decide_eq_false_iff_not] at hb; omega
    rw [hil, List.take_length] at hn
    rw [show decide (tag ∈ L) = false by simpa using hn] at h
    exact s_end h
def hasK (L : List Claim) (key : List UInt8) (tag : TagM) : Bool := L.any fun c => decide (c.2.key = key) && decide (c.1 = tag)
theorem s_ldNA16 {a : Addr} {m : Nat} {cs us : List Value} {k : Array Value → K} (hn : ∀ w, Holds B Γ w → RdN w a cs.toArray) (hm : m ≤ cs.length) (h : HG B Γ (k us.toArray)) (hu : cs.take m = us := by rfl) : HG B Γ (LdN a m k) := fun w hw => by
  refine ⟨us.toArray, by rw [← hu]; simp; omega, fun i hi => ?_, h w hw⟩
  have hl : us.length = min m cs.length := by rw [← hu, List.length_take]
  simp only [List.size_toArray] at hi
  have := hn w hw i (by simp only [List.size_toArray]; omega)
  rw [this]
  have e : cs[i]? = us[i]? := by rw [← hu, List.getElem?_take, if_pos (by omega)]
  simpa using e
theorem s_ldAi {α : Type} {a : Addr} {i : Nat} {cs : List Value} {c : α → Value} {x : α} {k : α → K} (hn : ∀ w, Holds B Γ w → RdN w a cs.toArray) (hv : cs[i]? = some (c x)) (h : HG B Γ (k x)) : HG B Γ (Ld (a.add i) c k) := fun w hw => ⟨x, by
  have := hn w hw i (by have := (List.getElem?_eq_some_iff.1 hv).1; simpa using this)
  rw [this]; simpa using hv, h w hw⟩
theorem has16_hg {s : Sl} {L : List Claim} {key : List UInt8} {Q : Bool → K} (hl : L.length < 1000000000) (hr : ∀ w, Holds B Γ w → RdC w s 7 (L.flatMap clF)) (h : HG B Γ (Q (hasK L key tag))) : HG B Γ (ref16_has.call s (bs key) (tagF tag).toArray Q) := fun w hw => by
  refine ref16_has_ok _ _ _ _ _ ?_
  have ln : s.n = L.length := rd_len clF_len (by omega) (hr w hw)
  refine hg hw ?_
  clear hw w
  unfold ref16_has
  refine s_new fun g5 => ?_
  refine s_loop (α := Int) (ι := Nat) (fun x i => x = (i : Int) ∧ i ≤ L.length ∧ hasK (L.take i) key tag = false) (fun x i => blk g5 (.cells (tagF tag).toArray ty_api_Tag (0, 0)) :: Γ) (fun x i => L.length - i) 0 ⟨rfl, Nat.zero_le _, by simp [hasK]⟩ ?_
  rintro k' _ i ⟨rfl, hi, hn⟩ hk'
  unfold ref16_has.b1
  refine s_ite (fun hb => ?_) fun hb => ?_
  · have hil : i < L.length := by simp only [decide_eq_true_eq] at hb; omega
    have htk := List.take_succ_eq_append_getElem hil
    have hge : L[i]? = some L[i] := List.getElem?_eq_getElem hil
    have hmem : L[i] ∈ L := List.getElem_mem hil
    generalize L[i] = x at htk hge hmem
    have step : (decide (x.2.key = key) && decide (x.1 = tag)) = false → HG B (blk g5 (.cells (tagF tag).toArray ty_api_Tag (0, 0)) :: Γ) (ref16_has.s2 Q k' s (bs key) ⟨g5, 0, none⟩ (i : Int) false) := fun hx => by
      unfold ref16_has.s2
      refine s_f ?_
      refine s_ai ?_
      exact hk' ((i : Int) + 1) (i + 1) ⟨by simp, hil, by rw [htk]; unfold hasK at hn ⊢; rw [List.any_append, hn]; simp only [List.any_cons, List.any_nil, Bool.or_false, Bool.false_or, hx]⟩ (by omega)
    refine s_dr ?_
    refine s_idxFA clF clF_len (by omega) (fun w hw => hr w hw.drops) hge fun t16 ht16 => ?_
    refine s_ldAi (cs := clF x) (i := 4) (x := bs x.2.key) (fun w hw => ht16 w (hr w hw.drops)) rfl ?_
    refine s_ite (fun hp => ?_) fun hp => ?_
    · have hkey : x.2.key = key := by rw [bs_list, bs_list] at hp; simpa using hp
      refine s_idxFA clF clF_len (by omega) (fun w hw => hr w hw.drops) hge fun t25 ht25 => ?_
      refine s_ldNA16 (cs := clF x) (us := tagF x.1) (fun w hw => ht25 w (hr w hw.drops)) (by rw [clF_len]; omega) ?_
      refine s_ldN (b := g5) (l' := tagF tag) ?_
      refine s_eqS (xs := tagF x.1) (ys := tagF tag) (ks := tagK) tagF_inj ?_
      by_cases hx : x.1 = tag
      · rw [show decide (x.1 = tag) = true by simpa using hx]
        unfold ref16_has.s2
        refine s_t ?_
        rw [show hasK L key tag = true by unfold hasK; rw [List.any_eq_true]; exact ⟨x, hmem, by simp [hkey, hx]⟩] at h
        exact s_end h
      · rw [show decide (x.1 = tag) = false by simpa using hx]
        exact step (by simp [hx])
    · have hkey : x.2.key ≠ key := by rw [bs_list, bs_list] at hp; simpa using hp
      exact step (by simp [hkey])
  · have hil : i = L.length := by simp only [decide_eq_false_iff_not] at hb; omega
    rw [hil, List.take_length] at hn
    rw [hn] at h
    exact s_end h
theorem without16_hg {s : Sl} {L : List Claim} {Q : Sl → K} (hl : L.length ≤ 1000000) (hr : ∀ w, Holds B Γ w → RdC w s 7 (L.flatMap clF)) (h : ∀ s', HG B (SlC ty_argosyref16_Claim 7 s' ((noT tag L).flatMap clF) :: Γ) (Q s')) : HG B Γ (ref16_without.call s (tagF tag).toArray Q) := fun w hw => by
  refine ref16_without_ok _ _ _ _ ?_
  have ln : s.n = L.length := rd_len clF_len (by omega) (hr w hw)
  refine hg hw ?_
  clear hw w
  unfold ref16_without
  refine s_new fun g3 => ?_
  refine s_new fun t7 => ?_
  refine s_slc0 (esz := 7) ?_
  refine s_loop (α := Sl × Int) (ι := Nat) (fun x i => x.2 = (i : Int) ∧ i ≤ L.length) (fun x i => SlC ty_argosyref16_Claim 7 x.1 ((noT tag (L.take i)).flatMap clF) :: blk g3 (.cells (tagF tag).toArray ty_api_Tag (0, 0)) :: Γ) (fun x i => L.length - i) 0 ⟨rfl, Nat.zero_le _⟩ ?_
  rintro k' ⟨o, _⟩ i ⟨rfl, hi⟩ hk'
  simp only at hi hk' ⊢
  refine s_cap o fun a1 a2 a3 a4 => ?_
  rw [flatMap_len _ 7 clF_len] at a1
  have ho : (noT tag (L.take i)).length ≤ i := by
    unfold noT
    have h1 := List.length_filter_le (fun c : Claim => !decide (c.1 = tag)) (L.take i)
    rw [List.length_take] at h1
    omega
  unfold ref16_without.b1
  refine s_ite (fun hb => ?_) fun hb => ?_
  · have hil : i < L.length := by simp only [decide_eq_true_eq] at hb; omega
    have htk := List.take_succ_eq_append_getElem hil
    have hge : L[i]? = some L[i] := List.getElem?_eq_getElem hil
    generalize L[i] = x at htk hge
    refine s_dr ?_
    refine s_idxFA clF clF_len (by omega) (fun w hw => hr w hw.drops) hge fun t16 ht16 => ?_
    refine s_ldNA16 (cs := clF x) (us := tagF x.1) (fun w hw => ht16 w (hr w hw.drops)) (by rw [clF_len]; omega) ?_
    refine s_ldN (b := g3) (l' := tagF tag) ?_
    refine s_neS (xs := tagF x.1) (ys := tagF tag) (ks := tagK) tagF_inj ?_
    by_cases hx : x.1 = tag
    · refine s_f ?_ (by simp [hx])
      unfold ref16_without.s2
      refine s_ai ?_
      have hfin := hk' (o, (i : Int) + 1) (i + 1) ⟨by simp, hil⟩ (by omega)
      rw [show noT tag (L.take (i + 1)) = noT tag (L.take i) by rw [htk]; simp [noT, hx]] at hfin
      exact hfin
    · refine s_t ?_ (by simp [hx])
      refine s_idxN clF clF_len (fun w hw => hr w hw.drops) hge ?_
      refine s_bld1 ?_
      refine s_app1 (s := o) (m := 1) (us := clF x) (fun o2 ho2 => ?_)
      unfold ref16_without.s2
      refine s_ai ?_
      have hfin := hk' (o2, (i : Int) + 1) (i + 1) ⟨by simp, hil⟩ (by omega)
      rw [show (noT tag (L.take (i + 1))).flatMap clF = (noT tag (L.take i)).flatMap clF ++ clF x by rw [htk]; simp [noT, hx, List.flatMap_append]] at hfin
      exact hfin
  · have hil : i = L.length := by simp only [decide_eq_false_iff_not] at hb; omega
    rw [hil, List.take_length]
    exact s_end (h o)
end
end Go.Proofs.YtfjjocopmknhgaaGreat
/- A B-tree's node, leaf or not, in one view. Holds for every program. -/
namespace Go.Sep
open Go Go.RowKit
set_option linter.unusedSimpArgs false
set_option linter.unusedVariables false
namespace Bt
section
variable {κ : Type} {G : BtT κ} {c : κ → κ → Int} {B : World} {Γ Δ : List HProp}
/-- Items and kids in turn. -/
def wv : List G.It → List (Kid G) → List G.It
  | its, [] => its
  | [], q :: _ => q.2
  | x :: its, q :: ks => q.2 ++ x :: wv its ks
theorem wv_ps (q0 : Kid G) : ∀ (ps : List (G.It × Kid G)), wv (ps.map Prod.fst) (q0 :: ps.map Prod.snd) = psL q0 ps
  | [] => by simp [wv, psL]
  | (x, q) :: ps => by
    have e : psL q0 ((x, q) :: ps) = q0.2 ++ x :: psL q ps := by simp [psL]
    rw [e, ← wv_ps q ps]; rfl
/-- As many kids as there must be. -/
def Fit (d : Nat) (its : List G.It) (ks : List (Kid G)) : Prop := match d with
  | 0 => ks = []
  | _ + 1 => ks.length = its.length + 1
def kidsD (G : BtT κ) : Nat → List (Kid G) → HProp
  | 0, _ => Sep.stars []
  | d + 1, ks => kidsR G d ks
abbrev rawL (G : BtT κ) (d b : Nat) (s kd : Sl) (its : List G.It) (ks : List (Kid G)) (Γ : List HProp) : List HProp := nodeB G b s kd :: itsR G s its :: kpsR G kd (ks.map ptr) :: kidsD G d ks :: Γ
theorem s_raw {d m b : Nat} {L : List G.It} {k : K} (h : ∀ s kd its ks, Fit d its ks → its.length ≤ 5 → (m = 2 → its ≠ []) → L = wv its ks → HG B (rawL G d b s kd its ks Γ) k) : HG B (NodeR G d m b L :: Γ) k := by
  cases d with
  | zero =>
    refine s_node0 fun s kd h1 h2 => ?_
    refine fun w hw => ?_
    refine hg (show Holds B (kidsD G 0 [] :: _) w from Holds.flat.2 hw) ?_
    have := h s kd L [] rfl h2 h1 (by cases L <;> rfl)
    refine s_end (Δ := nodeB G b s kd :: itsR G s L :: kpsR G kd [] :: kidsD G 0 [] :: Γ) ?_
    exact this
  | succ d =>
    refine s_nodeS fun s kd q0 ps h1 h2 h3 => ?_
    exact h s kd (ps.map Prod.fst) (q0 :: ps.map Prod.snd) (by simp [Fit]) (by simpa using h2) (fun hm => by simpa using h1 (by omega)) (by rw [h3, wv_ps])
theorem zip_ps {its : List G.It} {ks : List (Kid G)} (h : ks.length = its.length + 1) : ∃ (q0 : Kid G) (ps : List (G.It × Kid G)), its = ps.map Prod.fst ∧ ks = q0 :: ps.map Prod.snd := by
  cases ks with
  | nil => simp at h
  | cons q0 ks =>
    refine ⟨q0, its.zip ks, ?_, ?_⟩
    · rw [List.map_fst_zip (by simp at h; omega)]
    · rw [List.map_snd_zip (by simp at h; omega)]
theorem s_unraw {d m b : Nat} {s kd : Sl} {its : List G.It} {ks : List (Kid G)} {k : K} (hf : Fit d its ks) (hl : its.length ≤ 5) (hm : 1 ≤ m → (d = 0 ∧ m = 1) ∨ its ≠ []) (h : HG B (NodeR G d m b (wv its ks) :: Γ) k) : HG B (rawL G d b s kd its ks Γ) k := by
  cases d with
  | zero =>
    have hk : ks = [] := hf
    subst hk
    have e : wv its [] = its := by cases its <;> rfl
    rw [e] at h
    show HG B (nodeB G b s kd :: itsR G s its :: kpsR G kd [] :: kidsD G 0 [] :: Γ) k
    refine s_end (Δ := nodeB G b s kd :: itsR G s its :: kpsR G kd [] :: Γ) ?_
    exact s_mk0 (fun h2 => by rcases hm (by omega) with h3 | h3
                              · omega
                              · exact h3) hl h
  | succ d =>
    obtain ⟨q0, ps, rfl, rfl⟩ := zip_ps hf
    rw [wv_ps] at h
    exact s_mkS (fun h2 => by rcases hm h2 with h3 | h3
                              · omega
                              · simpa using h3) (by simpa using hl) h
end
end Bt
end Go.Sep
/- A B-tree: what Delete's functions are (printed by tools/mkbt.py). Holds for every program. -/
namespace Go.Sep
open Go Go.RowKit
set_option linter.unusedSimpArgs false
set_option linter.unusedVariables false
namespace Bt
structure BtD (κ : Type) extends BtT κ where
  delIC : Sl → Int → Int → (Sl → K) → K
  delKC : Sl → Int → Int → (Sl → K) → K
  ntakeC : Option Addr → κ → (Array Value → Bool → K) → K
  nlastC : Option Addr → (Array Value → K) → K
  nmendC : Option Addr → Int → K → K
section
variable {κ : Type}
def nmend_s2 (G : BtD κ) (Q : K)  (n0_2 : Addr) (i1_2 : Int) (kid4_2 : Addr) (t202_2 : Bool) : K :=
  Ite t202_2
    (Ld (n0_2.add 1) Sl.val fun t229 =>
    Ar (IntKind.wrap .i64 (i1_2 + 1)) fun t231 =>
    Idx t229 t231 1 fun t232 =>
    Ld t232 Value.pointer fun t233 =>
    Dr <| WithS fun S =>
    LdS S kid4_2 Sl.val fun t238 =>
    LdS S n0_2 Sl.val fun t242 =>
    Idx t242 i1_2 (G.nv + 1) fun t244 =>
    LdNS S t244 (G.nv + 1) fun t245 =>
    Bld (G.kz :: G.vz).toArray (fun i => some (i * (G.nv + 1), (G.nv + 1))) [(0, (.agg t245))] fun ct246 =>
    New G.tI ct246 fun t246 =>
    Sv S <|
    Do G.P (Builtin.append_ #[G.tSI, G.tSI] G.tSI #[(Sl.val t238), (Sl.val (Sl.mk (some t246) 1 1))]) Sl.val fun t247 =>
    St kid4_2 (Sl.val t247) <|
    Dr <|
    Nn t233 fun t256 =>
    Ld n0_2 Sl.val fun t253 =>
    Ld t256 Sl.val fun t258 =>
    Idx t258 0 (G.nv + 1) fun t259 =>
    LdN t259 (G.nv + 1) fun t260 =>
    Idx t253 i1_2 (G.nv + 1) fun t261 =>
    StN t261 (G.nv + 1) t260 <|
    Ld t256 Sl.val fun t266 =>
    G.delIC t266 0 1 fun t267 =>
    St t256 (Sl.val t267) <|
    Ld (t256.add 1) Sl.val fun t273 =>
    Ite (decide ((0 : Int) < (t273.n : Int)))
      (Dr <| WithS fun S =>
      LdS S (kid4_2.add 1) Sl.val fun t280 =>
      LdS S (t256.add 1) Sl.val fun t284 =>
      Idx t284 0 1 fun t285 =>
      LdS S t285 Value.pointer fun t286 =>
      New G.tK #[(.pointer t286)] fun t287 =>
      Sv S <|
      Do G.P (Builtin.append_ #[G.tSK, G.tSK] G.tSK #[(Sl.val t280), (Sl.val (Sl.mk (some t287) 1 1))]) Sl.val fun t288 =>
      St (kid4_2.add 1) (Sl.val t288) <|
      Ld (t256.add 1) Sl.val fun t295 =>
      G.delKC t295 0 1 fun t296 =>
      St (t256.add 1) (Sl.val t296) <|
      Q)
      (Q))
    (Ar (if (1 : Int) > i1_2 then 1 else i1_2) fun t18 =>
    Dr <|
    Ld (n0_2.add 1) Sl.val fun t22 =>
    Ar (IntKind.wrap .i64 (t18 - 1)) fun t24 =>
    Idx t22 t24 1 fun t25 =>
    Ld t25 Value.pointer fun t26 =>
    Ld (n0_2.add 1) Sl.val fun t30 =>
    Idx t30 t18 1 fun t32 =>
    Ld t32 Value.pointer fun t33 =>
    Dr <| WithS fun S =>
    Nn t26 fun t36 =>
    Ar (IntKind.wrap .i64 (t18 - 1)) fun t44 =>
    Nn t33 fun t50 =>
    LdS S t36 Sl.val fun t38 =>
    LdS S n0_2 Sl.val fun t42 =>
    Idx t42 t44 (G.nv + 1) fun t45 =>
    LdNS S t45 (G.nv + 1) fun t46 =>
    LdS S t50 Sl.val fun t52 =>
    Bld (G.kz :: G.vz).toArray (fun i => some (i * (G.nv + 1), (G.nv + 1))) [(0, (.agg t46))] fun ct47 =>
    New G.tI ct47 fun t47 =>
    Sv S <|
    Do G.P (Builtin.append_ #[G.tSI, G.tSI] G.tSI #[(Sl.val t38), (Sl.val (Sl.mk (some t47) 1 1))]) Sl.val fun t48 =>
    Sv S <|
    Do G.P (Builtin.append_ #[G.tSI, G.tSI] G.tSI #[(Sl.val t48), (Sl.val t52)]) Sl.val fun t53 =>
    St t36 (Sl.val t53) <|
    Dr <|
    Ld (t36.add 1) Sl.val fun t60 =>
    Ld (t50.add 1) Sl.val fun t64 =>
    Do G.P (Builtin.append_ #[G.tSK, G.tSK] G.tSK #[(Sl.val t60), (Sl.val t64)]) Sl.val fun t65 =>
    St (t36.add 1) (Sl.val t65) <|
    Ld n0_2 Sl.val fun t72 =>
    Ar (IntKind.wrap .i64 (t18 - 1)) fun t74 =>
    G.delIC t72 t74 t18 fun t76 =>
    St n0_2 (Sl.val t76) <|
    Ld (n0_2.add 1) Sl.val fun t83 =>
    Ar (IntKind.wrap .i64 (t18 + 1)) fun t86 =>
    G.delKC t83 t18 t86 fun t87 =>
    St (n0_2.add 1) (Sl.val t87) <|
    Q)
def nmend_s1 (G : BtD κ) (Q : K)  (n0_1 : Addr) (i1_1 : Int) (kid4_1 : Addr) (t97_1 : Bool) : K :=
  Ite t97_1
    (Ld (n0_1.add 1) Sl.val fun t118 =>
    Ar (IntKind.wrap .i64 (i1_1 - 1)) fun t120 =>
    Idx t118 t120 1 fun t121 =>
    Ld t121 Value.pointer fun t122 =>
    Nn t122 fun t124 =>
    Ld t124 Sl.val fun t126 =>
    Ar (IntKind.wrap .i64 ((t126.n : Int) - 1)) fun t128 =>
    Dr <| WithS fun S =>
    Ar (IntKind.wrap .i64 (i1_1 - 1)) fun t139 =>
    LdS S kid4_1 Sl.val fun t133 =>
    LdS S n0_1 Sl.val fun t137 =>
    Idx t137 t139 (G.nv + 1) fun t140 =>
    LdNS S t140 (G.nv + 1) fun t141 =>
    Bld (G.kz :: G.vz).toArray (fun i => some (i * (G.nv + 1), (G.nv + 1))) [(0, (.agg t141))] fun ct142 =>
    New G.tI ct142 fun t142 =>
    Sv S <|
    G.insIC t133 0 (Sl.mk (some t142) 1 1) fun t143 =>
    St kid4_1 (Sl.val t143) <|
    Dr <|
    Ar (IntKind.wrap .i64 (i1_1 - 1)) fun t151 =>
    Ld n0_1 Sl.val fun t149 =>
    Ld t124 Sl.val fun t155 =>
    Idx t155 t128 (G.nv + 1) fun t157 =>
    LdN t157 (G.nv + 1) fun t158 =>
    Idx t149 t151 (G.nv + 1) fun t159 =>
    StN t159 (G.nv + 1) t158 <|
    Ld t124 Sl.val fun t164 =>
    Slc t164 0 t128 (t164.c : Int) (G.nv + 1) fun t166 =>
    St t124 (Sl.val t166) <|
    Ld (t124.add 1) Sl.val fun t172 =>
    Ite (decide ((0 : Int) < (t172.n : Int)))
      (Dr <| WithS fun S =>
      Ar (IntKind.wrap .i64 (t128 + 1)) fun t185 =>
      LdS S (kid4_1.add 1) Sl.val fun t179 =>
      LdS S (t124.add 1) Sl.val fun t183 =>
      Idx t183 t185 1 fun t186 =>
      LdS S t186 Value.pointer fun t187 =>
      New G.tK #[(.pointer t187)] fun t188 =>
      Sv S <|
      G.insKC t179 0 (Sl.mk (some t188) 1 1) fun t189 =>
      St (kid4_1.add 1) (Sl.val t189) <|
      Ld (t124.add 1) Sl.val fun t196 =>
      Ar (IntKind.wrap .i64 (t128 + 1)) fun t198 =>
      Slc t196 0 t198 (t196.c : Int) 1 fun t199 =>
      St (t124.add 1) (Sl.val t199) <|
      Q)
      (Q))
    (Ar (IntKind.wrap .i64 (i1_1 + 1)) fun t204 =>
    Ld (n0_1.add 1) Sl.val fun t208 =>
    Ite (decide (t204 < (t208.n : Int)))
      (Ld (n0_1.add 1) Sl.val fun t215 =>
      Ar (IntKind.wrap .i64 (i1_1 + 1)) fun t217 =>
      Idx t215 t217 1 fun t218 =>
      Ld t218 Value.pointer fun t219 =>
      Nn t219 fun t220 =>
      Ld t220 Sl.val fun t222 =>
      nmend_s2 G Q n0_1 i1_1 kid4_1 (decide ((2 : Int) < (t222.n : Int))))
      (nmend_s2 G Q n0_1 i1_1 kid4_1 false))
def nmend (G : BtD κ) (n0 : (Option Addr)) (i1 : Int) (Q : K) : K :=
  Nn n0 fun t11 =>
  Ld (t11.add 1) Sl.val fun t13 =>
  Idx t13 i1 1 fun t15 =>
  Ld t15 Value.pointer fun t16 =>
  Nn t16 fun t92 =>
  Ld t92 Sl.val fun t94 =>
  Ite (decide ((2 : Int) ≤ (t94.n : Int)))
    (Q)
    (Ite (decide ((0 : Int) < i1))
      (Ld (t11.add 1) Sl.val fun t104 =>
      Ar (IntKind.wrap .i64 (i1 - 1)) fun t106 =>
      Idx t104 t106 1 fun t107 =>
      Ld t107 Value.pointer fun t108 =>
      Nn t108 fun t109 =>
      Ld t109 Sl.val fun t111 =>
      nmend_s1 G Q t11 i1 t92 (decide ((2 : Int) < (t111.n : Int))))
      (nmend_s1 G Q t11 i1 t92 false))
def nlast (G : BtD κ) (n0 : (Option Addr)) (Q : (Array Value) → K) : K :=
  New G.tI (G.kz :: G.vz).toArray fun t2 =>
  Nn n0 fun t7 =>
  Ld (t7.add 1) Sl.val fun t9 =>
  Ar (IntKind.wrap .i64 ((t9.n : Int) - 1)) fun t11 =>
  Ite (decide ((0 : Int) ≤ t11))
    (Ld (t7.add 1) Sl.val fun t17 =>
    Idx t17 t11 1 fun t19 =>
    Ld t19 Value.pointer fun t20 =>
    G.nlastC t20 fun t21 =>
    New G.tI (G.kz :: G.vz).toArray fun x4 =>
    StN x4 (G.nv + 1) t21 <|
    G.nmendC (some t7) t11 <|
    LdN x4 (G.nv + 1) fun t25 =>
    StN t2 (G.nv + 1) t25 <|
    LdN t2 (G.nv + 1) fun r0 =>
    Q r0)
    (Dr <| WithS fun S =>
    LdS S t7 Sl.val fun t29 =>
    LdS S t7 Sl.val fun t33 =>
    Ar (IntKind.wrap .i64 ((t33.n : Int) - 1)) fun t35 =>
    Idx t29 t35 (G.nv + 1) fun t36 =>
    LdNS S t36 (G.nv + 1) fun t37 =>
    New G.tI (G.kz :: G.vz).toArray fun x5 =>
    Sv S <|
    StN x5 (G.nv + 1) t37 <|
    Dr <|
    Ld t7 Sl.val fun t42 =>
    Ld t7 Sl.val fun t46 =>
    Ar (IntKind.wrap .i64 ((t46.n : Int) - 1)) fun t48 =>
    Slc t42 0 t48 (t42.c : Int) (G.nv + 1) fun t49 =>
    St t7 (Sl.val t49) <|
    LdN x5 (G.nv + 1) fun t52 =>
    StN t2 (G.nv + 1) t52 <|
    LdN t2 (G.nv + 1) fun r0 =>
    Q r0)
def ntake_s1 (G : BtD κ) (Q : (Array Value) → Bool → K)  (value4_1 : Addr) (ok5_1 : Bool) : K :=
  LdN value4_1 G.nv fun t94 =>
  StN value4_1 G.nv t94 <|
  LdN value4_1 G.nv fun r0 =>
  Q r0 ok5_1
def ntake_s2 (G : BtD κ) (Q : (Array Value) → Bool → K)  (n0_2 : (Option Addr)) (key1_2 : κ) (value4_2 : Addr) (i6_2 : Int) (found7_2 : Bool) (t14_2 : Bool) : K :=
  Ite t14_2
    (Nn n0_2 fun t25 =>
    Ld t25 Sl.val fun t27 =>
    Idx t27 i6_2 (G.nv + 1) fun t29 =>
    LdN (t29.add 1) G.nv fun t31 =>
    StN value4_2 G.nv t31 <|
    Ld t25 Sl.val fun t36 =>
    Ar (IntKind.wrap .i64 (i6_2 + 1)) fun t39 =>
    G.delIC t36 i6_2 t39 fun t40 =>
    St t25 (Sl.val t40) <|
    LdN value4_2 G.nv fun t43 =>
    StN value4_2 G.nv t43 <|
    LdN value4_2 G.nv fun r0 =>
    Q r0 true)
    (Ite found7_2
      (Nn n0_2 fun t47 =>
      Ld t47 Sl.val fun t49 =>
      Idx t49 i6_2 (G.nv + 1) fun t51 =>
      LdN (t51.add 1) G.nv fun t53 =>
      StN value4_2 G.nv t53 <|
      Dr <| WithS fun S =>
      LdS S t47 Sl.val fun t57 =>
      LdS S (t47.add 1) Sl.val fun t62 =>
      Idx t62 i6_2 1 fun t64 =>
      LdS S t64 Value.pointer fun t65 =>
      G.nlastC t65 fun t66 =>
      Sv S <|
      Idx t57 i6_2 (G.nv + 1) fun t67 =>
      StN t67 (G.nv + 1) t66 <|
      G.nmendC (some t47) i6_2 <|
      LdN value4_2 G.nv fun t71 =>
      StN value4_2 G.nv t71 <|
      LdN value4_2 G.nv fun r0 =>
      Q r0 true)
      (Nn n0_2 fun t74 =>
      Ld (t74.add 1) Sl.val fun t76 =>
      Ite (decide ((0 : Int) < (t76.n : Int)))
        (Ld (t74.add 1) Sl.val fun t83 =>
        Idx t83 i6_2 1 fun t85 =>
        Ld t85 Value.pointer fun t86 =>
        G.ntakeC t86 key1_2 fun t88x0 t88x1 =>
        StN value4_2 G.nv t88x0 <|
        G.nmendC (some t74) i6_2 <|
        ntake_s1 G Q value4_2 t88x1)
        (ntake_s1 G Q value4_2 false)))
def ntake (G : BtD κ) (n0 : (Option Addr)) (key1 : κ) (Q : (Array Value) → Bool → K) : K :=
  New G.tV G.vz.toArray fun value4 =>
  G.nsearchC n0 key1 fun t11x0 t11x1 =>
  Ite t11x1
    (Nn n0 fun t18 =>
    Ld (t18.add 1) Sl.val fun t20 =>
    ntake_s2 G Q (some t18) key1 value4 t11x0 true (decide ((t20.n : Int) = 0)))
    (ntake_s2 G Q n0 key1 value4 t11x0 false false)
def tdel_s2 (G : BtD κ) (Q : (Array Value) → Bool → K)  (value4_2 : Addr) (ok5_2 : Bool) : K :=
  LdN value4_2 G.nv fun t55 =>
  StN value4_2 G.nv t55 <|
  LdN value4_2 G.nv fun r0 =>
  Q r0 ok5_2
def tdel_s1 (G : BtD κ) (Q : (Array Value) → Bool → K)  (t0_1 : Addr) (value4_1 : Addr) (ok5_1 : Bool) : K :=
  Ite ok5_1
    (Ld (t0_1.add 1) (Value.int .i64) fun t51 =>
    Ar (IntKind.wrap .i64 (t51 - 1)) fun t52 =>
    St (t0_1.add 1) (.int .i64 t52) <|
    tdel_s2 G Q value4_1 ok5_1)
    (tdel_s2 G Q value4_1 ok5_1)
def tdel_s3 (G : BtD κ) (Q : (Array Value) → Bool → K)  (t0_3 : Addr) (value4_3 : Addr) (ok5_3 : Bool) (t34_3 : Bool) : K :=
  Ite t34_3
    (Ld t0_3 Value.pointer fun t39 =>
    Nn t39 fun t40 =>
    Ld (t40.add 1) Sl.val fun t42 =>
    Idx t42 0 1 fun t43 =>
    Ld t43 Value.pointer fun t44 =>
    St t0_3 (.pointer t44) <|
    tdel_s1 G Q t0_3 value4_3 ok5_3)
    (tdel_s1 G Q t0_3 value4_3 ok5_3)
def tdel (G : BtD κ) (t0 : (Option Addr)) (key1 : κ) (Q : (Array Value) → Bool → K) : K :=
  New G.tV G.vz.toArray fun value4 =>
  Nn t0 fun t8 =>
  Ld t8 Value.pointer fun t10 =>
  G.ntakeC t10 key1 fun t12x0 t12x1 =>
  StN value4 G.nv t12x0 <|
  Ld t8 Value.pointer fun t18 =>
  Nn t18 fun t19 =>
  Ld t19 Sl.val fun t21 =>
  Ite (decide ((t21.n : Int) = 0))
    (Ld t8 Value.pointer fun t28 =>
    Nn t28 fun t29 =>
    Ld (t29.add 1) Sl.val fun t31 =>
    tdel_s3 G Q t8 value4 t12x1 (decide ((t31.n : Int) = 1)))
    (tdel_s3 G Q t8 value4 t12x1 false)
end
/-- What is asked of Delete's functions. -/
structure BtDOk {κ : Type} (G : BtD κ) (c : κ → κ → Int) : Prop extends BtOk G.toBtT c where
  delI : ∃ Z, ∀ s i j Q w, delK G.P G.tSI Z (G.nv + 1) s i j Q w → G.delIC s i j Q w
  delK : ∃ Z, ∀ s i j Q w, delK G.P G.tSK Z 1 s i j Q w → G.delKC s i j Q w
  take : ∀ n k Q w, ntake G n k Q w → G.ntakeC n k Q w
  last : ∀ n Q w, nlast G n Q w → G.nlastC n Q w
  mend : ∀ n i Q w, nmend G n i Q w → G.nmendC n i Q w
end Bt
end Go.Sep
/- A B-tree: what mend does. Holds for every program. -/
namespace Go.Sep
open Go Go.RowKit
set_option linter.unusedSimpArgs false
set_option linter.unusedVariables false
namespace Bt
section
variable {κ : Type} {B : World} {Γ Γ0 Δ : List HProp}
/-- An element that is read in every state that bears this. -/
theorem s_ldElS {α : Type} {f : α → List Value} {esz E : Nat} {s : Sl} {L : List α} {i : Nat} {x : α} {k : Array Value → K} (hf : ∀ x, (f x).length = esz) (hx : L[i]? = some x) (h : HG B Γ (k (f x).toArray)) [o : OwnS s Γ0 (SlC E esz s (L.flatMap f)) Δ] : HG B Γ (LdNS (Holds B Γ0) (elA s i esz) esz k) := fun w hw => by
  refine ⟨(f x).toArray, by simp [hf], fun w' hw' => ?_, h w hw⟩
  obtain ⟨cs, hcs, hrd, hk⟩ := s_ldEl (s := s) (i := i) (k := fun cs _ => cs = (f x).toArray) (E := E) (Γ := Γ0) (B := B) hf hx (fun _ _ => rfl) w' hw'
  rw [← hk]; exact hrd
theorem s_ldES1 {α : Type} {c : α → Value} {E : Nat} {s : Sl} {L : List α} {i : Nat} {x : α} {k : α → K} (hx : L[i]? = some x) (h : HG B Γ (k x)) [o : OwnS s Γ0 (SlC E 1 s (L.map c)) Δ] : HG B Γ (LdS (Holds B Γ0) (elA s i 1) c k) := fun w hw => by
  refine ⟨x, fun w' hw' => ?_, h w hw⟩
  obtain ⟨h0, h1, h2, h3, h4⟩ := own_rd hw' (p := o)
  rw [← add0 (elA s i 1)]
  exact el_cell (vs := L.map c) (off := 0) h0 h3 (by simp [hx])
/-- An element is another one. -/
theorem s_stEl {α : Type} {f : α → List Value} {esz E : Nat} {s : Sl} {A C : List α} {x y : α} {k : K} (hf : ∀ x, (f x).length = esz) (hfl : (f y).all flatV = true) (h : HG B (SlC E esz s ((A ++ y :: C).flatMap f) :: Δ) k) [o : OwnS s Γ (SlC E esz s ((A ++ x :: C).flatMap f)) Δ] : HG B Γ (StN (elA s A.length esz) esz (f y).toArray k) := by
  rw [← add0 (elA s A.length esz)]
  refine s_stEN (s := s) (us := f y) ?_ (hf y) ?_ hfl
  · have e : layAt ((A ++ x :: C).flatMap f) (A.length * esz + 0) (f y) = (A ++ y :: C).flatMap f := by
      have e1 : (A ++ x :: C).flatMap f = A.flatMap f ++ (f x ++ C.flatMap f) := by simp
      have e2 : (A ++ y :: C).flatMap f = A.flatMap f ++ (f y ++ C.flatMap f) := by simp
      rw [e1, e2, layAt_mid (by simp [flatMap_len f esz hf]) (by rw [hf, hf])]
    rw [e]; exact h
  · have e1 : ((A ++ x :: C).flatMap f).length = (A.length + (C.length + 1)) * esz := by rw [flatMap_len f esz hf]; simp
    rw [e1, Nat.add_mul, Nat.add_mul]; omega
variable {G : BtT κ} {c : κ → κ → Int}
theorem wv_nil (its : List G.It) : wv its ([] : List (Kid G)) = its := by cases its <;> rfl
theorem wv_app {d : Nat} {i1 i2 : List G.It} {k1 k2 : List (Kid G)} {x : G.It} (h1 : Fit d i1 k1) (h2 : Fit d i2 k2) : wv (i1 ++ x :: i2) (k1 ++ k2) = wv i1 k1 ++ x :: wv i2 k2 := by
  cases d with
  | zero =>
    have e1 : k1 = [] := h1
    have e2 : k2 = [] := h2
    subst e1; subst e2
    simp only [List.append_nil, wv_nil]
  | succ d =>
    obtain ⟨q1, ps1, rfl, rfl⟩ := zip_ps h1
    obtain ⟨q2, ps2, rfl, rfl⟩ := zip_ps h2
    have e : wv (ps1.map Prod.fst ++ x :: ps2.map Prod.fst) (q1 :: ps1.map Prod.snd ++ q2 :: ps2.map Prod.snd) = psL q1 (ps1 ++ (x, q2) :: ps2) := by
      rw [← wv_ps]; simp
    rw [e, wv_ps, wv_ps]
    simp [psL]
theorem fit_app {d : Nat} {i1 i2 : List G.It} {k1 k2 : List (Kid G)} {x : G.It} (h1 : Fit d i1 k1) (h2 : Fit d i2 k2) : Fit d (i1 ++ x :: i2) (k1 ++ k2) := by
  cases d with
  | zero =>
    have e1 : k1 = [] := h1
    have e2 : k2 = [] := h2
    subst e1; subst e2; rfl
  | succ d =>
    simp only [Fit, List.length_append, List.length_cons] at h1 h2 ⊢
    omega
theorem fit_split {d : Nat} {i1 i2 : List G.It} {ks : List (Kid G)} {x : G.It} (h : Fit d (i1 ++ x :: i2) ks) : ∃ k1 k2, ks = k1 ++ k2 ∧ Fit d i1 k1 ∧ Fit d i2 k2 := by
  cases d with
  | zero => exact ⟨[], [], h, rfl, rfl⟩
  | succ d =>
    simp only [Fit, List.length_append, List.length_cons] at h
    exact ⟨ks.take (i1.length + 1), ks.drop (i1.length + 1), (List.take_append_drop _ _).symm, by simp [Fit]; omega, by simp [Fit]; omega⟩
theorem kids_join {d : Nat} {A C : List (Kid G)} : ∀ w, Holds B (kidsD G d A :: kidsD G d C :: Γ) w ↔ Holds B (kidsD G d (A ++ C) :: Γ) w := fun w => by
  cases d with
  | zero =>
    show Holds B (Sep.stars [] :: Sep.stars [] :: Γ) w ↔ Holds B (Sep.stars [] :: Γ) w
    exact Holds.flat (Δ := [])
  | succ d =>
    show Holds B (kidsR G d A :: kidsR G d C :: Γ) w ↔ Holds B (kidsR G d (A ++ C) :: Γ) w
    constructor
    · intro h
      have h1 := Holds.flat.1 h
      have h2 := Holds.flat.1 (h1.perm (List.perm_middle (a := kidsR G d C) (l₁ := A.map fun q => NodeR G d 2 q.1 q.2) (l₂ := Γ)))
      refine Holds.flat.2 (h2.perm ?_)
      rw [List.map_append, List.append_assoc]
      rw [← List.append_assoc, ← List.append_assoc]
      exact List.perm_append_comm.append_right Γ
    · intro h
      have := s_kids_split (k := fun w => Holds B (kidsR G d A :: kidsR G d C :: Γ) w) (fun w h => h) w h
      exact this
theorem s_join {d : Nat} {A C : List (Kid G)} {k : K} (h : HG B (kidsD G d (A ++ C) :: Γ) k) : HG B (kidsD G d A :: kidsD G d C :: Γ) k := fun w hw => h w ((kids_join w).1 hw)
theorem s_part {d : Nat} {A C : List (Kid G)} {k : K} (h : HG B (kidsD G d A :: kidsD G d C :: Γ) k) : HG B (kidsD G d (A ++ C) :: Γ) k := fun w hw => h w ((kids_join w).2 hw)
end
end Bt
end Go.Sep
/- A B-tree: a kid is filled up from its left, its right, or joined. Holds for every program. -/
namespace Go.Sep
open Go Go.RowKit
set_option linter.unusedSimpArgs false
set_option linter.unusedVariables false
namespace Bt
section
variable {κ : Type} {G : BtD κ} {c : κ → κ → Int} {B : World} {Γ Δ : List HProp}
theorem its_n {s : Sl} {its : List G.It} (h : (its.flatMap G.f).length = s.n * (G.nv + 1)) : s.n = its.length := by
  rw [flatMap_len G.f _ G.f_len] at h
  exact (Nat.eq_of_mul_eq_mul_right (by omega) h).symm
theorem kps_n {s : Sl} {kp : List (Option Addr)} (h : (kp.map Value.pointer).length = s.n * 1) : s.n = kp.length := by rw [kp_len] at h; omega
theorem flat_f (ok : BtOk G.toBtT c) (x : G.It) : (G.f x).all flatV = true := List.all_eq_true.2 (f_flat ok x)
theorem ins_first {its : List G.It} {x : G.It} : (its.flatMap G.f).take (0 * (G.nv + 1)) ++ G.f x ++ (its.flatMap G.f).drop (0 * (G.nv + 1)) = (x :: its).flatMap G.f := by simp
theorem ins_firstK {kp : List (Option Addr)} {x : Option Addr} : (kp.map Value.pointer).take (0 * 1) ++ [Value.pointer x] ++ (kp.map Value.pointer).drop (0 * 1) = (x :: kp).map Value.pointer := by simp
theorem s_shrinkI {s : Sl} {its : List G.It} {m : Nat} {k : K} (hm : m ≤ s.n) (hc : s.n ≤ s.c) (h : HG B (itsR G.toBtT ⟨s.a, m, s.c⟩ (its.take m) :: Δ) k) [p : OwnS s Γ (itsR G.toBtT s its) Δ] : HG B Γ k := by
  refine s_shrink (s := s) (m := m) (c' := s.c) hm (Nat.le_trans hm hc) (Nat.le_refl _) ?_
  rw [flatMap_take G.f_len]
  exact h
theorem s_shrinkK {s : Sl} {kp : List (Option Addr)} {m : Nat} {k : K} (hm : m ≤ s.n) (hc : s.n ≤ s.c) (h : HG B (kpsR G.toBtT ⟨s.a, m, s.c⟩ (kp.take m) :: Δ) k) [p : OwnS s Γ (kpsR G.toBtT s kp) Δ] : HG B Γ k := by
  refine s_shrink (s := s) (m := m) (c' := s.c) hm (Nat.le_trans hm hc) (Nat.le_refl _) ?_
  rw [show (kp.map Value.pointer).take (m * 1) = (kp.take m).map Value.pointer by simp]
  exact h
theorem s_turnL (ok : BtDOk G c) {d n : Nat} {s kd sp kp sq kq : Sl} {A C : List (Kid G.toBtT)} {p q : Kid G.toBtT} {IA IC ip iq : List G.It} {x y : G.It} {cp cq : List (Kid G.toBtT)} {i : Int} {Q : K}
    (hi : i = ((A.length + 1 : Nat) : Int)) (hA : IA.length = A.length) (hl : IA.length + IC.length ≤ 5) (hC : C.length = IC.length) (hp : 2 ≤ ip.length ∧ ip.length ≤ 5) (hq : iq.length ≤ 1) (hfp : Fit d (ip ++ [y]) cp) (hfq : Fit d iq cq)
    (h : ∀ P' Q', P' ++ y :: Q' = wv (ip ++ [y]) cp ++ x :: wv iq cq → ∀ s' kd', HG B (nodeB G.toBtT n s' kd' :: itsR G.toBtT s' (IA ++ y :: IC) :: kpsR G.toBtT kd' ((A ++ p :: q :: C).map ptr) :: NodeR G.toBtT d 2 p.1 P' :: NodeR G.toBtT d 2 q.1 Q' :: Γ) Q) :
    HG B (nodeB G.toBtT n s kd :: itsR G.toBtT s (IA ++ x :: IC) :: kpsR G.toBtT kd ((A ++ p :: q :: C).map ptr) :: rawL G.toBtT d p.1 sp kp (ip ++ [y]) cp (rawL G.toBtT d q.1 sq kq iq cq Γ)) (nmend_s1 G Q ⟨n, 0, none⟩ i ⟨q.1, 0, none⟩ true) := by
  subst hi
  have okT := ok.toBtOk
  obtain ⟨cp', kz, rfl, hf1, hfz⟩ := fit_split (i1 := ip) (i2 := []) hfp
  refine s_cap s fun a1 a2 a3 a4 => ?_
  refine s_cap kd fun b1 b2 b3 b4 => ?_
  refine s_cap sp fun c1 c2 c3 c4 => ?_
  refine s_cap kp fun d1 d2 d3 d4 => ?_
  refine s_cap sq fun e1 e2 e3 e4 => ?_
  refine s_cap kq fun f1 f2 f3 f4 => ?_
  have hsn := its_n a1
  have hkn := kps_n b1
  have hspn := its_n c1
  have hkpn := kps_n d1
  have hsqn := its_n e1
  have hkqn := kps_n f1
  simp only [List.length_append, List.length_cons, List.length_nil, List.length_map] at hsn hkn hspn hkpn hsqn hkqn
  unfold nmend_s1
  refine s_t ?_
  refine s_ld (b := n) (x := kd) ?_
  refine s_ai ?_
  refine s_idx (s := kd) (i := A.length) ?_
  refine s_ldE0 (s := kd) (x := ptr p) (by simp) ?_
  refine s_nn ?_
  refine s_ld (b := p.1) (x := sp) ?_
  refine s_ai ?_
  refine s_dr ?_
  refine s_ws ?_
  refine s_ai ?_
  refine s_ldS (b := q.1) (x := sq) ?_
  refine s_ldS (b := n) (x := s) ?_
  refine s_idx (s := s) (i := A.length) ?_
  refine s_ldElS (s := s) (x := x) G.f_len (by rw [← hA]; simp) ?_
  refine s_bld1 ?_ (by simp [okT.vz.1]) (G.f_len _)
  refine s_new fun t => ?_
  refine s_sv ?_
  obtain ⟨R, rot, hins⟩ := okT.insI
  refine fun w hw => hins _ _ _ _ _ ?_
  refine hg hw ?_
  clear hw w
  refine s_ins (s := sq) (i := 0) (t := t) (by omega) (by omega) (G.f_len _) (by omega) (fl_flat okT _) (f_flat okT _) (fun sq' hsq' => ?_) okT.TI okT.ZI
  rw [ins_first]
  refine s_st (b := q.1) ?_
  refine s_dr ?_
  refine s_ai ?_
  refine s_ld (b := n) (x := s) ?_
  refine s_ld (b := p.1) (x := sp) ?_
  refine s_idx (s := sp) (i := ip.length) ?_
  refine s_ldEl (s := sp) (x := y) G.f_len (by simp) ?_
  refine s_idx (s := s) (i := IA.length) ?_
  refine s_stEl (s := s) (A := IA) (x := x) (y := y) G.f_len (flat_f okT y) ?_
  refine s_ld (b := p.1) (x := sp) ?_
  refine s_slc (lo := 0) (hi := ip.length) (mx := sp.c) ?_
  rw [cut0 c3]
  refine s_st (b := p.1) ?_
  refine s_shrinkI (s := sp) (m := ip.length) (by omega) c2 ?_
  rw [List.take_left]
  refine s_ld (b := p.1) (x := kp) ?_
  have fin : ∀ sp2 kp2 sq2 kq2, HG B (rawL G.toBtT d p.1 sp2 kp2 ip cp' (rawL G.toBtT d q.1 sq2 kq2 (x :: iq) (kz ++ cq) (nodeB G.toBtT n s kd :: itsR G.toBtT s (IA ++ y :: IC) :: kpsR G.toBtT kd ((A ++ p :: q :: C).map ptr) :: Γ))) Q := fun sp2 kp2 sq2 kq2 => by
    refine s_unraw (m := 2) hf1 hp.2 (fun _ => .inr fun h => by rw [h] at hp; simp at hp) ?_
    refine s_end (Δ := rawL G.toBtT d q.1 sq2 kq2 (x :: iq) (kz ++ cq) (NodeR G.toBtT d 2 p.1 (wv ip cp') :: nodeB G.toBtT n s kd :: itsR G.toBtT s (IA ++ y :: IC) :: kpsR G.toBtT kd ((A ++ p :: q :: C).map ptr) :: Γ)) ?_
    refine s_unraw (m := 2) (fit_app (i1 := []) hfz hfq) (by simp; omega) (fun _ => .inr (by simp)) ?_
    refine s_end (h (wv ip cp') (wv (x :: iq) (kz ++ cq)) ?_ s kd)
    rw [wv_app hf1 hfz, show x :: iq = [] ++ x :: iq from rfl, wv_app hfz hfq]
    simp
  cases d with
  | zero =>
    have e1 : cp' = [] := hf1
    have e2 : kz = [] := hfz
    have e3 : cq = [] := hfq
    subst e1; subst e2; subst e3
    refine s_f ?_ (by simp at hkpn; simp [hkpn])
    simp only [List.append_nil] at fin ⊢
    exact s_end (fin ⟨sp.a, ip.length, sp.c⟩ kp sq' kq)
  | succ d =>
    obtain ⟨z, rfl⟩ : ∃ z, kz = [z] := List.length_eq_one_iff.1 hfz
    have hcl : cp'.length = ip.length + 1 := hf1
    have hcql : cq.length = iq.length + 1 := hfq
    simp only [List.length_cons, List.length_nil] at hkpn
    refine s_t ?_ (by simp; omega)
    refine s_dr ?_
    refine s_ws ?_
    refine s_ai ?_
    refine s_ldS (b := q.1) (x := kq) ?_
    refine s_ldS (b := p.1) (x := kp) ?_
    refine s_idx (s := kp) (i := ip.length + 1) ?_
    refine s_ldES1 (s := kp) (c := Value.pointer) (L := (cp' ++ [z]).map ptr) (x := ptr z) (by rw [← hcl]; simp) ?_
    refine s_new fun t2 => ?_
    refine s_sv ?_
    obtain ⟨R2, rot2, hins2⟩ := okT.insK
    refine fun w hw => hins2 _ _ _ _ _ ?_
    refine hg hw ?_
    clear hw w
    refine s_ins (s := kq) (i := 0) (t := t2) (us := [Value.pointer (ptr z)]) (by omega) (by omega) rfl (by omega) (kp_flat _) (by simp [flatV]) (fun kq' hkq' => ?_) okT.TK okT.ZK
    rw [ins_firstK, show ptr z :: cq.map ptr = ([z] ++ cq).map ptr from rfl]
    refine s_st (b := q.1) ?_
    refine s_ld (b := p.1) (x := kp) ?_
    refine s_ai ?_
    refine s_slc (lo := 0) (hi := ip.length + 1) (mx := kp.c) ?_
    rw [cut0 d3]
    refine s_st (b := p.1) ?_
    refine s_shrinkK (s := kp) (m := ip.length + 1) (by omega) d2 ?_
    rw [show ((cp' ++ [z]).map ptr).take (ip.length + 1) = cp'.map ptr by rw [List.map_append]; exact List.take_left' (by simp [hcl])]
    refine s_pick (kidsD G.toBtT (d + 1) (cp' ++ [z])) ?_
    refine s_part ?_
    refine s_end (Δ := kidsD G.toBtT (d + 1) [z] :: kidsD G.toBtT (d + 1) cq :: kidsD G.toBtT (d + 1) cp' :: nodeB G.toBtT p.1 ⟨sp.a, ip.length, sp.c⟩ ⟨kp.a, ip.length + 1, kp.c⟩ :: itsR G.toBtT ⟨sp.a, ip.length, sp.c⟩ ip :: kpsR G.toBtT ⟨kp.a, ip.length + 1, kp.c⟩ (cp'.map ptr) :: nodeB G.toBtT q.1 sq' kq' :: itsR G.toBtT sq' (x :: iq) :: kpsR G.toBtT kq' (([z] ++ cq).map ptr) :: nodeB G.toBtT n s kd :: itsR G.toBtT s (IA ++ y :: IC) :: kpsR G.toBtT kd ((A ++ p :: q :: C).map ptr) :: Γ) ?_
    refine s_join ?_
    exact s_end (fin ⟨sp.a, ip.length, sp.c⟩ ⟨kp.a, ip.length + 1, kp.c⟩ sq' kq')
end
end Bt
end Go.Sep
/- A B-tree: a kid is filled up from its right, or joined. Holds for every program. -/
namespace Go.Sep
open Go Go.RowKit
set_option linter.unusedSimpArgs false
set_option linter.unusedVariables false
namespace Bt
section
variable {κ : Type} {G : BtD κ} {c : κ → κ → Int} {B : World} {Γ Δ : List HProp}
theorem kp_at {L : List (Kid G.toBtT)} {i : Nat} {q : Kid G.toBtT} (h : L[i]? = some q) : ((L.map ptr).map Value.pointer)[i * 1]? = some (Value.pointer (ptr q)) := by simp [h]
theorem at_mid2 {α : Type} {A C : List α} {x y : α} : (A ++ x :: y :: C)[A.length + 1]? = some y := by
  rw [List.getElem?_append_right (by omega), show A.length + 1 - A.length = 1 by omega]; rfl
theorem del_first {x : G.It} {its : List G.It} : ((x :: its).flatMap G.f).take (0 * (G.nv + 1)) ++ ((x :: its).flatMap G.f).drop (1 * (G.nv + 1)) = its.flatMap G.f := by
  rw [flatMap_drop G.f_len]; simp
theorem del_firstK {p : Kid G.toBtT} {kp : List (Kid G.toBtT)} : (((p :: kp).map ptr).map Value.pointer).take (0 * 1) ++ (((p :: kp).map ptr).map Value.pointer).drop (1 * 1) = (kp.map ptr).map Value.pointer := by simp
theorem del_mid {A C : List G.It} {x : G.It} : ((A ++ x :: C).flatMap G.f).take (A.length * (G.nv + 1)) ++ ((A ++ x :: C).flatMap G.f).drop ((A.length + 1) * (G.nv + 1)) = (A ++ C).flatMap G.f := by
  rw [flatMap_take G.f_len, flatMap_drop G.f_len, List.take_left, show A ++ x :: C = (A ++ [x]) ++ C by simp, List.drop_left' (by simp)]; simp
theorem del_midK {A C : List (Kid G.toBtT)} {p q : Kid G.toBtT} : (((A ++ p :: q :: C).map ptr).map Value.pointer).take ((A.length + 1) * 1) ++ (((A ++ p :: q :: C).map ptr).map Value.pointer).drop ((A.length + 2) * 1) = ((A ++ p :: C).map ptr).map Value.pointer := by
  rw [Nat.mul_one, Nat.mul_one, ← List.map_take, ← List.map_take, ← List.map_drop, ← List.map_drop]
  rw [show A ++ p :: q :: C = (A ++ [p]) ++ q :: C by simp, List.take_left' (by simp), show (A ++ [p]) ++ q :: C = (A ++ [p, q]) ++ C by simp, List.drop_left' (by simp)]
  simp

theorem s_turnR (ok : BtDOk G c) {d n : Nat} {s kd sr kr sq kq : Sl} {A C : List (Kid G.toBtT)} {q r : Kid G.toBtT} {IA IC ir iq : List G.It} {x y : G.It} {cr cq : List (Kid G.toBtT)} {i : Int} {Q : K}
    (hi : i = (A.length : Int)) (hA : IA.length = A.length) (hl : IA.length + IC.length ≤ 5) (hC : C.length = IC.length) (hr : 1 ≤ ir.length ∧ ir.length ≤ 5) (hq : iq.length ≤ 1) (hfr : Fit d (y :: ir) cr) (hfq : Fit d iq cq)
    (h : ∀ Q' R', Q' ++ y :: R' = wv iq cq ++ x :: wv (y :: ir) cr → ∀ s' kd', HG B (nodeB G.toBtT n s' kd' :: itsR G.toBtT s' (IA ++ y :: IC) :: kpsR G.toBtT kd' ((A ++ q :: r :: C).map ptr) :: NodeR G.toBtT d 2 q.1 Q' :: NodeR G.toBtT d 2 r.1 R' :: Γ) Q) :
    HG B (nodeB G.toBtT n s kd :: itsR G.toBtT s (IA ++ x :: IC) :: kpsR G.toBtT kd ((A ++ q :: r :: C).map ptr) :: rawL G.toBtT d q.1 sq kq iq cq (rawL G.toBtT d r.1 sr kr (y :: ir) cr Γ)) (nmend_s2 G Q ⟨n, 0, none⟩ i ⟨q.1, 0, none⟩ true) := by
  subst hi
  have okT := ok.toBtOk
  obtain ⟨cz, cr', rfl, hfz, hf2⟩ := fit_split (i1 := []) (x := y) (i2 := ir) hfr
  refine s_cap s fun a1 a2 a3 a4 => ?_
  refine s_cap kd fun b1 b2 b3 b4 => ?_
  refine s_cap sr fun c1 c2 c3 c4 => ?_
  refine s_cap kr fun d1 d2 d3 d4 => ?_
  refine s_cap sq fun e1 e2 e3 e4 => ?_
  refine s_cap kq fun f1 f2 f3 f4 => ?_
  have hsn := its_n a1
  have hkn := kps_n b1
  have hsrn := its_n c1
  have hkrn := kps_n d1
  have hsqn := its_n e1
  have hkqn := kps_n f1
  simp only [List.length_append, List.length_cons, List.length_nil, List.length_map] at hsn hkn hsrn hkrn hsqn hkqn
  unfold nmend_s2
  repeat first | refine s_nx ?_ | refine s_ai ?_
  refine s_idx (s := kd) (i := A.length + 1) ?_
  refine s_ldE0 (s := kd) (x := ptr r) (kp_at at_mid2) ?_
  repeat first | refine s_nx ?_ | refine s_ai ?_
  refine s_idx (s := s) (i := A.length) ?_
  refine s_ldElS (s := s) (x := x) G.f_len (by rw [← hA]; simp) ?_
  refine s_bld1 ?_ (by simp [okT.vz.1]) (G.f_len _)
  refine s_new fun t => ?_
  repeat refine s_nx ?_
  refine s_append (s := sq) (us := G.f x) (blk_rd (G.f_len x)) (f_flat okT x) (by simp only; omega) (hT := okT.TI) fun sq' hsq' => ?_
  rw [show iq.flatMap G.f ++ G.f x = (iq ++ [x]).flatMap G.f by simp]
  repeat refine s_nx ?_
  refine s_nn ?_
  repeat refine s_nx ?_
  refine s_idx (s := sr) (i := 0) ?_
  refine s_ldEl (s := sr) (x := y) G.f_len rfl ?_
  refine s_idx (s := s) (i := IA.length) ?_
  refine s_stEl (s := s) (A := IA) (x := x) (y := y) G.f_len (flat_f okT y) ?_
  repeat refine s_nx ?_
  obtain ⟨Z, hdel⟩ := ok.delI
  refine fun w hw => hdel _ _ _ _ _ ?_
  refine hg hw ?_
  clear hw w
  refine s_del (s := sr) (i := 0) (j := 1) (by omega) (by omega) (by omega) (fl_flat okT _) (fun sr' hsr' => ?_) okT.TI
  rw [del_first]
  repeat refine s_nx ?_
  have fin : ∀ sr2 kr2 sq2 kq2, HG B (rawL G.toBtT d q.1 sq2 kq2 (iq ++ [x]) (cq ++ cz) (rawL G.toBtT d r.1 sr2 kr2 ir cr' (nodeB G.toBtT n s kd :: itsR G.toBtT s (IA ++ y :: IC) :: kpsR G.toBtT kd ((A ++ q :: r :: C).map ptr) :: Γ))) Q := fun sr2 kr2 sq2 kq2 => by
    refine s_unraw (m := 2) (fit_app (i2 := []) hfq hfz) (by simp; omega) (fun _ => .inr (by simp)) ?_
    refine s_pick (kidsD G.toBtT d cr') ?_
    refine s_ownS kr2 ?_
    refine s_ownS sr2 ?_
    refine s_own r.1 ?_
    refine s_unraw (m := 2) hf2 hr.2 (fun _ => .inr fun h => by rw [h] at hr; simp at hr) ?_
    refine s_end (h (wv (iq ++ [x]) (cq ++ cz)) (wv ir cr') ?_ s kd)
    rw [wv_app (i2 := []) hfq hfz, show y :: ir = [] ++ y :: ir from rfl, wv_app hfz hf2]
    simp
  cases d with
  | zero =>
    have e1 : cr' = [] := hf2
    have e2 : cz = [] := hfz
    have e3 : cq = [] := hfq
    subst e1; subst e2; subst e3
    refine s_f ?_ (by simp at hkrn; simp [hkrn])
    simp only [List.append_nil] at fin ⊢
    exact s_end (fin sr' kr sq' kq)
  | succ d =>
    obtain ⟨z, rfl⟩ : ∃ z, cz = [z] := List.length_eq_one_iff.1 hfz
    have hcl : cr'.length = ir.length + 1 := hf2
    have hcql : cq.length = iq.length + 1 := hfq
    simp only [List.length_cons, List.length_nil] at hkrn
    refine s_t ?_ (by simp; omega)
    repeat refine s_nx ?_
    refine s_idx (s := kr) (i := 0) ?_
    refine s_ldES1 (s := kr) (c := Value.pointer) (L := ([z] ++ cr').map ptr) (x := ptr z) (by simp) ?_
    refine s_new fun t2 => ?_
    repeat refine s_nx ?_
    refine s_append (s := kq) (us := [Value.pointer (ptr z)]) (blk_rd rfl) (by simp [flatV]) (by simp only; omega) (hT := okT.TK) fun kq' hkq' => ?_
    rw [show (cq.map ptr).map Value.pointer ++ [Value.pointer (ptr z)] = ((cq ++ [z]).map ptr).map Value.pointer by simp]
    repeat refine s_nx ?_
    obtain ⟨Z2, hdel2⟩ := ok.delK
    refine fun w hw => hdel2 _ _ _ _ _ ?_
    refine hg hw ?_
    clear hw w
    refine s_del (s := kr) (i := 0) (j := 1) (by omega) (by omega) (by omega) (kp_flat _) (fun kr' hkr' => ?_) okT.TK
    rw [show (([z] ++ cr').map ptr) = ((z :: cr').map ptr) from rfl, del_firstK]
    repeat refine s_nx ?_
    refine s_pick (kidsD G.toBtT (d + 1) ([z] ++ cr')) ?_
    refine s_part ?_
    refine s_pick (kidsD G.toBtT (d + 1) [z]) ?_
    refine s_pick (kidsD G.toBtT (d + 1) cq) ?_
    refine s_join ?_
    exact s_end (fin sr' kr' sq' kq')

theorem s_merge (ok : BtDOk G c) {d n : Nat} {s kd sp kp sq kq : Sl} {A C : List (Kid G.toBtT)} {p q : Kid G.toBtT} {IA IC ip iq : List G.It} {x : G.It} {cp cq : List (Kid G.toBtT)} {i : Int} {k4 : Addr} {Q : K}
    (hi : (if (1 : Int) > i then 1 else i) = ((A.length + 1 : Nat) : Int)) (hA : IA.length = A.length) (hl : IA.length + IC.length ≤ 5) (hC : C.length = IC.length) (hp : ip.length + iq.length ≤ 4) (hfp : Fit d ip cp) (hfq : Fit d iq cq)
    (h : ∀ s' kd', HG B (nodeB G.toBtT n s' kd' :: itsR G.toBtT s' (IA ++ IC) :: kpsR G.toBtT kd' ((A ++ p :: C).map ptr) :: NodeR G.toBtT d 2 p.1 (wv ip cp ++ x :: wv iq cq) :: Γ) Q) :
    HG B (nodeB G.toBtT n s kd :: itsR G.toBtT s (IA ++ x :: IC) :: kpsR G.toBtT kd ((A ++ p :: q :: C).map ptr) :: rawL G.toBtT d p.1 sp kp ip cp (rawL G.toBtT d q.1 sq kq iq cq Γ)) (nmend_s2 G Q ⟨n, 0, none⟩ i k4 false) := by
  have okT := ok.toBtOk
  refine s_cap s fun a1 a2 a3 a4 => ?_
  refine s_cap kd fun b1 b2 b3 b4 => ?_
  refine s_cap sp fun c1 c2 c3 c4 => ?_
  refine s_cap kp fun d1 d2 d3 d4 => ?_
  refine s_cap sq fun e1 e2 e3 e4 => ?_
  refine s_cap kq fun f1 f2 f3 f4 => ?_
  have hsn := its_n a1
  have hkn := kps_n b1
  have hspn := its_n c1
  have hkpn := kps_n d1
  have hsqn := its_n e1
  have hkqn := kps_n f1
  simp only [List.length_append, List.length_cons, List.length_nil, List.length_map] at hsn hkn hspn hkpn hsqn hkqn
  have hks : cp.length ≤ 6 ∧ cq.length ≤ 6 := by
    cases d with
    | zero =>
      have e1 : cp = [] := hfp
      have e2 : cq = [] := hfq
      subst e1; subst e2; exact ⟨by simp, by simp⟩
    | succ d =>
      have e1 : cp.length = ip.length + 1 := hfp
      have e2 : cq.length = iq.length + 1 := hfq
      omega
  unfold nmend_s2
  repeat refine s_nx ?_
  refine s_ar hi ?_
  repeat first | refine s_nx ?_ | refine s_ai ?_
  refine s_idx (s := kd) (i := A.length) ?_
  refine s_ldE0 (s := kd) (x := ptr p) (kp_at at_mid) ?_
  repeat refine s_nx ?_
  refine s_idx (s := kd) (i := A.length + 1) ?_
  refine s_ldE0 (s := kd) (x := ptr q) (kp_at at_mid2) ?_
  refine s_dr ?_
  refine s_wsD [nodeB G.toBtT n s kd, itsR G.toBtT s (IA ++ x :: IC), nodeB G.toBtT p.1 sp kp, nodeB G.toBtT q.1 sq kq] ?_
  refine s_nn ?_
  refine s_ai ?_
  refine s_nn ?_
  repeat refine s_nx ?_
  refine s_idx (s := s) (i := A.length) ?_
  refine s_ldElS (s := s) (x := x) G.f_len (by rw [← hA]; simp) ?_
  repeat refine s_nx ?_
  refine s_bld1 ?_ (by simp [okT.vz.1]) (G.f_len _)
  refine s_new fun t => ?_
  repeat refine s_nx ?_
  refine s_append (s := sp) (us := G.f x) (blk_rd (G.f_len x)) (f_flat okT x) (by simp only; omega) (hT := okT.TI) fun sp1 hsp1 => ?_
  rw [show ip.flatMap G.f ++ G.f x = (ip ++ [x]).flatMap G.f by simp]
  repeat refine s_nx ?_
  refine s_append (s := sp1) (us := iq.flatMap G.f) (fun w hw => (own_rd (s := sq) hw).1) (fl_flat okT _) (by simp only at hsp1 ⊢; omega) (hT := okT.TI) fun sp2 hsp2 => ?_
  rw [show (ip ++ [x]).flatMap G.f ++ iq.flatMap G.f = (ip ++ x :: iq).flatMap G.f by simp]
  repeat refine s_nx ?_
  refine s_append (s := kp) (us := (cq.map ptr).map Value.pointer) (fun w hw => (own_rd (s := kq) hw).1) (kp_flat _) (by omega) (hT := okT.TK) fun kp' hkp' => ?_
  rw [← List.map_append, ← List.map_append]
  repeat first | refine s_nx ?_ | refine s_ai ?_
  obtain ⟨Z, hdel⟩ := ok.delI
  refine fun w hw => hdel _ _ _ _ _ ?_
  refine hg hw ?_
  clear hw w
  rw [show ((A.length + 1 : Nat) : Int) - 1 = ((A.length : Nat) : Int) by omega]
  refine s_del (s := s) (i := A.length) (j := A.length + 1) (by omega) (by omega) (by omega) (fl_flat okT _) (fun s' hs' => ?_) okT.TI
  rw [← hA, del_mid, hA]
  repeat first | refine s_nx ?_ | refine s_ai ?_
  obtain ⟨Z2, hdel2⟩ := ok.delK
  refine fun w hw => hdel2 _ _ _ _ _ ?_
  refine hg hw ?_
  clear hw w
  rw [show ((A.length + 1 : Nat) : Int) + 1 = ((A.length + 2 : Nat) : Int) by omega]
  refine s_del (s := kd) (i := A.length + 1) (j := A.length + 2) (by omega) (by omega) (by omega) (kp_flat _) (fun kd' hkd' => ?_) okT.TK
  rw [del_midK]
  repeat refine s_nx ?_
  refine s_pick (kidsD G.toBtT d cq) ?_
  refine s_pick (kidsD G.toBtT d cp) ?_
  refine s_join ?_
  refine s_pick (kidsD G.toBtT d (cp ++ cq)) ?_
  refine s_ownS kp' ?_
  refine s_ownS sp2 ?_
  refine s_own p.1 ?_
  refine s_unraw (m := 2) (fit_app hfp hfq) (by simp; omega) (fun _ => .inr (by simp)) ?_
  rw [wv_app hfp hfq]
  exact s_end (h s' kd')
end
end Bt
end Go.Sep
/- A B-tree: mend. Holds for every program. -/
namespace Go.Sep
open Go Go.RowKit
set_option linter.unusedSimpArgs false
set_option linter.unusedVariables false
namespace Bt
section
variable {κ : Type} {G : BtD κ} {c : κ → κ → Int} {B : World} {Γ Δ : List HProp}
theorem wv_two : ∀ {IA IC : List G.It} {A C : List (Kid G.toBtT)}, IA.length = A.length → C.length = IC.length → ∃ U V : List G.It, (∀ p : Kid G.toBtT, wv (IA ++ IC) (A ++ p :: C) = U ++ p.2 ++ V) ∧ ∀ (p : Kid G.toBtT) (x : G.It) (q : Kid G.toBtT), wv (IA ++ x :: IC) (A ++ p :: q :: C) = U ++ p.2 ++ x :: (q.2 ++ V)
  | [], [], [], C, _, hC => ⟨[], [], fun p => by simp [wv], fun p x q => by simp [wv]⟩
  | [], z :: IC, [], C, _, hC => ⟨[], z :: wv IC C, fun p => by simp [wv], fun p x q => by simp [wv]⟩
  | a :: IA, IC, r :: A, C, hA, hC => by
    obtain ⟨U, V, h1, h2⟩ := wv_two (IA := IA) (IC := IC) (A := A) (C := C) (by simpa using hA) hC
    exact ⟨r.2 ++ a :: U, V, fun p => by simp [wv, h1], fun p x q => by simp [wv, h2]⟩
  | [], _, _ :: _, _, hA, _ => by simp at hA
  | _ :: _, _, [], _, hA, _ => by simp at hA
theorem split_at {α : Type} {L : List α} {a c : Nat} (h : L.length = a + 1 + c) : ∃ A x C, L = A ++ x :: C ∧ A.length = a ∧ C.length = c :=
  ⟨L.take a, L[a], L.drop (a + 1), by rw [← List.drop_eq_getElem_cons, List.take_append_drop], by simp; omega, by simp; omega⟩
theorem s_asm1 {d n : Nat} {s kd : Sl} {its : List G.It} {ks : List (Kid G.toBtT)} {k : K} (hf : ks.length = its.length + 1) (hl : its.length ≤ 5) (h : HG B (NodeR G.toBtT (d + 1) 0 n (wv its ks) :: Γ) k) :
    HG B (nodeB G.toBtT n s kd :: itsR G.toBtT s its :: kpsR G.toBtT kd (ks.map ptr) :: kidsR G.toBtT d ks :: Γ) k := s_unraw (d := d + 1) (m := 0) hf hl (fun h => by omega) h
theorem s_asmK {d n : Nat} {s kd : Sl} {its : List G.It} {A C : List (Kid G.toBtT)} {p : Kid G.toBtT} {P' : List G.It} {k : K} (hf : (A ++ p :: C).length = its.length + 1) (hl : its.length ≤ 5) (h : HG B (NodeR G.toBtT (d + 1) 0 n (wv its (A ++ (p.1, P') :: C)) :: Γ) k) :
    HG B (nodeB G.toBtT n s kd :: itsR G.toBtT s its :: kpsR G.toBtT kd ((A ++ p :: C).map ptr) :: NodeR G.toBtT d 2 p.1 P' :: kidsR G.toBtT d (A ++ C) :: Γ) k := by
  rw [show (A ++ p :: C).map ptr = (A ++ (p.1, P') :: C).map ptr by simp [ptr]]
  refine s_pick (kidsR G.toBtT d (A ++ C)) ?_
  refine s_pick (NodeR G.toBtT d 2 p.1 P') ?_
  refine s_unkid (q := (p.1, P')) ?_
  refine s_pick (kidsR G.toBtT d (A ++ (p.1, P') :: C)) ?_
  refine s_ownS kd ?_
  refine s_ownS s ?_
  refine s_own n ?_
  exact s_asm1 (by simpa using hf) hl h
theorem s_asm2 {d n : Nat} {s kd : Sl} {its : List G.It} {A C : List (Kid G.toBtT)} {p q : Kid G.toBtT} {P' Q' : List G.It} {k : K} (hf : (A ++ p :: q :: C).length = its.length + 1) (hl : its.length ≤ 5) (h : HG B (NodeR G.toBtT (d + 1) 0 n (wv its (A ++ (p.1, P') :: (q.1, Q') :: C)) :: Γ) k) :
    HG B (nodeB G.toBtT n s kd :: itsR G.toBtT s its :: kpsR G.toBtT kd ((A ++ p :: q :: C).map ptr) :: NodeR G.toBtT d 2 p.1 P' :: NodeR G.toBtT d 2 q.1 Q' :: kidsR G.toBtT d (A ++ C) :: Γ) k := by
  rw [show (A ++ p :: q :: C).map ptr = (A ++ p :: (q.1, Q') :: C).map ptr by simp [ptr]]
  refine s_pick (kidsR G.toBtT d (A ++ C)) ?_
  refine s_pick (NodeR G.toBtT d 2 q.1 Q') ?_
  refine s_unkid (q := (q.1, Q')) ?_
  refine s_pick (kidsR G.toBtT d (A ++ (q.1, Q') :: C)) ?_
  refine s_pick (NodeR G.toBtT d 2 p.1 P') ?_
  refine s_ownS kd ?_
  refine s_ownS s ?_
  refine s_own n ?_
  exact s_asmK (by simpa using hf) hl h

theorem mend_spec (ok : BtDOk G c) {d n : Nat} {s kd : Sl} {its : List G.It} {A C : List (Kid G.toBtT)} {q : Kid G.toBtT} {Q : K} (hl : its.length ≤ 5) (hne : its ≠ []) (hf : (A ++ q :: C).length = its.length + 1)
    (h : HG B (NodeR G.toBtT (d + 1) 0 n (wv its (A ++ q :: C)) :: Γ) Q) :
    HG B (nodeB G.toBtT n s kd :: itsR G.toBtT s its :: kpsR G.toBtT kd ((A ++ q :: C).map ptr) :: NodeR G.toBtT d 0 q.1 q.2 :: kidsR G.toBtT d (A ++ C) :: Γ) (G.nmendC (some ⟨n, 0, none⟩) (A.length : Int) Q) := by
  refine fun w hw => ok.mend _ _ _ _ ?_
  refine hg hw ?_
  clear hw w
  have okT := ok.toBtOk
  have hnl : 1 ≤ its.length := List.length_pos_iff.2 hne
  refine s_cap s fun a1 a2 a3 a4 => ?_
  refine s_cap kd fun b1 b2 b3 b4 => ?_
  have hsn := its_n a1
  have hkn := kps_n b1
  have hf' : A.length + (C.length + 1) = its.length + 1 := by simpa using hf
  simp only [List.length_append, List.length_cons, List.length_map] at hkn
  unfold nmend
  repeat refine s_nx ?_
  refine s_idx (s := kd) (i := A.length) ?_
  refine s_ldE0 (s := kd) (x := ptr q) (kp_at at_mid) ?_
  refine s_nn ?_
  refine s_own q.1 ?_
  refine s_raw fun sq kq iq cq hfq hlq _ hqL => ?_
  refine s_cap sq fun e1 e2 e3 e4 => ?_
  have hsqn := its_n e1
  repeat refine s_nx ?_
  refine s_ite (fun hb => ?_) fun hb => ?_
  · have hb' : 2 ≤ iq.length := by simp only [decide_eq_true_eq] at hb; omega
    refine s_unraw (m := 2) hfq hlq (fun _ => .inr fun h => by rw [h] at hb'; simp at hb') ?_
    rw [← hqL]
    refine s_pick (kidsR G.toBtT d (A ++ C)) ?_
    refine s_pick (NodeR G.toBtT d 2 q.1 q.2) ?_
    refine s_ownS kd ?_
    refine s_ownS s ?_
    refine s_own n ?_
    exact s_asmK hf hl h
  have hq1 : iq.length ≤ 1 := by simp only [decide_eq_false_iff_not] at hb; omega
  rcases List.eq_nil_or_concat A with rfl | ⟨A, p, rfl⟩
  · -- no kid on the left
    obtain ⟨r, C, rfl⟩ : ∃ r C', C = r :: C' := by
      cases C with
      | nil => simp only [List.length_nil] at hf'; omega
      | cons r C => exact ⟨r, C, rfl⟩
    simp only [List.length_cons, List.length_nil, List.nil_append] at hf' hkn hf h ⊢
    obtain ⟨IA, x, IC, rfl, hIA, hIC⟩ := split_at (L := its) (a := 0) (c := C.length) (by omega)
    obtain rfl : IA = [] := List.length_eq_zero_iff.1 hIA
    obtain ⟨U, V, hU1, hU2⟩ := wv_two (IA := []) (IC := IC) (A := []) (C := C) rfl hIC.symm
    simp only [List.nil_append] at hU1 hU2 hl hf' h ⊢
    rw [hU2] at h
    simp only [List.length_cons] at hl hf'
    refine s_f ?_
    unfold nmend_s1
    repeat first | refine s_nx ?_ | refine s_ai ?_
    refine s_t ?_ (by simp; omega)
    repeat first | refine s_nx ?_ | refine s_ai ?_
    refine s_idx (s := kd) (i := 1) ?_
    refine s_ldE0 (s := kd) (x := ptr r) (kp_at (at_mid2 (A := []))) ?_
    refine s_nn ?_
    refine s_pick (kidsR G.toBtT d (r :: C)) ?_
    refine s_kid (A := []) ?_
    refine s_raw fun sr kr ir cr hfr hlr hrne hrL => ?_
    refine s_cap sr fun c1 c2 c3 c4 => ?_
    have hsrn := its_n c1
    repeat refine s_nx ?_
    by_cases hb3 : 2 < ir.length
    · rw [show decide ((2 : Int) < (sr.n : Int)) = true by simp; omega]
      obtain ⟨y, ir, rfl⟩ : ∃ y ir', ir = y :: ir' := by
        cases ir with
        | nil => simp at hb3
        | cons y ir => exact ⟨y, ir, rfl⟩
      simp only [List.length_cons] at hb3 hlr
      refine s_pick (kidsD G.toBtT d cr) ?_
      refine s_ownS kr ?_
      refine s_ownS sr ?_
      refine s_own r.1 ?_
      refine s_pick (kidsD G.toBtT d cq) ?_
      refine s_ownS kq ?_
      refine s_ownS sq ?_
      refine s_own q.1 ?_
      refine s_ownS kd ?_
      refine s_ownS s ?_
      refine s_own n ?_
      refine s_turnR ok (A := []) (IA := []) rfl rfl (by simp only [List.length_nil]; omega) hIC.symm (by omega) hq1 hfr hfq fun Q' R' e s' kd' => ?_
      refine s_pick (kidsR G.toBtT d ([] ++ C)) ?_
      refine s_pick (NodeR G.toBtT d 2 r.1 R') ?_
      refine s_pick (NodeR G.toBtT d 2 q.1 Q') ?_
      refine s_ownS kd' ?_
      refine s_ownS s' ?_
      refine s_own n ?_
      refine s_asm2 (A := []) (by simp; omega) (by simp; omega) ?_
      simp only [List.nil_append]
      rw [hU2, show U ++ (q.1, Q').2 ++ y :: ((r.1, R').2 ++ V) = U ++ (Q' ++ y :: R') ++ V by simp, e, ← hqL, ← hrL]
      simpa using h
    · rw [show decide ((2 : Int) < (sr.n : Int)) = false by simp; omega]
      refine s_pick (kidsD G.toBtT d cr) ?_
      refine s_ownS kr ?_
      refine s_ownS sr ?_
      refine s_own r.1 ?_
      refine s_pick (kidsD G.toBtT d cq) ?_
      refine s_ownS kq ?_
      refine s_ownS sq ?_
      refine s_own q.1 ?_
      refine s_ownS kd ?_
      refine s_ownS s ?_
      refine s_own n ?_
      refine s_merge ok (A := []) (IA := []) (by simp) rfl (by simp only [List.length_nil]; omega) hIC.symm (by omega) hfq hfr fun s' kd' => ?_
      refine s_pick (kidsR G.toBtT d ([] ++ C)) ?_
      refine s_pick (NodeR G.toBtT d 2 q.1 (wv iq cq ++ x :: wv ir cr)) ?_
      refine s_ownS kd' ?_
      refine s_ownS s' ?_
      refine s_own n ?_
      refine s_asmK (A := []) (by simp; omega) (by simp; omega) ?_
      simp only [List.nil_append]
      have h2 := hU1 (q.1, wv iq cq ++ x :: wv ir cr)
      rw [h2, ← hqL, ← hrL]
      simpa using h
  · -- a kid on the left
    simp only [List.concat_eq_append, List.append_assoc, List.singleton_append] at hf' hkn hf h ⊢
    have hAl : (A ++ [p]).length = A.length + 1 := by simp
    rw [hAl] at hf' hkn ⊢
    obtain ⟨IA, x, IC, rfl, hIA, hIC⟩ := split_at (L := its) (a := A.length) (c := C.length) (by omega)
    obtain ⟨U, V, hU1, hU2⟩ := wv_two (IA := IA) (IC := IC) (A := A) (C := C) hIA hIC.symm
    have hil : (IA ++ x :: IC).length = IA.length + (IC.length + 1) := by simp
    rw [hU2] at h
    rw [hil] at hl
    refine s_t ?_
    repeat first | refine s_nx ?_ | refine s_ai ?_
    refine s_idx (s := kd) (i := A.length) ?_
    refine s_ldE0 (s := kd) (x := ptr p) (kp_at at_mid) ?_
    refine s_nn ?_
    refine s_pick (kidsR G.toBtT d (A ++ p :: C)) ?_
    refine s_kid ?_
    refine s_raw fun sp kp ip cp hfp hlp hpne hpL => ?_
    refine s_cap sp fun c1 c2 c3 c4 => ?_
    have hspn := its_n c1
    repeat refine s_nx ?_
    by_cases hb3 : 2 < ip.length
    · rw [show decide ((2 : Int) < (sp.n : Int)) = true by simp; omega]
      rcases List.eq_nil_or_concat ip with rfl | ⟨ip, y, rfl⟩
      · simp at hb3
      simp only [List.concat_eq_append] at hb3 hlp hfp hpL ⊢
      have hipl : (ip ++ [y]).length = ip.length + 1 := by simp
      rw [hipl] at hb3 hlp
      refine s_pick (kidsD G.toBtT d cq) ?_
      refine s_ownS kq ?_
      refine s_ownS sq ?_
      refine s_own q.1 ?_
      refine s_pick (kidsD G.toBtT d cp) ?_
      refine s_ownS kp ?_
      refine s_ownS sp ?_
      refine s_own p.1 ?_
      refine s_ownS kd ?_
      refine s_ownS s ?_
      refine s_own n ?_
      refine s_turnL ok (A := A) (by omega) hIA (by omega) hIC.symm (by omega) hq1 hfp hfq fun P' Q' e s' kd' => ?_
      refine s_pick (kidsR G.toBtT d (A ++ C)) ?_
      refine s_pick (NodeR G.toBtT d 2 q.1 Q') ?_
      refine s_pick (NodeR G.toBtT d 2 p.1 P') ?_
      refine s_ownS kd' ?_
      refine s_ownS s' ?_
      refine s_own n ?_
      refine s_asm2 (by simp; omega) (by simp; omega) ?_
      rw [hU2, show U ++ (p.1, P').2 ++ y :: ((q.1, Q').2 ++ V) = U ++ (P' ++ y :: Q') ++ V by simp, e, ← hqL, ← hpL]
      simpa using h
    rw [show decide ((2 : Int) < (sp.n : Int)) = false by simp; omega]
    unfold nmend_s1
    repeat first | refine s_nx ?_ | refine s_ai ?_
    cases C with
    | nil =>
      refine s_f ?_ (by simp only [List.length_nil] at hkn; simp; omega)
      refine s_pick (kidsD G.toBtT d cq) ?_
      refine s_ownS kq ?_
      refine s_ownS sq ?_
      refine s_own q.1 ?_
      refine s_pick (kidsD G.toBtT d cp) ?_
      refine s_ownS kp ?_
      refine s_ownS sp ?_
      refine s_own p.1 ?_
      refine s_ownS kd ?_
      refine s_ownS s ?_
      refine s_own n ?_
      refine s_merge ok (by simp only [gt_iff_lt]; split <;> omega) hIA (by omega) hIC.symm (by omega) hfp hfq fun s' kd' => ?_
      refine s_pick (kidsR G.toBtT d (A ++ [])) ?_
      refine s_pick (NodeR G.toBtT d 2 p.1 (wv ip cp ++ x :: wv iq cq)) ?_
      refine s_ownS kd' ?_
      refine s_ownS s' ?_
      refine s_own n ?_
      refine s_asmK (by simp only [List.length_append, List.length_cons]; omega) (by simp only [List.length_append]; omega) ?_
      rw [hU1, ← hqL, ← hpL]
      simpa using h
    | cons r C =>
      simp only [List.length_cons] at hf' hkn hIC
      obtain ⟨x2, IC, rfl⟩ : ∃ x2 IC', IC = x2 :: IC' := by
        cases IC with
        | nil => simp at hIC
        | cons x2 IC => exact ⟨x2, IC, rfl⟩
      simp only [List.length_cons] at hIC hl
      refine s_t ?_ (by simp; omega)
      repeat first | refine s_nx ?_ | refine s_ai ?_
      refine s_idx (s := kd) (i := A.length + 2) ?_
      refine s_ldE0 (s := kd) (x := ptr r) (kp_at (by rw [show A ++ p :: q :: r :: C = (A ++ [p]) ++ q :: r :: C by simp, show A.length + 2 = (A ++ [p]).length + 1 by simp]; exact at_mid2)) ?_
      refine s_nn ?_
      refine s_pick (kidsR G.toBtT d (A ++ r :: C)) ?_
      refine s_kid ?_
      refine s_raw fun sr kr ir cr hfr hlr hrne hrL => ?_
      refine s_cap sr fun g1 g2 g3 g4 => ?_
      have hsrn := its_n g1
      repeat refine s_nx ?_
      by_cases hb4 : 2 < ir.length
      · rw [show decide ((2 : Int) < (sr.n : Int)) = true by simp; omega]
        obtain ⟨y, ir, rfl⟩ : ∃ y ir', ir = y :: ir' := by
          cases ir with
          | nil => simp at hb4
          | cons y ir => exact ⟨y, ir, rfl⟩
        simp only [List.length_cons] at hb4 hlr
        refine s_pick (kidsD G.toBtT d cp) ?_
        refine s_ownS kp ?_
        refine s_ownS sp ?_
        refine s_own p.1 ?_
        refine s_unraw (m := 2) hfp hlp (fun _ => .inr (hpne rfl)) ?_
        rw [← hpL]
        rw [show A ++ p :: q :: r :: C = (A ++ [p]) ++ q :: r :: C by simp, show IA ++ x :: x2 :: IC = (IA ++ [x]) ++ x2 :: IC by simp]
        refine s_pick (kidsD G.toBtT d cr) ?_
        refine s_ownS kr ?_
        refine s_ownS sr ?_
        refine s_own r.1 ?_
        refine s_pick (kidsD G.toBtT d cq) ?_
        refine s_ownS kq ?_
        refine s_ownS sq ?_
        refine s_own q.1 ?_
        refine s_ownS kd ?_
        refine s_ownS s ?_
        refine s_own n ?_
        refine s_turnR ok (A := A ++ [p]) (IA := IA ++ [x]) (by rw [hAl]) (by simp [hIA]) (by simp; omega) (by omega) (by omega) hq1 hfr hfq fun Q' R' e s' kd' => ?_
        refine s_pick (kidsR G.toBtT d (A ++ C)) ?_
        refine s_pick (NodeR G.toBtT d 2 p.1 p.2) ?_
        refine s_unkid ?_
        rw [show A ++ p :: C = (A ++ [p]) ++ C by simp]
        refine s_pick (kidsR G.toBtT d ((A ++ [p]) ++ C)) ?_
        refine s_pick (NodeR G.toBtT d 2 r.1 R') ?_
        refine s_pick (NodeR G.toBtT d 2 q.1 Q') ?_
        refine s_ownS kd' ?_
        refine s_ownS s' ?_
        refine s_own n ?_
        refine s_asm2 (by simp; omega) (by simp; omega) ?_
        obtain ⟨U', V', hV1, hV2⟩ := wv_two (IA := IA ++ [x]) (IC := IC) (A := A ++ [p]) (C := C) (by simp [hIA]) (by omega)
        have h3 := hV2 q x2 r
        have h4 := hU2 p x q
        rw [show (IA ++ [x]) ++ x2 :: IC = IA ++ x :: x2 :: IC by simp, show (A ++ [p]) ++ q :: r :: C = A ++ p :: q :: r :: C by simp, h4] at h3
        rw [hV2, show U' ++ (q.1, Q').2 ++ y :: ((r.1, R').2 ++ V') = U' ++ (Q' ++ y :: R') ++ V' by simp, e, ← hqL, ← hrL]
        rw [h3] at h
        simpa using h
      · rw [show decide ((2 : Int) < (sr.n : Int)) = false by simp; omega]
        refine s_pick (kidsD G.toBtT d cr) ?_
        refine s_ownS kr ?_
        refine s_ownS sr ?_
        refine s_own r.1 ?_
        refine s_unraw (m := 2) hfr hlr (fun _ => .inr (hrne rfl)) ?_
        rw [← hrL]
        refine s_pick (kidsR G.toBtT d (A ++ C)) ?_
        refine s_pick (NodeR G.toBtT d 2 r.1 r.2) ?_
        refine s_unkid ?_
        refine s_pick (kidsD G.toBtT d cq) ?_
        refine s_ownS kq ?_
        refine s_ownS sq ?_
        refine s_own q.1 ?_
        refine s_pick (kidsD G.toBtT d cp) ?_
        refine s_ownS kp ?_
        refine s_ownS sp ?_
        refine s_own p.1 ?_
        refine s_ownS kd ?_
        refine s_ownS s ?_
        refine s_own n ?_
        refine s_merge ok (by simp only [gt_iff_lt]; split <;> omega) hIA (by simp; omega) (by simp; omega) (by omega) hfp hfq fun s' kd' => ?_
        refine s_pick (kidsR G.toBtT d (A ++ r :: C)) ?_
        refine s_pick (NodeR G.toBtT d 2 p.1 (wv ip cp ++ x :: wv iq cq)) ?_
        refine s_ownS kd' ?_
        refine s_ownS s' ?_
        refine s_own n ?_
        refine s_asmK (by simp only [List.length_append, List.length_cons]; omega) (by simp only [List.length_append, List.length_cons]; omega) ?_
        rw [hU1, ← hqL, ← hpL]
        simpa using h
end
end Bt
end Go.Sep
/- A B-tree: last, take and Delete. Holds for every program. -/
namespace Go.Sep
open Go Go.RowKit
set_option linter.unusedSimpArgs false
set_option linter.unusedVariables false
namespace Bt
section
variable {κ : Type} {G : BtD κ} {c : κ → κ → Int} {B : World} {Γ Δ : List HProp}
theorem wv_end : ∀ {its : List G.It} {A : List (Kid G.toBtT)}, its.length = A.length → ∃ U : List G.It, ∀ p : Kid G.toBtT, wv its (A ++ [p]) = U ++ p.2
  | [], [], _ => ⟨[], fun p => by simp [wv]⟩
  | a :: its, r :: A, h => by
    obtain ⟨U, h1⟩ := wv_end (its := its) (A := A) (by simpa using h)
    exact ⟨r.2 ++ a :: U, fun p => by simp [wv, h1]⟩
  | [], _ :: _, h => by simp at h
  | _ :: _, [], h => by simp at h
theorem nlast_spec (ok : BtDOk G c) : ∀ (d : Nat) {b : Nat} {L : List G.It} {Γ : List HProp} {Q : Array Value → K},
    (∀ L0 x, L = L0 ++ [x] → HG B (NodeR G.toBtT d 0 b L0 :: Γ) (Q (G.f x).toArray)) → HG B (NodeR G.toBtT d 2 b L :: Γ) (G.nlastC (some ⟨b, 0, none⟩) Q) := by
  have okT := ok.toBtOk
  intro d
  induction d with
  | zero =>
    intro b L Γ Q h
    refine fun w hw => ok.last _ _ _ ?_
    refine hg hw ?_
    clear hw w
    refine s_node0 fun s kd hne hl => ?_
    rcases List.eq_nil_or_concat L with rfl | ⟨L0, x, rfl⟩
    · exact absurd rfl (hne rfl)
    simp only [List.concat_eq_append] at h hl ⊢
    have hll : (L0 ++ [x]).length = L0.length + 1 := by simp
    rw [hll] at hl
    refine s_cap s fun a1 a2 a3 a4 => ?_
    refine s_cap kd fun b1 b2 b3 b4 => ?_
    have hsn := its_n a1
    have hkn := kps_n b1
    rw [hll] at hsn
    simp only [List.length_nil] at hkn
    unfold nlast
    refine s_new fun t2 => ?_
    repeat first | refine s_nx ?_ | refine s_ai ?_
    refine s_f ?_ (by simp; omega)
    repeat first | refine s_nx ?_ | refine s_ai ?_
    refine s_idx (s := s) (i := L0.length) ?_
    refine s_ldElS (s := s) (x := x) G.f_len (by simp) ?_
    refine s_new fun x5 => ?_
    repeat refine s_nx ?_
    refine s_stN (b := x5) ?_ (by simp [okT.vz.1]) (G.f_len x) (flat_f okT x)
    repeat first | refine s_nx ?_ | refine s_ai ?_
    refine s_slc (lo := 0) (hi := L0.length) (mx := s.c) ?_
    rw [cut0 a3]
    repeat refine s_nx ?_
    refine s_shrinkI (s := s) (m := L0.length) (by omega) a2 ?_
    rw [List.take_left]
    refine s_ldN (b := x5) (l' := G.f x) ?_ (List.take_of_length_le (by simp [G.f_len])) (G.f_len _)
    refine s_stN (b := t2) ?_ (by simp [okT.vz.1]) (G.f_len x) (flat_f okT x)
    refine s_ldN (b := t2) (l' := G.f x) ?_ (List.take_of_length_le (by simp [G.f_len])) (G.f_len _)
    refine s_ownS kd ?_
    refine s_ownS ⟨s.a, L0.length, s.c⟩ ?_
    refine s_own b ?_
    refine s_mk0 (m := 0) (by simp) (by omega) ?_
    exact s_end (h L0 x rfl)
  | succ d ih =>
    intro b L Γ Q h
    refine fun w hw => ok.last _ _ _ ?_
    refine hg hw ?_
    clear hw w
    refine s_raw fun s kd its ks hf hl hne hL => ?_
    subst hL
    have hf' : ks.length = its.length + 1 := hf
    rcases List.eq_nil_or_concat ks with rfl | ⟨A, q, rfl⟩
    · simp at hf'
    simp only [List.concat_eq_append] at h hf hf' ⊢
    have hkl : (A ++ [q]).length = A.length + 1 := by simp
    rw [hkl] at hf'
    refine s_pick (kidsD G.toBtT (d + 1) (A ++ [q])) ?_
    refine s_conv (A' := kidsR G.toBtT d (A ++ [q])) (fun _ h => h) ?_
    refine s_kid (A := A) (C := []) ?_
    refine s_cap s fun a1 a2 a3 a4 => ?_
    refine s_cap kd fun b1 b2 b3 b4 => ?_
    have hsn := its_n a1
    have hkn := kps_n b1
    rw [List.length_map, hkl] at hkn
    unfold nlast
    refine s_new fun t2 => ?_
    repeat first | refine s_nx ?_ | refine s_ai ?_
    rw [show ((kd.n : Nat) : Int) - 1 = ((A.length : Nat) : Int) by omega]
    refine s_t ?_ (by simp)
    repeat refine s_nx ?_
    refine s_idx (s := kd) (i := A.length) ?_
    refine s_ldE0 (s := kd) (x := ptr q) (kp_at at_mid) ?_
    refine s_pick (NodeR G.toBtT d 2 q.1 q.2) ?_
    refine ih (b := q.1) (L := q.2) fun L0 x e => ?_
    refine s_new fun x4 => ?_
    refine s_stN (b := x4) ?_ (by simp [okT.vz.1]) (G.f_len x) (flat_f okT x)
    rw [show (A ++ [q]).map ptr = (A ++ [(q.1, L0)]).map ptr by simp [ptr]]
    refine s_pick (kidsR G.toBtT d (A ++ [])) ?_
    refine s_pick (NodeR G.toBtT d 0 q.1 L0) ?_
    refine s_ownS kd ?_
    refine s_ownS s ?_
    refine s_own b ?_
    refine mend_spec ok (q := (q.1, L0)) (C := []) hl (hne rfl) (by simp; omega) ?_
    refine s_ldN (b := x4) (l' := G.f x) ?_ (List.take_of_length_le (by simp [G.f_len])) (G.f_len _)
    refine s_stN (b := t2) ?_ (by simp [okT.vz.1]) (G.f_len x) (flat_f okT x)
    refine s_ldN (b := t2) (l' := G.f x) ?_ (List.take_of_length_le (by simp [G.f_len])) (G.f_len _)
    refine s_end (h (wv its (A ++ [(q.1, L0)])) x ?_)
    obtain ⟨U, hU⟩ := wv_end (its := its) (A := A) (by omega)
    rw [hU, hU, e, List.append_assoc]

/-! ### take -/
def DelR (c : κ → κ → Int) {ν : Type} (z : ν) (L : List (κ × ν)) (k : κ) (L' : List (κ × ν)) (old : ν) (had : Bool) : Prop :=
  (∃ A C, L = A ++ (k, old) :: C ∧ L' = A ++ C ∧ had = true) ∨ ((∃ A C, L = A ++ C ∧ (∀ x ∈ A, c x.1 k < 0) ∧ (∀ x ∈ C, c k x.1 < 0)) ∧ L' = L ∧ old = z ∧ had = false)
theorem DelR.mid {ν : Type} {z old : ν} {A C L L' : List (κ × ν)} {k : κ} {had : Bool} (hA : ∀ x ∈ A, c x.1 k < 0) (hC : ∀ x ∈ C, c k x.1 < 0) (h : DelR c z L k L' old had) : DelR c z (A ++ L ++ C) k (A ++ L' ++ C) old had := by
  rcases h with ⟨A', C', rfl, rfl, rfl⟩ | ⟨⟨A', C', rfl, h1, h2⟩, rfl, rfl, rfl⟩
  · exact .inl ⟨A ++ A', C' ++ C, by simp, by simp, rfl⟩
  · refine .inr ⟨⟨A ++ A', C' ++ C, by simp, fun x hx => ?_, fun x hx => ?_⟩, rfl, rfl, rfl⟩
    · rcases List.mem_append.1 hx with hx | hx
      · exact hA x hx
      · exact h1 x hx
    · rcases List.mem_append.1 hx with hx | hx
      · exact h2 x hx
      · exact hC x hx
theorem DelR.srt {ν : Type} {z old : ν} {L L' : List (κ × ν)} {k : κ} {had : Bool} (h : DelR c z L k L' old had) (hs : Srt c L) : Srt c L' := by
  rcases h with ⟨A', C', rfl, rfl, rfl⟩ | ⟨_, rfl, rfl, rfl⟩
  · exact hs.sub ((List.Sublist.refl A').append (List.sublist_cons_self _ _))
  · exact hs
theorem DelR.len {ν : Type} {z old : ν} {L L' : List (κ × ν)} {k : κ} {had : Bool} (h : DelR c z L k L' old had) : L.length = L'.length + (if had then 1 else 0) := by
  rcases h with ⟨A', C', rfl, rfl, rfl⟩ | ⟨_, rfl, rfl, rfl⟩
  · simp; omega
  · simp
theorem ntake_spec (ok : BtDOk G c) : ∀ (d : Nat) {m b : Nat} {M : List G.It} {k : κ} {Γ : List HProp} {Q : Array Value → Bool → K}, 1 ≤ m → Srt c M →
    (∀ M' old had, DelR c (G.z0 ok.vz) M k M' old had → HG B (NodeR G.toBtT d 0 b M' :: Γ) (Q old.1.toArray had)) →
    HG B (NodeR G.toBtT d m b M :: Γ) (G.ntakeC (some ⟨b, 0, none⟩) k Q) := by
  have okT := ok.toBtOk
  intro d
  induction d with
  | zero =>
    intro m b M k Γ Q hm hs h
    refine fun w hw => ok.take _ _ _ _ ?_
    refine hg hw ?_
    clear hw w
    refine s_node0 fun s kd _ hl => ?_
    refine s_cap s fun a1 a2 a3 a4 => ?_
    refine s_cap kd fun b1 b2 b3 b4 => ?_
    have hsn := its_n a1
    have hkn := kps_n b1
    simp only [List.length_nil] at hkn
    unfold ntake
    refine s_new fun v4 => ?_
    refine s_search okT (s := s) (kd := kd) hs (by omega) (fun A v0 C e => ?_) fun A C e hA hC => ?_
    · subst e
      have hlen : (A ++ (k, v0) :: C).length = A.length + (C.length + 1) := List.length_append
      repeat refine s_nx ?_
      rw [show decide ((kd.n : Int) = 0) = true by simp; omega]
      unfold ntake_s2
      repeat refine s_nx ?_
      refine s_idx (s := s) (i := A.length) ?_
      refine s_ldEN (s := s) (l' := v0.1) drop_val v0.2.1 ?_
      refine s_stN (b := v4) ?_ okT.vz.1 v0.2.1 v0.2.2
      repeat first | refine s_nx ?_ | refine s_ai ?_
      obtain ⟨Z, hdel⟩ := ok.delI
      refine fun w hw => hdel _ _ _ _ _ ?_
      refine hg hw ?_
      clear hw w
      rw [show ((A.length : Nat) : Int) + 1 = ((A.length + 1 : Nat) : Int) by omega]
      refine s_del (s := s) (i := A.length) (j := A.length + 1) (by omega) (by omega) (by omega) (fl_flat okT _) (fun s' hs' => ?_) okT.TI
      rw [del_mid]
      repeat refine s_nx ?_
      refine s_ret3 (v := v0) ?_
      refine s_ownS kd ?_
      refine s_ownS s' ?_
      refine s_own b ?_
      refine s_mk0 (m := 0) (by simp) (by simp; omega) ?_
      exact s_end (h _ _ _ (.inl ⟨A, C, rfl, rfl, rfl⟩))
    · subst e
      repeat refine s_nx ?_
      unfold ntake_s2
      repeat refine s_nx ?_
      refine s_f ?_ (by simp; omega)
      unfold ntake_s1
      refine s_ret3 (v := G.z0 okT.vz) ?_
      refine s_ownS kd ?_
      refine s_ownS s ?_
      refine s_own b ?_
      refine s_mk0 (m := 0) (by simp) hl ?_
      exact s_end (h _ _ _ (.inr ⟨⟨A, C, rfl, hA, hC⟩, rfl, rfl, rfl⟩))
  | succ d ih =>
    intro m b M k Γ Q hm hs h
    refine fun w hw => ok.take _ _ _ _ ?_
    refine hg hw ?_
    clear hw w
    refine s_nodeS fun s kd q0 ps hne hl hM => ?_
    subst hM
    have hne := hne hm
    refine s_cap s fun a1 a2 a3 a4 => ?_
    refine s_cap kd fun b1 b2 b3 b4 => ?_
    have hsn := its_n a1
    have hkn := kps_n b1
    simp only [List.length_map, List.length_cons] at hsn hkn
    unfold ntake
    refine s_new fun v4 => ?_
    refine s_search okT (s := s) (kd := kd) (hs.sub (its_sub q0 ps)) (by simp; omega) (fun A v0 C e => ?_) fun A C e hA hC => ?_
    · obtain ⟨l, q, r, hA, hC, hK, hL, hlen⟩ := zip_of (q0 := q0) e
      rw [e, hK]
      rw [hL] at hs h
      obtain ⟨⟨xx, q1⟩, r, rfl, hxx, hC'⟩ := List.map_eq_cons_iff.1 hC.symm
      simp only at hxx
      subst hxx
      subst hA
      subst hC'
      simp only [List.length_cons] at hlen
      have hll : (l.map Prod.snd).length = l.length := by simp
      have hlf : (l.map Prod.fst).length = l.length := by simp
      repeat refine s_nx ?_
      rw [show decide ((kd.n : Int) = 0) = false by simp; omega]
      unfold ntake_s2
      repeat refine s_nx ?_
      refine s_idx (s := s) (i := (l.map Prod.snd).length) ?_
      refine s_ldEN (s := s) (l' := v0.1) drop_val v0.2.1 ?_
      refine s_stN (b := v4) ?_ okT.vz.1 v0.2.1 v0.2.2
      refine s_dr ?_
      refine s_wsD [nodeB G.toBtT b s kd, itsR G.toBtT s (l.map Prod.snd ++ (k, v0) :: r.map Prod.fst), kpsR G.toBtT kd ((l.map Prod.fst ++ q :: (((k, v0), q1) :: r).map Prod.snd).map ptr)] ?_
      repeat refine s_nx ?_
      refine s_idx (s := kd) (i := (l.map Prod.fst).length) ?_ (by omega)
      refine s_ldES1 (s := kd) (c := Value.pointer) (L := (l.map Prod.fst ++ q :: (((k, v0), q1) :: r).map Prod.snd).map ptr) (x := ptr q) (by simp) ?_
      refine s_pick (kidsR G.toBtT d (l.map Prod.fst ++ q :: (((k, v0), q1) :: r).map Prod.snd)) ?_
      refine s_kid ?_
      refine nlast_spec ok d (b := q.1) (L := q.2) fun L0 x e2 => ?_
      repeat refine s_nx ?_
      refine s_idx (s := s) (i := (l.map Prod.snd).length) ?_
      refine s_stEl (s := s) (A := l.map Prod.snd) (x := (k, v0)) (y := x) G.f_len (flat_f okT x) ?_
      rw [show (l.map Prod.fst ++ q :: (((k, v0), q1) :: r).map Prod.snd).map ptr = (l.map Prod.fst ++ (q.1, L0) :: (((k, v0), q1) :: r).map Prod.snd).map ptr by simp [ptr]]
      rw [show ((l.map Prod.snd).length : Int) = ((l.map Prod.fst).length : Int) by rw [hll, hlf]]
      refine s_pick (kidsR G.toBtT d (l.map Prod.fst ++ (((k, v0), q1) :: r).map Prod.snd)) ?_
      refine s_pick (NodeR G.toBtT d 0 q.1 L0) ?_
      refine s_ownS kd ?_
      refine s_ownS s ?_
      refine s_own b ?_
      refine mend_spec ok (q := (q.1, L0)) (by simp; omega) (by simp) (by simp; omega) ?_
      refine s_ret3 (v := v0) ?_
      refine s_end (h (wv (l.map Prod.snd ++ x :: r.map Prod.fst) (l.map Prod.fst ++ (q.1, L0) :: (((k, v0), q1) :: r).map Prod.snd)) v0 true (.inl ⟨preL l ++ q.2, q1.2 ++ postL r, ?_, ?_, rfl⟩))
      · simp [postL]
      · obtain ⟨q0', ps', e3, e4, e5, e6⟩ := zback l (q.1, L0) ((x, q1) :: r)
        rw [show l.map Prod.snd ++ x :: r.map Prod.fst = ps'.map Prod.fst from e4.symm, show l.map Prod.fst ++ (q.1, L0) :: (((k, v0), q1) :: r).map Prod.snd = q0' :: ps'.map Prod.snd from e5.symm, wv_ps, e6, e2]
        simp [postL]
    · obtain ⟨l, q, r, rfl, rfl, hK, hL, hlen⟩ := zip_of (q0 := q0) e
      rw [e, hK]
      rw [hL] at hs h
      have hll : (l.map Prod.snd).length = l.length := by simp
      have hlf : (l.map Prod.fst).length = l.length := by simp
      have hs1 := List.pairwise_append.1 hs
      have hs2 := List.pairwise_append.1 hs1.1
      have hpre := pre_lt okT l hs2.1 hA
      have hpost := post_gt okT r hs1.2.1 hC
      repeat refine s_nx ?_
      unfold ntake_s2
      repeat refine s_nx ?_
      refine s_t ?_ (by simp; omega)
      repeat refine s_nx ?_
      refine s_idx (s := kd) (i := (l.map Prod.fst).length) ?_ (by omega)
      refine s_ldE0 (s := kd) (x := ptr q) (kp_at at_mid) ?_
      refine s_pick (kidsR G.toBtT d (l.map Prod.fst ++ q :: r.map Prod.snd)) ?_
      refine s_kid ?_
      refine ih (m := 2) (b := q.1) (M := q.2) (by omega) hs2.2.1 fun M' old had hp => ?_
      refine s_stN (b := v4) ?_ okT.vz.1 old.2.1 old.2.2
      rw [show (l.map Prod.fst ++ q :: r.map Prod.snd).map ptr = (l.map Prod.fst ++ (q.1, M') :: r.map Prod.snd).map ptr by simp [ptr]]
      rw [show ((l.map Prod.snd).length : Int) = ((l.map Prod.fst).length : Int) by rw [hll, hlf]]
      refine s_pick (kidsR G.toBtT d (l.map Prod.fst ++ r.map Prod.snd)) ?_
      refine s_pick (NodeR G.toBtT d 0 q.1 M') ?_
      refine s_ownS kd ?_
      refine s_ownS s ?_
      refine s_own b ?_
      refine mend_spec ok (q := (q.1, M')) (by simp; omega) (fun h0 => hne ?_) (by simp; omega) ?_
      · have := congrArg List.length h0
        simp only [List.length_append, List.length_map, List.length_nil] at this
        exact List.length_eq_zero_iff.1 (by omega)
      unfold ntake_s1
      refine s_ret3 (v := old) ?_
      obtain ⟨q0', ps', e3, e4, e5, e6⟩ := zback l (q.1, M') r
      rw [← e4, ← e5, wv_ps, e6]
      exact s_end (h _ _ _ (hp.mid hpre hpost))

theorem s_tdel1 (ok : BtDOk G c) {t v4 d b : Nat} {L L' : List G.It} {k : κ} {old : Cel G.nv} {had : Bool} {Q : Array Value → Bool → K} (hs : Srt c L) (hL : L.length < 1000000000) (hp : DelR c (G.z0 ok.vz) L k L' old had) (h : HG B (TreeR G.toBtT c t L' :: Γ) (Q old.1.toArray had)) :
    HG B (valB G.toBtT v4 old :: blk t (.cells [.pointer (some ⟨b, 0, none⟩), .int .i64 L.length].toArray G.tT (0, 0)) :: NodeR G.toBtT d 1 b L' :: Γ) (tdel_s1 G Q ⟨t, 0, none⟩ ⟨v4, 0, none⟩ had) := by
  have hlen := hp.len
  unfold tdel_s1
  refine s_ite (fun hb => ?_) fun hb => ?_
  · rw [hb, if_pos rfl] at hlen
    repeat first | refine s_nx ?_ | refine s_ai ?_
    unfold tdel_s2
    rw [show ((L.length : Nat) : Int) - 1 = ((L'.length : Nat) : Int) by omega]
    refine s_ret3 (v := old) ?_
    refine s_own b ?_
    refine s_own t ?_
    exact s_mkTree (hp.srt hs) (s_end h)
  · rw [hb, if_neg (by simp)] at hlen
    unfold tdel_s2
    rw [show ((L.length : Nat) : Int) = ((L'.length : Nat) : Int) by omega]
    refine s_ret3 (v := old) ?_
    refine s_own b ?_
    refine s_own t ?_
    exact s_mkTree (hp.srt hs) (s_end h)
/-- Delete. -/
theorem tdel_spec (ok : BtDOk G c) {t : Nat} {L : List G.It} {k : κ} {Q : Array Value → Bool → K} (hL : L.length < 1000000000) (h : ∀ L' old had, DelR c (G.z0 ok.vz) L k L' old had → HG B (TreeR G.toBtT c t L' :: Γ) (Q old.1.toArray had)) :
    HG B (TreeR G.toBtT c t L :: Γ) (tdel G (some ⟨t, 0, none⟩) k Q) := by
  have okT := ok.toBtOk
  refine s_tree fun d b hs => ?_
  unfold tdel
  refine s_new fun v4 => ?_
  repeat refine s_nx ?_
  refine s_pick (NodeR G.toBtT d 1 b L) ?_
  refine ntake_spec ok d (m := 1) (Nat.le_refl _) hs fun M' old had hp => ?_
  have h := h M' old had hp
  refine s_stN (b := v4) ?_ okT.vz.1 old.2.1 old.2.2
  repeat refine s_nx ?_
  refine s_own b ?_
  refine s_raw fun s kd its ks hf hl _ hM => ?_
  refine s_cap s fun a1 a2 a3 a4 => ?_
  refine s_cap kd fun b1 b2 b3 b4 => ?_
  have hsn := its_n a1
  have hkn := kps_n b1
  rw [List.length_map] at hkn
  repeat refine s_nx ?_
  have back : ((d = 0 ∧ 1 = 1) ∨ its ≠ []) → HG B (rawL G.toBtT d b s kd its ks (valB G.toBtT v4 old :: blk t (.cells [.pointer (some ⟨b, 0, none⟩), .int .i64 L.length].toArray G.tT (0, 0)) :: Γ)) (tdel_s3 G Q ⟨t, 0, none⟩ ⟨v4, 0, none⟩ had false) := fun hb => by
    refine s_unraw (m := 1) hf hl (fun _ => hb) ?_
    rw [← hM]
    unfold tdel_s3
    repeat refine s_nx ?_
    refine s_own b ?_
    refine s_own t ?_
    refine s_pick (valB G.toBtT v4 old) ?_
    exact s_tdel1 ok hs hL hp h
  refine s_ite (fun hb => ?_) fun hb => ?_
  · have hn : its = [] := List.length_eq_zero_iff.1 (by simp only [decide_eq_true_eq] at hb; omega)
    subst hn
    repeat refine s_nx ?_
    cases d with
    | zero =>
      have hk : ks = [] := hf
      subst hk
      rw [show decide ((kd.n : Int) = 1) = false by simp only [List.length_nil] at hkn; simp; omega]
      exact s_end (back (.inl ⟨rfl, rfl⟩))
    | succ d =>
      obtain ⟨q, rfl⟩ : ∃ q, ks = [q] := List.length_eq_one_iff.1 hf
      simp only [List.length_cons, List.length_nil] at hkn
      rw [show decide ((kd.n : Int) = 1) = true by simp; omega]
      unfold tdel_s3
      repeat refine s_nx ?_
      refine s_idx (s := kd) (i := 0) ?_
      refine s_ldE0 (s := kd) (x := ptr q) (by simp) ?_
      refine s_st (b := t) (v := .pointer (some ⟨q.1, 0, none⟩)) ?_
      refine s_pick (kidsD G.toBtT (d + 1) [q]) ?_
      refine s_conv (A' := kidsR G.toBtT d [q]) (fun _ h => h) ?_
      refine s_kid (A := []) (C := []) (q := q) ?_
      refine s_conv (NodeR.weak (m' := 1) (by simp) (by simp)) ?_
      have e : q.2 = M' := hM.symm
      rw [e]
      refine s_pick (NodeR G.toBtT d 1 q.1 M') ?_
      refine s_own t ?_
      refine s_pick (valB G.toBtT v4 old) ?_
      refine s_tdel1 ok hs hL hp ?_
      exact s_end h
  · have hn : its ≠ [] := fun h0 => by
      rw [h0, List.length_nil] at hsn
      simp only [decide_eq_false_iff_not] at hb; omega
    exact s_end (back (.inr hn))
end
end Bt
end Go.Sep
/- The store: values that come and go. -/
namespace Go.Proofs.YtfjjocopmknhgaaGreat
open Go Go.Sep Go.Sep.Bt
set_option linter.unusedSimpArgs false
set_option linter.unusedVariables false
set_option maxRecDepth 100000

noncomputable def btSD : BtD ByteArray where
  toBtT := btS
  delIC := slices_Delete_s_btree_item_string_api_Record_btree_item_string_api_Record.call
  delKC := slices_Delete_s_btree_node_string_api_Record_btree_node_string_api_Record.call
  ntakeC := btree_node_string_api_Record_take.call
  nlastC := btree_node_string_api_Record_last.call
  nmendC := btree_node_string_api_Record_mend.call
theorem btSD_ok : BtDOk btSD cmpS where
  toBtOk := btS_ok
  delI := ⟨_, fun s i j Q w h => slices_Delete_s_btree_item_string_api_Record_btree_item_string_api_Record_ok _ _ _ _ _ h⟩
  delK := ⟨_, fun s i j Q w h => slices_Delete_s_btree_node_string_api_Record_btree_node_string_api_Record_ok _ _ _ _ _ h⟩
  take := fun n k Q w h => btree_node_string_api_Record_take_ok _ _ _ _ h
  last := fun n Q w h => btree_node_string_api_Record_last_ok _ _ _ h
  mend := fun n i Q w h => btree_node_string_api_Record_mend_ok _ _ _ _ h

def delM (M : Recs) (k : ByteArray) : Recs := M.filter fun x => !decide (x.1 = k)
def setM (M : Recs) (k : ByteArray) (r : Rec) : Recs := if r.has = false ∧ r.cnt = 0 then delM M k else putM M k r
theorem getM_del (M : Recs) (k k' : ByteArray) : getM (delM M k) k' = if k' = k then none else getM M k' := by
  unfold getM delM
  rw [List.find?_filter]
  split
  · rename_i h
    subst h
    rw [List.find?_eq_none.2 (fun x _ => by simp)]; rfl
  · rename_i h
    congr 2
    funext x
    by_cases h2 : x.1 = k
    · simp [h2, Ne.symm h]
    · by_cases h3 : x.1 = k' <;> simp [h2, h3, h]
theorem sGet_set (n : Nat) (M : Recs) (k k' : ByteArray) (r : Rec) : sGet n (setM M k r) k' = if k' = k then (if r.has = false ∧ r.cnt = 0 then ⟨false, [], homeOf k.toList n, 0⟩ else r) else sGet n M k' := by
  unfold setM
  split
  · unfold sGet
    rw [getM_del]
    split
    · rename_i h; rw [h]; rfl
    · rfl
  · rw [sGet_put]
theorem delM_none {M : Recs} {k : ByteArray} (h : ∀ x ∈ M, x.1 ≠ k) : delM M k = M := List.filter_eq_self.2 fun x hx => by simpa using h x hx
theorem delM_mid {A C : Recs} {k : ByteArray} {r : Rec} (hA : ∀ x ∈ A, x.1 ≠ k) (hC : ∀ x ∈ C, x.1 ≠ k) : delM (A ++ (k, r) :: C) k = A ++ C := by
  unfold delM
  rw [List.filter_append, List.filter_cons_of_neg (by simp)]
  exact congr (congrArg _ (delM_none hA)) (delM_none hC)
theorem setM_len (M : Recs) (k : ByteArray) (r : Rec) : (setM M k r).length ≤ M.length + 1 := by
  unfold setM
  split
  · have := List.length_filter_le (fun x => !decide (x.1 = k)) M
    unfold delM; omega
  · exact putM_len _ _ _
section
variable {B : World} {Γ Δ : List HProp}
theorem btDel_spec {t : Nat} {L : List btS.It} {k : ByteArray} {Q : Array Value → Bool → K} (hL : L.length < 1000000000) (h : ∀ L' old had, DelR cmpS (btS.z0 btS_ok.vz) L k L' old had → HG B (TreeR btS cmpS t L' :: Γ) (Q old.1.toArray had)) :
    HG B (TreeR btS cmpS t L :: Γ) (btree_Tree_string_api_Record_Delete.call (some ⟨t, 0, none⟩) k Q) := fun w hw =>
  btree_Tree_string_api_Record_Delete_ok _ _ _ _ (show tdel btSD (some ⟨t, 0, none⟩) k Q w from hg hw (tdel_spec btSD_ok hL h))
theorem gt_of_srt {X Y : List RecX} {k : ByteArray} {r : Rec × Sl} (h : Srt cmpS ((X ++ (k, r) :: Y).map recI)) : ∀ x ∈ Y, cmpS k x.1 < 0 := fun x hx => by
  rw [List.map_append, List.map_cons] at h
  exact (List.pairwise_cons.1 (List.pairwise_append.1 h).2.1).1 (recI x) (List.mem_map.2 ⟨x, hx, rfl⟩)
/-- A key goes. -/
theorem storeDel_hg {st t n : Nat} {X : List RecX} {k : ByteArray} {q : Array Value → Bool → K} (hok : ∀ x ∈ X.map recM, x.2.ok) (h1 : 1 ≤ n) (h3 : n ≤ 3) (hL : X.length < 1000000000)
    (h : ∀ a b, HG B (StoreR st n (delM (X.map recM) k) :: Γ) (q a b)) :
    HG B (blk st (.cells [.int .i64 n, .pointer (some ⟨t, 0, none⟩)].toArray ty_store_Store (0, 0)) :: TreeR btS cmpS t (X.map recI) :: Sep.stars (X.map recB) :: Γ) (btree_Tree_string_api_Record_Delete.call (some ⟨t, 0, none⟩) k q) := by
  refine s_own t ?_
  refine tree_srt fun hs => ?_
  refine btDel_spec (by simpa using hL) fun L' old had hp => ?_
  rcases hp with ⟨A, C, e, rfl, rfl⟩ | ⟨⟨A, C, e, hA, hC⟩, rfl, rfl, rfl⟩
  · obtain ⟨XA, r0, XC, rfl, rfl, rfl, rfl⟩ := split_rec e
    have e2 : delM ((XA ++ (k, r0) :: XC).map recM) k = (XA ++ XC).map recM := by
      rw [List.map_append, List.map_cons, List.map_append]
      refine delM_mid (fun x hx => ?_) fun x hx => ?_
      · obtain ⟨y, hy, rfl⟩ := List.mem_map.1 hx
        exact ne_of_lt (lt_of_srt hs y hy)
      · obtain ⟨y, hy, rfl⟩ := List.mem_map.1 hx
        exact Ne.symm (ne_of_lt (gt_of_srt hs y hy))
    rw [e2] at h
    refine s_pick (Sep.stars ((XA ++ (k, r0) :: XC).map recB)) ?_
    refine s_mid ?_
    rw [show XA.map recI ++ XC.map recI = (XA ++ XC).map recI by simp]
    refine s_pick (Sep.stars ((XA ++ XC).map recB)) ?_
    refine s_own t ?_
    refine s_own st ?_
    refine s_mkStore (fun x hx => hok x ?_) h1 h3 (s_end (h _ _))
    rw [List.map_append] at hx ⊢
    rcases List.mem_append.1 hx with hx | hx
    · exact List.mem_append_left _ hx
    · exact List.mem_append_right _ (List.mem_cons_of_mem _ hx)
  · have e2 : delM (X.map recM) k = X.map recM := delM_none fun x hx => by
      obtain ⟨y, hy, rfl⟩ := List.mem_map.1 hx
      have hy2 : recI y ∈ A ++ C := by rw [← e]; exact List.mem_map.2 ⟨y, hy, rfl⟩
      rcases List.mem_append.1 hy2 with h4 | h4
      · exact ne_of_lt (hA _ h4)
      · exact Ne.symm (ne_of_lt (hC _ h4))
    rw [e2] at h
    refine s_pick (Sep.stars (X.map recB)) ?_
    refine s_own t ?_
    refine s_own st ?_
    exact s_mkStore hok h1 h3 (s_end (h _ _))
theorem storeSetM_spec {st n : Nat} {M : Recs} {k : ByteArray} {r : Rec} {s : Sl} {q : K} (hr : r.ok) (hL : M.length < 1000000000) (h : HG B (StoreR st n (setM M k r) :: Γ) q) : HG B (StoreR st n M :: Bytes ty_uint8 s r.val :: Γ) (store_Store_set.call (some ⟨st, 0, none⟩) k (recA r s) q) := by
  unfold setM at h
  split at h
  · rename_i h0
    refine fun w hw => store_Store_set_ok _ _ _ _ _ ?_
    refine hg hw ?_
    clear hw w
    refine s_store fun t X hM hok h1 h3 => ?_
    subst hM
    unfold store_Store_set
    refine s_new fun r5 => ?_
    repeat refine s_nx ?_
    refine s_t ?_ (by simp [h0.1])
    repeat refine s_nx ?_
    rw [show decide (r.cnt = 0) = true by simpa using h0.2]
    unfold store_Store_set.s1
    repeat refine s_nx ?_
    refine s_pick (Sep.stars (X.map recB)) ?_
    refine s_own t ?_
    refine s_own st ?_
    exact storeDel_hg hok h1 h3 (by simpa using hL) fun _ _ => s_end h
  · rename_i h0
    refine storeSet_spec hr ?_ hL h
    by_cases h1 : r.has = true
    · exact .inl h1
    · exact .inr fun h2 => h0 ⟨by simpa using h1, h2⟩
/-- A key gets a value. -/
theorem storePutV_spec {st n : Nat} {M : Recs} {k : ByteArray} {v : Sl} {xs : List UInt8} {q : K} (hk : k.size < 1000000000000) (hL : M.length < 1000000000) (hr : ∀ w, Holds B Γ w → RdB w v xs) (hx : xs.length ≤ 1000000000)
    (h : HG B (StoreR st n (setM M k { sGet n M k with has := true, val := xs }) :: Γ) q) : HG B (StoreR st n M :: Γ) (store_Store_Put.call (some ⟨st, 0, none⟩) k v q) := by
  refine fun w hw => store_Store_Put_ok _ _ _ _ _ ?_
  refine hg hw ?_
  clear hw w
  unfold store_Store_Put
  refine storeGet_spec hk fun s hok => ?_
  generalize sGet n M k = r at *
  refine s_new fun r6 => ?_
  refine s_stN (b := r6) (l' := recL r s) ?_
  refine bytesClone_hg (fun w hw => hr w hw.drops) hx fun s' _ => ?_
  repeat refine s_nx ?_
  refine s_ownS s' ?_
  refine s_own st ?_
  obtain ⟨o1, o2, o3⟩ := hok
  refine storeSetM_spec (r := { r with has := true, val := xs }) ⟨o1, o2, hx⟩ hL ?_
  exact s_end h
/-- A key's value goes. -/
theorem storeDelete_spec {st n : Nat} {M : Recs} {k : ByteArray} {q : K} (hk : k.size < 1000000000000) (hL : M.length < 1000000000)
    (h : HG B (StoreR st n (setM M k { sGet n M k with has := false, val := [] }) :: Γ) q) : HG B (StoreR st n M :: Γ) (store_Store_Delete.call (some ⟨st, 0, none⟩) k q) := by
  refine fun w hw => store_Store_Delete_ok _ _ _ _ ?_
  refine hg hw ?_
  clear hw w
  unfold store_Store_Delete
  refine storeGet_spec hk fun s hok => ?_
  generalize sGet n M k = r at *
  refine s_new fun r6 => ?_
  refine s_stN (b := r6) (l' := recL r s) ?_
  repeat refine s_nx ?_
  refine fun w hw => ?_
  refine hg (show Holds B (Bytes ty_uint8 ⟨none, 0, 0⟩ [] :: _) w from hw.nilSl ty_uint8 1) ?_
  clear hw w
  refine s_ownS ⟨none, 0, 0⟩ ?_
  refine s_own st ?_
  obtain ⟨o1, o2, o3⟩ := hok
  refine storeSetM_spec (r := { r with has := false, val := [] }) ⟨o1, o2, by simp⟩ hL ?_
  exact s_end h
end
end Go.Proofs.YtfjjocopmknhgaaGreat
/- Plain forms of functions, and that their code comes to them (package ref06). -/
namespace Go.Proofs.YtfjjocopmknhgaaGreat
open Go Go.Sep
set_option linter.unusedVariables false
set_option linter.unusedSimpArgs false
set_option maxRecDepth 100000
set_option maxHeartbeats 4000000
attribute [local irreducible] G Gp Cx Tx Ex Sx Dx Ox Ax Lx Rx Fx Bx Bj Al Do Ld LdN St StN New CallF Ar DoU Rd Rd2 Pu Cd Ite Fv CallV CallY Ans0 Ans1 Ans2 Ans3 Ans4 Ans5 Ext Dead Dr WithS Sv LdS LdNS RdS Rd2S Nn Idx IdxA IdxS Fld Bld Slc SlcS Cat All LoopK RangeF RangeJ TakeD
namespace F_IRRef06
instance at_47 : AT Tryz.prog 47 4 := ⟨by kernel_rfl⟩
instance at_75 : AT Tryz.prog 75 5 := ⟨by kernel_rfl⟩
instance cb_103 : CB Tryz.prog 103 := ⟨by kernel_rfl⟩
instance cb_62 : CB Tryz.prog 62 := ⟨by kernel_rfl⟩
instance cb_66 : CB Tryz.prog 66 := ⟨by kernel_rfl⟩
instance cb_69 : CB Tryz.prog 69 := ⟨by kernel_rfl⟩
instance ct_3 : CT Tryz.prog 3 := ⟨by kernel_rfl⟩
instance ct_35 : CT Tryz.prog 35 := ⟨by kernel_rfl⟩
instance ct_4 : CT Tryz.prog 4 := ⟨by kernel_rfl⟩
instance ct_45 : CT Tryz.prog 45 := ⟨by kernel_rfl⟩
instance ct_60 : CT Tryz.prog 60 := ⟨by kernel_rfl⟩
instance ct_9 : CT Tryz.prog 9 := ⟨by kernel_rfl⟩
instance ft_47_0 : FT Tryz.prog 47 0 0 1 := ⟨by kernel_rfl⟩
instance ft_47_1 : FT Tryz.prog 47 1 1 1 := ⟨by kernel_rfl⟩
instance ft_47_2 : FT Tryz.prog 47 2 2 1 := ⟨by kernel_rfl⟩
instance ft_47_3 : FT Tryz.prog 47 3 3 1 := ⟨by kernel_rfl⟩
instance ft_66_0 : FT Tryz.prog 66 0 0 1 := ⟨by kernel_rfl⟩
instance ft_66_1 : FT Tryz.prog 66 1 1 1 := ⟨by kernel_rfl⟩
instance ft_75_0 : FT Tryz.prog 75 0 0 1 := ⟨by kernel_rfl⟩
instance ft_75_1 : FT Tryz.prog 75 1 1 4 := ⟨by kernel_rfl⟩
instance in_3 : INT Tryz.prog 3 .i64 := ⟨by kernel_rfl⟩
instance in_35 : INT Tryz.prog 35 .u64 := ⟨by kernel_rfl⟩
instance in_5 : INT Tryz.prog 5 .u8 := ⟨by kernel_rfl⟩
instance mx : MX Tryz.prog := ⟨mixed⟩
instance pl_47 : PLT Tryz.prog 47 [(0, 1), (1, 1), (2, 1), (3, 1)] := ⟨_, Tryz.underlying47, by kernel_rfl⟩
instance pl_66 : PLT Tryz.prog 66 [(0, 1), (1, 1)] := ⟨_, Tryz.underlying66, by kernel_rfl⟩
instance pl_75 : PLT Tryz.prog 75 [(0, 1), (1, 4)] := ⟨_, Tryz.underlying75, by kernel_rfl⟩
instance sl_45 : SLT Tryz.prog 45 5 1 := ⟨by kernel_rfl⟩
instance sl_60 : SLT Tryz.prog 60 75 5 := ⟨by kernel_rfl⟩
instance st_9 : STT Tryz.prog 9 := ⟨by kernel_rfl⟩
instance sz_3 : SZ Tryz.prog 3 1 := ⟨by kernel_rfl⟩
instance sz_35 : SZ Tryz.prog 35 1 := ⟨by kernel_rfl⟩
instance sz_47 : SZ Tryz.prog 47 4 := ⟨by kernel_rfl⟩
instance sz_60 : SZ Tryz.prog 60 1 := ⟨by kernel_rfl⟩
instance un_4 : UN Tryz.prog 4 .bool := ⟨Tryz.underlying4⟩
instance zt_47 : ZT Tryz.prog 47 (.agg #[(.bool false), (Sl.val ⟨none, 0, 0⟩), (.int .i64 0), (.int .u64 0)]) := ⟨Tryz.t47, by kernel_rfl, by kernel_rfl⟩
instance zt_5 : ZT Tryz.prog 5 (.int .u8 0) := ⟨Tryz.t5, by kernel_rfl, by kernel_rfl⟩
instance zt_66 : ZT Tryz.prog 66 (.agg #[(.int .i64 0), (Sl.val ⟨none, 0, 0⟩)]) := ⟨Tryz.t66, by kernel_rfl, by kernel_rfl⟩
instance zt_75 : ZT Tryz.prog 75 (.agg #[(.string ⟨#[]⟩), (.bool false), (Sl.val ⟨none, 0, 0⟩), (.int .i64 0), (.int .u64 0)]) := ⟨Tryz.t75, by kernel_rfl, by kernel_rfl⟩
end F_IRRef06
def ref06_Same.s2 (Q : Bool → K) (X1 : Int → K) (a0_2 : Sl) (b1_2 : Sl) (i5_2 : Int) (t41_2 : Bool) : K :=
  Ite t41_2
    (Q false)
    (Ar (IntKind.wrap .i64 (i5_2 + 1)) fun t16 =>
    X1 t16)
def ref06_Same.b1 (Q : Bool → K)  (X1 : Int → K) (a0_1 : Sl) (b1_1 : Sl) (i5_1 : Int) : K :=
  Ite (decide (i5_1 < (a0_1.n : Int)))
    (Dr <|
    Idx a0_1 i5_1 5 fun t19 =>
    Idx b1_1 i5_1 5 fun t24 =>
    Ld t19 Value.string fun t21 =>
    Ld t24 Value.string fun t26 =>
    Ite (!(t21.toList == t26.toList))
      (ref06_Same.s2 Q X1 a0_1 b1_1 i5_1 true)
      (Idx a0_1 i5_1 5 fun t31 =>
      Idx b1_1 i5_1 5 fun t36 =>
      LdN (t31.add 1) 4 fun t33 =>
      LdN (t36.add 1) 4 fun t38 =>
      ref06_SameRecord.call t33 t38 fun t39 =>
      ref06_Same.s2 Q X1 a0_1 b1_1 i5_1 (!t39)))
    (Q true)
def ref06_Same (a0 : Sl) (b1 : Sl) (Q : Bool → K) : K :=
  Ite (decide ((a0.n : Int) ≠ (b1.n : Int)))
    (Q false)
    (LoopK (α := Int) (fun X x => ref06_Same.b1 Q X a0 b1 x) 0)
theorem ref06_Same_ok (a0 : Sl) (b1 : Sl) (Q : Bool → K) (w : World) (h : ref06_Same a0 b1 Q w) : ref06_Same.call a0 b1 Q w := by
  have hJ7 : ∀ (X1 : Int → K), XH 4 X1 → JH 7 fun D => ∃ (a0_2 : Sl) (b1_2 : Sl) (i5_2 : Int), D [(0, (Sl.val a0_2)), (1, (Sl.val b1_2)), (5, (.int .i64 i5_2))] (fun C => ∀ (t41_2 : Bool), C [(0, (Sl.val a0_2)), (1, (Sl.val b1_2)), (5, (.int .i64 i5_2)), (41, (.bool t41_2))] (ref06_Same.s2 Q X1 a0_2 b1_2 i5_2 t41_2)) := by intros; exact ⟨fun _ ⟨_, _, _, h⟩ => ⟨_, _, h⟩⟩
  have hD6 : DH 6 1 [22] (.s [0, 1, 2, 3, 5, 6, 7, 8, 4, 9, 10, 11] (.i (.s [12, 13, 14, 15, 16, 17, 18, 19, 20, 21, 22, 23, 24] .e) (.s [12, 13, 14, 15, 17, 18, 19, 20, 16, 21] (.a [(22, 0, .s [23, 24] .e)])))) := by intros; exact ⟨⟩
  have hL4 : ∀ (a0_1 : Sl) (b1_1 : Sl), LH 4 (fun x : Int => [(0, (Sl.val a0_1)), (1, (Sl.val b1_1)), (5, (.int .i64 x))]) (fun X x => ref06_Same.b1 Q X a0_1 b1_1 x) := by intros; exact ⟨⟩
  exact g_walk 42 h Tryz.func22
def ref06_New (regions0 : Int) (Q : (Option Addr) → K) : K :=
  New 66 #[(.int .i64 regions0), (Sl.val ⟨none, 0, 0⟩)] fun t5 =>
  Q (some t5)
theorem ref06_New_ok (regions0 : Int) (Q : (Option Addr) → K) (w : World) (h : ref06_New regions0 Q w) : ref06_New.call regions0 Q w := by
  exact g_walk 6 h Tryz.func33
def ref06_Store_Move.s1 (Q : Int → K)  (s0_1 : (Option Addr)) (key1_1 : ByteArray) (home2_1 : Int) (t17_1 : Bool) : K :=
  Ite t17_1
    (Q 1)
    (ref06_Store_Get.call s0_1 key1_1 fun t20 =>
    New 47 #[(.bool false), (Sl.val ⟨none, 0, 0⟩), (.int .i64 0), (.int .u64 0)] fun r7 =>
    StN r7 4 t20 <|
    Ld (r7.add 3) (Value.int .u64) fun t22 =>
    Ite (decide (t22 = 18446744073709551615))
      (Q 111)
      (St (r7.add 2) (.int .i64 home2_1) <|
      Ld (r7.add 3) (Value.int .u64) fun t27 =>
      Ar (IntKind.wrap .u64 (t27 + 1)) fun t28 =>
      St (r7.add 3) (.int .u64 t28) <|
      LdN r7 4 fun t32 =>
      ref06_Store_Set.call s0_1 key1_1 t32 <|
      Q 0))
def ref06_Store_Move (s0 : (Option Addr)) (key1 : ByteArray) (home2 : Int) (Q : Int → K) : K :=
  Ite (decide (home2 < 0))
    (ref06_Store_Move.s1 Q s0 key1 home2 true)
    (Nn s0 fun t13 =>
    Ld t13 (Value.int .i64) fun t15 =>
    ref06_Store_Move.s1 Q (some t13) key1 home2 (decide (t15 ≤ home2)))
theorem ref06_Store_Move_ok (s0 : (Option Addr)) (key1 : ByteArray) (home2 : Int) (Q : Int → K) (w : World) (h : ref06_Store_Move s0 key1 home2 Q w) : ref06_Store_Move.call s0 key1 home2 Q w := by
  have hJ2 : JH 2 fun D => ∃ (s0_1 : (Option Addr)) (key1_1 : ByteArray) (home2_1 : Int), D [(0, (.pointer s0_1)), (1, (.string key1_1)), (2, (.int .i64 home2_1))] (fun C => ∀ (t17_1 : Bool), C [(0, (.pointer s0_1)), (1, (.string key1_1)), (2, (.int .i64 home2_1)), (17, (.bool t17_1))] (ref06_Store_Move.s1 Q s0_1 key1_1 home2_1 t17_1)) := by intros; exact ⟨fun _ ⟨_, _, _, h⟩ => ⟨_, _, h⟩⟩
  exact g_walk 34 h Tryz.func49
def ref06_Store_Put (s0 : (Option Addr)) (key1 : ByteArray) (value2 : Sl) (Q : K) : K :=
  ref06_Store_Get.call s0 key1 fun t9 =>
  New 47 #[(.bool false), (Sl.val ⟨none, 0, 0⟩), (.int .i64 0), (.int .u64 0)] fun r6 =>
  StN r6 4 t9 <|
  Dr <| WithS fun S =>
  LdS S (r6.add 2) (Value.int .i64) fun t16 =>
  LdS S (r6.add 3) (Value.int .u64) fun t18 =>
  New 5 #[] fun t12 =>
  Sv S <|
  Do Tryz.prog (Builtin.append_ #[45, 45] 45 #[(Sl.val (Sl.mk (some t12) 0 0)), (Sl.val value2)]) Sl.val fun t14 =>
  Sv S <|
  ref06_Store_Set.call s0 key1 #[(.bool true), (Sl.val t14), (.int .i64 t16), (.int .u64 t18)] <|
  Q
theorem ref06_Store_Put_ok (s0 : (Option Addr)) (key1 : ByteArray) (value2 : Sl) (Q : K) (w : World) (h : ref06_Store_Put s0 key1 value2 Q w) : ref06_Store_Put.call s0 key1 value2 Q w := by
  have hD1 : DH 1 2 [10] (.s [0, 1, 3, 5, 7, 6, 8] (.a [(2, 1, .a [(4, 1, .s [9] (.a [(10, 0, .e)]))])])) := by intros; exact ⟨⟩
  exact g_walk 21 h Tryz.func57
def ref06_SameRecord.s1 (Q : Bool → K)  (t4_1 : Bool) : K :=
  Q t4_1
def ref06_SameRecord (a0 : (Array Value)) (b1 : (Array Value)) (Q : Bool → K) : K :=
  New 47 a0 fun a2 =>
  New 47 b1 fun b3 =>
  Ld a2 Value.bool fun t6 =>
  Ld b3 Value.bool fun t8 =>
  Ite (t6 == t8)
    (Ld (a2.add 1) Sl.val fun t12 =>
    Rd Tryz.prog (convert 45 9 (Sl.val t12)) Value.string fun t13 =>
    Ld (b3.add 1) Sl.val fun t15 =>
    Rd Tryz.prog (convert 45 9 (Sl.val t15)) Value.string fun t16 =>
    Ite (t13.toList == t16.toList)
      (Ld (a2.add 2) (Value.int .i64) fun t21 =>
      Ld (b3.add 2) (Value.int .i64) fun t23 =>
      Ite (decide (t21 = t23))
        (Ld (a2.add 3) (Value.int .u64) fun t28 =>
        Ld (b3.add 3) (Value.int .u64) fun t30 =>
        ref06_SameRecord.s1 Q (decide (t28 = t30)))
        (ref06_SameRecord.s1 Q false))
      (ref06_SameRecord.s1 Q false))
    (ref06_SameRecord.s1 Q false)
theorem ref06_SameRecord_ok (a0 : (Array Value)) (b1 : (Array Value)) (Q : Bool → K) (w : World) (h : ref06_SameRecord a0 b1 Q w) : ref06_SameRecord.call a0 b1 Q w := by
  have hJ1000001 : JH 1000001 fun D => D [] (fun C => ∀ (t4_1 : Bool), C [(4, (.bool t4_1))] (ref06_SameRecord.s1 Q t4_1)) := by intros; exact ⟨fun _ h => ⟨_, _, h⟩⟩
  exact g_walk 33 h Tryz.func62
def ref06_Store_Copy (s0 : (Option Addr)) (Q : (Option Addr) → K) : K :=
  Dr <| WithS fun S =>
  Nn s0 fun t4 =>
  LdS S t4 (Value.int .i64) fun t6 =>
  LdS S (t4.add 1) Sl.val fun t11 =>
  New 75 #[] fun t7 =>
  Sv S <|
  Do Tryz.prog (Builtin.append_ #[60, 60] 60 #[(Sl.val (Sl.mk (some t7) 0 0)), (Sl.val t11)]) Sl.val fun t12 =>
  Sv S <|
  New 66 #[(.int .i64 t6), (Sl.val t12)] fun t14 =>
  Q (some t14)
theorem ref06_Store_Copy_ok (s0 : (Option Addr)) (Q : (Option Addr) → K) (w : World) (h : ref06_Store_Copy s0 Q w) : ref06_Store_Copy.call s0 Q w := by
  have hD1 : DH 1 2 [11] (.s [0, 1, 2, 5, 6, 7, 3, 8] (.a [(4, 1, .a [(9, 1, .s [10] (.a [(11, 0, .s [12] .e)]))])])) := by intros; exact ⟨⟩
  exact g_walk 15 h Tryz.func65
def ref06_Store_Get.b1 (Q : (Array Value) → K)  (X1 : Int → K) (s0_1 : (Option Addr)) (key1_1 : ByteArray) (t4_1 : Addr) (i5_1 : Int) : K :=
  Nn s0_1 fun t8 =>
  Ld (t8.add 1) Sl.val fun t10 =>
  Ite (decide (i5_1 < (t10.n : Int)))
    (Ld (t8.add 1) Sl.val fun t18 =>
    Idx t18 i5_1 5 fun t20 =>
    Ld t20 Value.string fun t22 =>
    Ite (t22.toList == key1_1.toList)
      (Ld (t8.add 1) Sl.val fun t28 =>
      Idx t28 i5_1 5 fun t30 =>
      LdN (t30.add 1) 4 fun t32 =>
      StN t4_1 4 t32 <|
      LdN t4_1 4 fun r0 =>
      Q r0)
      (Ar (IntKind.wrap .i64 (i5_1 + 1)) fun t14 =>
      X1 t14))
    (Ld t8 (Value.int .i64) fun t37 =>
    ref06_Default.call key1_1 t37 fun t38 =>
    StN t4_1 4 #[(.bool false), (Sl.val ⟨none, 0, 0⟩), (.int .i64 t38), (.int .u64 0)] <|
    LdN t4_1 4 fun r0 =>
    Q r0)
def ref06_Store_Get (s0 : (Option Addr)) (key1 : ByteArray) (Q : (Array Value) → K) : K :=
  New 47 #[(.bool false), (Sl.val ⟨none, 0, 0⟩), (.int .i64 0), (.int .u64 0)] fun t4 =>
  LoopK (α := Int) (fun X x => ref06_Store_Get.b1 Q X s0 key1 t4 x) 0
theorem ref06_Store_Get_ok (s0 : (Option Addr)) (key1 : ByteArray) (Q : (Array Value) → K) (w : World) (h : ref06_Store_Get s0 key1 Q w) : ref06_Store_Get.call s0 key1 Q w := by
  have hL2 : ∀ (s0_1 : (Option Addr)) (key1_1 : ByteArray) (t4_1 : Addr), LH 2 (fun x : Int => [(0, (.pointer s0_1)), (1, (.string key1_1)), (4, (.pointer (some t4_1))), (5, (.int .i64 x))]) (fun X x => ref06_Store_Get.b1 Q X s0_1 key1_1 t4_1 x) := by intros; exact ⟨⟩
  exact g_walk 40 h Tryz.func66
def ref06_Store_Set.s3 (Q : K) (X2 : Sl → Bool → Int → K) (s0_3 : Addr) (key1_3 : ByteArray) (r5_3 : Addr) (out6_3 : Sl) (keep7_3 : Bool) (i8_3 : Int) : K :=
  Ar (IntKind.wrap .i64 (i8_3 + 1)) fun t25 =>
  X2 out6_3 keep7_3 t25
def ref06_Store_Set.s4 (Q : K) (X2 : Sl → Bool → Int → K) (s0_4 : Addr) (key1_4 : ByteArray) (r5_4 : Addr) (out6_4 : Sl) (keep7_4 : Bool) (i8_4 : Int) : K :=
  Ld (s0_4.add 1) Sl.val fun t48 =>
  Idx t48 i8_4 5 fun t50 =>
  Ld t50 Value.string fun t52 =>
  Ite (!(t52.toList == key1_4.toList))
    (Ld (s0_4.add 1) Sl.val fun t59 =>
    Idx t59 i8_4 5 fun t61 =>
    LdN t61 5 fun t62 =>
    Bld #[(.string ⟨#[]⟩), (.bool false), (Sl.val ⟨none, 0, 0⟩), (.int .i64 0), (.int .u64 0)] (fun i => some (i * 5, 5)) [(0, (.agg t62))] fun ct63 =>
    New 75 ct63 fun t63 =>
    Do Tryz.prog (Builtin.append_ #[60, 60] 60 #[(Sl.val out6_4), (Sl.val (Sl.mk (some t63) 1 1))]) Sl.val fun t64 =>
    ref06_Store_Set.s3 Q X2 s0_4 key1_4 r5_4 t64 keep7_4 i8_4)
    (ref06_Store_Set.s3 Q X2 s0_4 key1_4 r5_4 out6_4 keep7_4 i8_4)
def ref06_Store_Set.s5 (Q : K) (X2 : Sl → Bool → Int → K) (s0_5 : Addr) (key1_5 : ByteArray) (r5_5 : Addr) (out6_5 : Sl) (keep7_5 : Bool) (i8_5 : Int) (t38_5 : Bool) : K :=
  Ite t38_5
    (LdN r5_5 4 fun t41 =>
    Bld #[(.string ⟨#[]⟩), (.bool false), (Sl.val ⟨none, 0, 0⟩), (.int .i64 0), (.int .u64 0)] ([(0, 1), (1, 4)][·]?) [(0, (.string key1_5)), (1, (.agg t41))] fun t42 =>
    Bld #[(.string ⟨#[]⟩), (.bool false), (Sl.val ⟨none, 0, 0⟩), (.int .i64 0), (.int .u64 0)] (fun i => some (i * 5, 5)) [(0, (.agg t42))] fun ct43 =>
    New 75 ct43 fun t43 =>
    Do Tryz.prog (Builtin.append_ #[60, 60] 60 #[(Sl.val out6_5), (Sl.val (Sl.mk (some t43) 1 1))]) Sl.val fun t44 =>
    ref06_Store_Set.s4 Q X2 s0_5 key1_5 r5_5 t44 false i8_5)
    (ref06_Store_Set.s4 Q X2 s0_5 key1_5 r5_5 out6_5 keep7_5 i8_5)
def ref06_Store_Set.s6 (Q : K) (X2 : Sl → Bool → Int → K) (s0_6 : Addr) (out6_6 : Sl) : K :=
  St (s0_6.add 1) (Sl.val out6_6) <|
  Q
def ref06_Store_Set.b2 (Q : K)  (X2 : Sl → Bool → Int → K) (s0_2 : (Option Addr)) (key1_2 : ByteArray) (r5_2 : Addr) (out6_2 : Sl) (keep7_2 : Bool) (i8_2 : Int) : K :=
  Nn s0_2 fun t19 =>
  Ld (t19.add 1) Sl.val fun t21 =>
  Ite (decide (i8_2 < (t21.n : Int)))
    (Ite keep7_2
      (Ld (t19.add 1) Sl.val fun t31 =>
      Idx t31 i8_2 5 fun t33 =>
      Ld t33 Value.string fun t35 =>
      ref06_Store_Set.s5 Q X2 t19 key1_2 r5_2 out6_2 true i8_2 (!(Op.bytesLess t35.toList key1_2.toList || t35.toList == key1_2.toList)))
      (ref06_Store_Set.s5 Q X2 t19 key1_2 r5_2 out6_2 false i8_2 false))
    (Ite keep7_2
      (LdN r5_2 4 fun t68 =>
      Bld #[(.string ⟨#[]⟩), (.bool false), (Sl.val ⟨none, 0, 0⟩), (.int .i64 0), (.int .u64 0)] ([(0, 1), (1, 4)][·]?) [(0, (.string key1_2)), (1, (.agg t68))] fun t69 =>
      Bld #[(.string ⟨#[]⟩), (.bool false), (Sl.val ⟨none, 0, 0⟩), (.int .i64 0), (.int .u64 0)] (fun i => some (i * 5, 5)) [(0, (.agg t69))] fun ct70 =>
      New 75 ct70 fun t70 =>
      Do Tryz.prog (Builtin.append_ #[60, 60] 60 #[(Sl.val out6_2), (Sl.val (Sl.mk (some t70) 1 1))]) Sl.val fun t71 =>
      ref06_Store_Set.s6 Q X2 t19 t71)
      (ref06_Store_Set.s6 Q X2 t19 out6_2))
def ref06_Store_Set.s1 (Q : K)  (s0_1 : (Option Addr)) (key1_1 : ByteArray) (r5_1 : Addr) (out6_1 : Sl) (keep7_1 : Bool) : K :=
  LoopK (α := Sl × Bool × Int) (fun X x => ref06_Store_Set.b2 Q (fun out6_2 keep7_2 i8_2 => X (out6_2, keep7_2, i8_2)) s0_1 key1_1 r5_1 x.1 x.2.1 x.2.2) (out6_1, keep7_1, 0)
def ref06_Store_Set (s0 : (Option Addr)) (key1 : ByteArray) (r2 : (Array Value)) (Q : K) : K :=
  New 47 r2 fun r5 =>
  Dr <| WithS fun S =>
  LdS S r5 Value.bool fun t11 =>
  Ite t11
    (New 75 #[] fun t9 =>
    Sv S <|
    ref06_Store_Set.s1 Q s0 key1 r5 (Sl.mk (some t9) 0 0) true)
    (LdS S (r5.add 3) (Value.int .u64) fun t14 =>
    New 75 #[] fun t9 =>
    Sv S <|
    ref06_Store_Set.s1 Q s0 key1 r5 (Sl.mk (some t9) 0 0) (decide ((0 : Int) < t14)))
theorem ref06_Store_Set_ok (s0 : (Option Addr)) (key1 : ByteArray) (r2 : (Array Value)) (Q : K) (w : World) (h : ref06_Store_Set s0 key1 r2 Q w) : ref06_Store_Set.call s0 key1 r2 Q w := by
  have hJ4 : ∀ (X2 : (Sl × Bool × Int) → K), XH 3 X2 → JH 4 fun D => ∃ (s0_3 : Addr) (key1_3 : ByteArray) (r5_3 : Addr) (i8_3 : Int), D [(0, (.pointer (some s0_3))), (1, (.string key1_3)), (5, (.pointer (some r5_3))), (8, (.int .i64 i8_3))] (fun C => ∀ (out6_3 : Sl) (keep7_3 : Bool), C [(0, (.pointer (some s0_3))), (1, (.string key1_3)), (5, (.pointer (some r5_3))), (6, (Sl.val out6_3)), (7, (.bool keep7_3)), (8, (.int .i64 i8_3))] (ref06_Store_Set.s3 Q (fun out6_2 keep7_2 i8_2 => X2 (out6_2, keep7_2, i8_2)) s0_3 key1_3 r5_3 out6_3 keep7_3 i8_3)) := by intros; exact ⟨fun _ ⟨_, _, _, _, h⟩ => ⟨_, _, h⟩⟩
  have hJ8 : ∀ (X2 : (Sl × Bool × Int) → K), XH 3 X2 → JH 8 fun D => ∃ (s0_4 : Addr) (key1_4 : ByteArray) (r5_4 : Addr) (i8_4 : Int), D [(0, (.pointer (some s0_4))), (1, (.string key1_4)), (5, (.pointer (some r5_4))), (8, (.int .i64 i8_4))] (fun C => ∀ (out6_4 : Sl) (keep7_4 : Bool), C [(0, (.pointer (some s0_4))), (1, (.string key1_4)), (5, (.pointer (some r5_4))), (6, (Sl.val out6_4)), (7, (.bool keep7_4)), (8, (.int .i64 i8_4))] (ref06_Store_Set.s4 Q (fun out6_2 keep7_2 i8_2 => X2 (out6_2, keep7_2, i8_2)) s0_4 key1_4 r5_4 out6_4 keep7_4 i8_4)) := by intros; exact ⟨fun _ ⟨_, _, _, _, h⟩ => ⟨_, _, h⟩⟩
  have hJ6 : ∀ (X2 : (Sl × Bool × Int) → K), XH 3 X2 → JH 6 fun D => ∃ (s0_5 : Addr) (key1_5 : ByteArray) (r5_5 : Addr) (out6_5 : Sl) (i8_5 : Int), D [(0, (.pointer (some s0_5))), (1, (.string key1_5)), (5, (.pointer (some r5_5))), (6, (Sl.val out6_5)), (8, (.int .i64 i8_5))] (fun C => ∀ (keep7_5 : Bool) (t38_5 : Bool), C [(0, (.pointer (some s0_5))), (1, (.string key1_5)), (5, (.pointer (some r5_5))), (6, (Sl.val out6_5)), (7, (.bool keep7_5)), (8, (.int .i64 i8_5)), (38, (.bool t38_5))] (ref06_Store_Set.s5 Q (fun out6_2 keep7_2 i8_2 => X2 (out6_2, keep7_2, i8_2)) s0_5 key1_5 r5_5 out6_5 keep7_5 i8_5 t38_5)) := by intros; exact ⟨fun _ ⟨_, _, _, _, _, h⟩ => ⟨_, _, h⟩⟩
  have hJ12 : ∀ (X2 : (Sl × Bool × Int) → K), XH 3 X2 → JH 12 fun D => ∃ (s0_6 : Addr), D [(0, (.pointer (some s0_6)))] (fun C => ∀ (out6_6 : Sl), C [(0, (.pointer (some s0_6))), (6, (Sl.val out6_6))] (ref06_Store_Set.s6 Q (fun out6_2 keep7_2 i8_2 => X2 (out6_2, keep7_2, i8_2)) s0_6 out6_6)) := by intros; exact ⟨fun _ ⟨_, h⟩ => ⟨_, _, h⟩⟩
  have hL3 : ∀ (s0_2 : (Option Addr)) (key1_2 : ByteArray) (r5_2 : Addr), LH 3 (fun x : Sl × Bool × Int => [(0, (.pointer s0_2)), (1, (.string key1_2)), (5, (.pointer (some r5_2))), (6, (Sl.val x.1)), (7, (.bool x.2.1)), (8, (.int .i64 x.2.2))]) (fun X x => ref06_Store_Set.b2 Q (fun out6_2 keep7_2 i8_2 => X (out6_2, keep7_2, i8_2)) s0_2 key1_2 r5_2 x.1 x.2.1 x.2.2) := by intros; exact ⟨⟩
  have hJ2 : JH 2 fun D => ∃ (s0_1 : (Option Addr)) (key1_1 : ByteArray) (r5_1 : Addr), D [(0, (.pointer s0_1)), (1, (.string key1_1)), (5, (.pointer (some r5_1)))] (fun C => ∀ (out6_1 : Sl) (keep7_1 : Bool), C [(0, (.pointer s0_1)), (1, (.string key1_1)), (5, (.pointer (some r5_1))), (6, (Sl.val out6_1)), (7, (.bool keep7_1))] (ref06_Store_Set.s1 Q s0_1 key1_1 r5_1 out6_1 keep7_1)) := by intros; exact ⟨fun _ ⟨_, _, _, h⟩ => ⟨_, _, h⟩⟩
  have hD1 : DH 1 2 [] (.s [1, 2, 3] (.i (.s [4, 5, 6, 7] (.a [(0, 1, .s [8, 9] .e)])) (.s [4, 5, 6, 7] (.a [(0, 1, .s [8, 9] .e)])))) := by intros; exact ⟨⟩
  exact g_walk 76 h Tryz.func69
def ref06_Default.b1 (Q : Int → K)  (X1 : Int → Int → K) (key0_1 : ByteArray) (regions1_1 : Int) (sum5_1 : Int) (i6_1 : Int) : K :=
  Ite (decide (i6_1 < (key0_1.size : Int)))
    (IdxS key0_1 i6_1 fun t18 =>
    Ar (IntKind.wrap .u64 t18) fun t19 =>
    Ar (IntKind.wrap .u64 (sum5_1 + t19)) fun t20 =>
    Ar (IntKind.wrap .i64 (i6_1 + 1)) fun t14 =>
    X1 t20 t14)
    (Ar (IntKind.wrap .u64 regions1_1) fun t23 =>
    Cd (t23 ≠ 0) <|
    Ar (Int.tmod sum5_1 t23) fun t24 =>
    Ar (IntKind.wrap .i64 t24) fun t25 =>
    Q t25)
def ref06_Default (key0 : ByteArray) (regions1 : Int) (Q : Int → K) : K :=
  Ite (decide (regions1 < 1))
    (Q 0)
    (LoopK (α := Int × Int) (fun X x => ref06_Default.b1 Q (fun sum5_1 i6_1 => X (sum5_1, i6_1)) key0 regions1 x.1 x.2) (0, 0))
theorem ref06_Default_ok (key0 : ByteArray) (regions1 : Int) (Q : Int → K) (w : World) (h : ref06_Default key0 regions1 Q w) : ref06_Default.call key0 regions1 Q w := by
  have hL5 : ∀ (key0_1 : ByteArray) (regions1_1 : Int), LH 5 (fun x : Int × Int => [(0, (.string key0_1)), (1, (.int .i64 regions1_1)), (5, (.int .u64 x.1)), (6, (.int .i64 x.2))]) (fun X x => ref06_Default.b1 Q (fun sum5_1 i6_1 => X (sum5_1, i6_1)) key0_1 regions1_1 x.1 x.2) := by intros; exact ⟨⟩
  exact g_walk 26 h Tryz.func103
def ref06_Store_Delete (s0 : (Option Addr)) (key1 : ByteArray) (Q : K) : K :=
  ref06_Store_Get.call s0 key1 fun t7 =>
  New 47 #[(.bool false), (Sl.val ⟨none, 0, 0⟩), (.int .i64 0), (.int .u64 0)] fun r4 =>
  StN r4 4 t7 <|
  Ld (r4.add 2) (Value.int .i64) fun t11 =>
  Ld (r4.add 3) (Value.int .u64) fun t13 =>
  ref06_Store_Set.call s0 key1 #[(.bool false), (Sl.val ⟨none, 0, 0⟩), (.int .i64 t11), (.int .u64 t13)] <|
  Q
theorem ref06_Store_Delete_ok (s0 : (Option Addr)) (key1 : ByteArray) (Q : K) (w : World) (h : ref06_Store_Delete s0 key1 Q w) : ref06_Store_Delete.call s0 key1 Q w := by
  exact g_walk 16 h Tryz.func104
end Go.Proofs.YtfjjocopmknhgaaGreat
/- The document's store. -/
namespace Go.Proofs.YtfjjocopmknhgaaGreat
open Go Go.Sep Go.Sep.Bt
set_option linter.unusedSimpArgs false
set_option linter.unusedVariables false
set_option maxRecDepth 100000

abbrev rowF6 (x : RecX) : List Value := [.string x.1, .bool x.2.1.has, x.2.2.val, .int .i64 x.2.1.home, .int .u64 x.2.1.cnt]
theorem rowF6_len (x : RecX) : (rowF6 x).length = 5 := rfl
theorem rowF6_fl (L : List RecX) : ∀ v ∈ L.flatMap rowF6, flatV v = true := fun v hv => by
  obtain ⟨x, _, hx⟩ := List.mem_flatMap.1 hv
  simp only [rowF6, List.mem_cons, List.not_mem_nil, or_false] at hx
  rcases hx with rfl | rfl | rfl | rfl | rfl <;> rfl
/-- Values that are never written. -/
abbrev Pool := List (Sl × List UInt8)
abbrev poolR (P : Pool) : HProp := Sep.stars (P.map fun p => Bytes ty_uint8 p.1 p.2)
def inP (P : Pool) (s : Sl) (xs : List UInt8) : Prop := (xs = [] ∧ s.n = 0) ∨ (s, xs) ∈ P
theorem inP.mono {P P' : Pool} {s : Sl} {xs : List UInt8} (h : inP P s xs) (hP : ∀ x ∈ P, x ∈ P') : inP P' s xs := h.imp id (hP _)
theorem rd_empty {w : World} {s : Sl} (h : s.n = 0) : RdB w s [] := ⟨by simp [h], fun _ => h, fun a _ i hi => by simp at hi⟩
theorem stars_mem' {B w : World} {Γ : List HProp} {α : Type} {F : α → HProp} {l : List α} {x : α} (hx : x ∈ l) (h : Holds B (Sep.stars (l.map F) :: Γ) w) : ∃ Δ, Holds B (F x :: Δ) w := by
  obtain ⟨A, C, rfl⟩ := List.append_of_mem hx
  exact ⟨_, ((Holds.flat.1 h).perm mid_perm).perm List.perm_middle⟩
theorem inP.rd {B w : World} {Γ : List HProp} {P : Pool} {s : Sl} {xs : List UInt8} (h : inP P s xs) (hw : Holds B (poolR P :: Γ) w) : RdB w s xs := by
  rcases h with ⟨rfl, h⟩ | h
  · exact rd_empty h
  · obtain ⟨Δ, h2⟩ := stars_mem' h hw
    exact h2.rdC List.mem_cons_self
theorem homeOf_sum (l : List UInt8) {n : Nat} (hn : 1 ≤ n) : homeOf l n = l.foldl (fun s b => s + b.toNat) 0 % n := by
  unfold homeOf
  have key : ∀ (l : List UInt8) (a b : Nat), a = b % n → l.foldl (fun s b => (s + b.toNat) % n) a = l.foldl (fun s b => s + b.toNat) b % n := by
    intro l
    induction l with
    | nil => intro a b h; exact h
    | cons x l ih => intro a b h; exact ih _ _ (by show (a + x.toNat) % n = (b + x.toNat) % n; rw [h, Nat.mod_add_mod])
  exact key l 0 0 (by simp)
theorem sum_le (l : List UInt8) (a : Nat) : l.foldl (fun s b => s + b.toNat) a ≤ a + 255 * l.length := by
  induction l generalizing a with
  | nil => simp
  | cons x l ih =>
    have h1 := ih (a + x.toNat)
    have h2 : x.toNat < 256 := x.toNat_lt
    simp only [List.foldl_cons, List.length_cons]; omega
/-! ### rows, a key set -/
def set6 {ν : Type} (k : ByteArray) (r : ν) : Bool → List (ByteArray × ν) → List (ByteArray × ν)
  | keep, [] => if keep then [(k, r)] else []
  | keep, x :: M => (if keep && decide (0 < cmpS x.1 k) then [(k, r)] else []) ++ (if x.1 = k then [] else [x]) ++ set6 k r (keep && !decide (0 < cmpS x.1 k)) M
theorem set6_map {k : ByteArray} {r : Rec} {s : Sl} : ∀ (keep : Bool) (X : List RecX), (set6 k (r, s) keep X).map recM = set6 k r keep (X.map recM)
  | keep, [] => by cases keep <;> rfl
  | keep, x :: X => by
    rw [set6, List.map_cons, set6, List.map_append, List.map_append, set6_map]
    congr 1
    congr 1
    · split <;> rfl
    · by_cases h : x.1 = k <;> simp [h]
theorem set6_none {k : ByteArray} {r : Rec} : ∀ {M : Recs}, set6 k r false M = delM M k
  | [] => rfl
  | x :: M => by
    rw [set6, Bool.false_and, Bool.false_and, set6_none]
    unfold delM
    by_cases h : x.1 = k
    · simp [h]
    · simp [h]
theorem set6_some {k : ByteArray} {r : Rec} : ∀ {M : Recs}, Srt cmpS M → set6 k r true M = putM M k r
  | [], _ => rfl
  | x :: M, hs => by
    have hs2 := List.pairwise_cons.1 hs
    rw [set6, putM]
    simp only [Bool.true_and]
    by_cases h1 : cmpS x.1 k < 0
    · have h2 : ¬ 0 < cmpS x.1 k := by omega
      have h3 : x.1 ≠ k := ne_of_lt h1
      rw [if_pos h1]
      simp only [h2, decide_false, Bool.false_eq_true, if_false, h3, List.nil_append, Bool.not_false]
      rw [set6_some hs2.2]; rfl
    · rw [if_neg h1]
      by_cases h3 : x.1 = k
      · have h2 : ¬ 0 < cmpS x.1 k := by rw [cmpS_zero.2 h3]; omega
        have h2' : ¬ 0 < cmpS k k := by rw [cmpS_zero.2 rfl]; omega
        rw [if_pos h3]
        simp only [h2, h2', decide_false, Bool.false_eq_true, if_false, h3, if_true, List.nil_append, Bool.not_false]
        cases M with
        | nil => rfl
        | cons y M =>
          have hy : 0 < cmpS y.1 k := by rw [← btS_ok.sw, ← h3]; exact hs2.1 y List.mem_cons_self
          have hyk : y.1 ≠ k := fun e => by rw [cmpS_zero.2 e] at hy; omega
          rw [set6]
          simp only [hy, decide_true, Bool.and_true, if_true, hyk, if_false, Bool.not_true, Bool.and_false]
          rw [set6_none, delM_none fun z hz => by
            have h5 : cmpS x.1 z.1 < 0 := hs2.1 z (List.mem_cons_of_mem _ hz)
            rw [h3] at h5; exact Ne.symm (ne_of_lt h5)]
          rfl
      · have h2 : 0 < cmpS x.1 k := by
          rcases Int.lt_trichotomy (cmpS x.1 k) 0 with h | h | h
          · exact absurd h h1
          · exact absurd (cmpS_zero.1 h) h3
          · exact h
        rw [if_neg h3]
        simp only [h2, decide_true, if_true, h3, if_false, Bool.not_true]
        rw [set6_none, delM_none fun z hz => by
          have h5 : cmpS x.1 z.1 < 0 := hs2.1 z hz
          have h6 : cmpS k x.1 < 0 := btS_ok.sw.2 h2
          exact Ne.symm (ne_of_lt (btS_ok.tr h6 h5))]
        rfl
theorem putM_srt {M : Recs} {k : ByteArray} {r : Rec} (hs : Srt cmpS M) : Srt cmpS (putM M k r) := by
  induction M with
  | nil => exact List.pairwise_singleton _ _
  | cons x M ih =>
    have hs2 := List.pairwise_cons.1 hs
    unfold putM
    split
    · rename_i h1
      refine List.pairwise_cons.2 ⟨fun y hy => ?_, ih hs2.2⟩
      rcases putM_mem hy with rfl | hy
      · exact h1
      · exact hs2.1 y hy
    · split
      · rename_i h1 h3
        exact List.pairwise_cons.2 ⟨fun y hy => by rw [← h3]; exact hs2.1 y hy, hs2.2⟩
      · rename_i h1 h3
        have h2 : cmpS k x.1 < 0 := by
          rw [btS_ok.sw]
          rcases Int.lt_trichotomy (cmpS x.1 k) 0 with h | h | h
          · exact absurd h h1
          · exact absurd (cmpS_zero.1 h) h3
          · exact h
        refine List.pairwise_cons.2 ⟨fun y hy => ?_, hs⟩
        rcases List.mem_cons.1 hy with rfl | hy
        · exact h2
        · exact btS_ok.tr h2 (hs2.1 y hy)
theorem setM_srt {M : Recs} {k : ByteArray} {r : Rec} (hs : Srt cmpS M) : Srt cmpS (setM M k r) := by
  unfold setM
  split
  · exact List.Pairwise.sublist List.filter_sublist hs
  · exact putM_srt hs

/-- The document's store. -/
structure R6 (n : Nat) (M : Recs) (P : Pool) (X : List RecX) : Prop where
  mod : M = X.map recM
  ok : ∀ x ∈ X, x.2.1.ok ∧ inP P x.2.2 x.2.1.val
  n1 : 1 ≤ n
  n3 : n ≤ 3
  srt : Srt cmpS M
abbrev ref6L (st n : Nat) (rs : Sl) (X : List RecX) (Γ : List HProp) : List HProp := blk st (.cells [.int .i64 n, rs.val].toArray ty_argosyref06_Store (0, 0)) :: SlC ty_api_Row 5 rs (X.flatMap rowF6) :: Γ
def Ref6 (st n : Nat) (M : Recs) (P : Pool) : HProp := ex fun rs => ex fun X : List RecX => Sep.stars (pur (R6 n M P X) :: ref6L st n rs X [])
section
variable {B : World} {Γ Δ : List HProp} {k : K} {st n : Nat} {M : Recs} {P : Pool}
instance (priority := high) own_ref6 : Sep.Own st (Ref6 st n M P :: Γ) (Ref6 st n M P) Γ := ⟨.refl _⟩
theorem s_ref6 (h : ∀ rs X, R6 n M P X → HG B (ref6L st n rs X Γ) k) : HG B (Ref6 st n M P :: Γ) k :=
  s_ex fun rs => s_ex fun X => s_flat <| s_pur fun h1 => h rs X h1
theorem s_mkRef6 {rs : Sl} {X : List RecX} (h1 : R6 n M P X) (h : HG B (Ref6 st n M P :: Γ) k) : HG B (ref6L st n rs X Γ) k := fun w hw => by
  refine h w ?_
  have h3 : Holds B (Sep.stars (pur (R6 n M P X) :: ref6L st n rs X []) :: Γ) w := Holds.flat.2 (Holds.pur.2 ⟨h1, hw⟩)
  exact h3.imp fun g hg => ⟨rs, X, hg⟩
theorem s_ref6P {P' : Pool} (hP : ∀ x ∈ P, x ∈ P') (h : HG B (Ref6 st n M P' :: Γ) k) : HG B (Ref6 st n M P :: Γ) k :=
  s_ref6 fun rs X h1 => s_mkRef6 ⟨h1.mod, fun x hx => ⟨(h1.ok x hx).1, (h1.ok x hx).2.mono hP⟩, h1.n1, h1.n3, h1.srt⟩ h
theorem new6_hg {Q : Option Addr → K} (h1 : 1 ≤ n) (h3 : n ≤ 3) (h : ∀ st, HG B (Ref6 st n [] P :: Γ) (Q (some ⟨st, 0, none⟩))) : HG B Γ (ref06_New.call (n : Int) Q) := by
  refine fun w hw => ref06_New_ok _ _ _ ?_
  refine hg hw ?_
  clear hw w
  unfold ref06_New
  refine s_new fun st => ?_
  refine fun w hw => ?_
  refine Sep.hg (show Holds B (SlC ty_api_Row 5 ⟨none, 0, 0⟩ (([] : List RecX).flatMap rowF6) :: _) w from hw.nilSl _ _) ?_
  clear hw w
  refine s_swap ?_
  exact s_mkRef6 ⟨rfl, by simp, h1, h3, List.Pairwise.nil⟩ (h st)
theorem default6_hg {k : ByteArray} {Q : Int → K} (h1 : 1 ≤ n) (hn : n ≤ 1000) (hk : k.size < 1000000000000) (h : HG B Γ (Q (homeOf k.toList n : Nat))) : HG B Γ (ref06_Default.call k (n : Int) Q) := by
  refine fun w hw => ref06_Default_ok _ _ _ _ ?_
  refine hg hw ?_
  clear hw w
  unfold ref06_Default
  refine s_f ?_
  obtain ⟨l, rfl⟩ := bs_of k
  rw [bs_list] at h
  have hsz : (bs l).size = l.length := rfl
  refine s_loopC (fun x : Int × Int => ∃ i s : Nat, x = ((s : Int), (i : Int)) ∧ i ≤ l.length ∧ s = (l.take i).foldl (fun s b => s + b.toNat) 0) (fun x => l.length - x.2.toNat) ⟨0, 0, rfl, Nat.zero_le _, rfl⟩ fun k' x hx hk' => ?_
  obtain ⟨i, s, rfl, hi, hs⟩ := hx
  have hsl := sum_le (l.take i) 0
  rw [← hs, List.length_take] at hsl
  unfold ref06_Default.b1
  dsimp only
  refine s_ite (fun hb => ?_) fun hb => ?_
  · have hil : i < l.length := by simp only [decide_eq_true_eq] at hb; omega
    have hb8 : l[i].toNat < 256 := l[i].toNat_lt
    refine fun w hw => ⟨(l[i].toNat : Int), l[i], by omega, ?_, rfl, Sep.hg hw ?_⟩
    · show (bs l)[((i : Nat) : Int).toNat]? = _
      rw [Int.toNat_natCast]
      exact Array.getElem?_eq_getElem (xs := l.toArray) (by simpa using hil)
    refine s_ar (e' := (l[i].toNat : Int)) (by rw [wrapU64 (by omega) (by omega)]) ?_
    refine s_ar (e' := ((s + l[i].toNat : Nat) : Int)) (by rw [wrapU64 (by omega) (by omega)]; omega) ?_
    refine s_ai ?_
    refine hk' _ ⟨i + 1, s + l[i].toNat, by simp, hil, ?_⟩ (by simp only; omega)
    rw [hs, List.take_succ_eq_append_getElem hil, List.foldl_append]; rfl
  · have hil : i = l.length := by simp only [decide_eq_false_iff_not] at hb; omega
    rw [hil, List.take_length] at hs
    refine s_ar (e' := (n : Int)) (by rw [wrapU64 (by omega) (by omega)]) ?_
    refine s_cd (by omega) ?_
    have hm : s % n < n := Nat.mod_lt _ (by omega)
    refine s_ar (e' := ((s % n : Nat) : Int)) (by rw [Int.tmod_eq_emod_of_nonneg (by omega)]; simp) ?_
    refine s_ai ?_
    rw [homeOf_sum l h1, ← hs] at h
    exact h
theorem get6_hg {k : ByteArray} {Q : Array Value → K} (hk : k.size < 1000000000000) (hL : M.length < 100000000) (h : ∀ s, (sGet n M k).ok → inP P s (sGet n M k).val → HG B (Ref6 st n M P :: Γ) (Q (recA (sGet n M k) s))) : HG B (Ref6 st n M P :: Γ) (ref06_Store_Get.call (some ⟨st, 0, none⟩) k Q) := by
  refine fun w hw => ref06_Store_Get_ok _ _ _ _ ?_
  refine hg hw ?_
  clear hw w
  refine s_ref6 fun rs X hf => ?_
  have hXl : X.length = M.length := by rw [hf.mod]; simp
  unfold ref06_Store_Get
  refine s_new fun t4 => ?_
  refine s_cap rs fun a1 a2 a3 a4 => ?_
  rw [flatMap_len _ 5 rowF6_len] at a1
  refine s_loopC (α := Int) (fun x => ∃ i : Nat, x = (i : Int) ∧ i ≤ X.length ∧ ∀ y ∈ X.take i, y.1 ≠ k) (fun x => X.length - x.toNat) ⟨0, rfl, Nat.zero_le _, by simp⟩ fun k' x hx hk' => ?_
  obtain ⟨i, rfl, hi, hno⟩ := hx
  unfold ref06_Store_Get.b1
  repeat refine s_nx ?_
  refine s_ite (fun hb => ?_) fun hb => ?_
  · have hil : i < X.length := by simp only [decide_eq_true_eq] at hb; omega
    have hge : X[i]? = some X[i] := List.getElem?_eq_getElem hil
    have hmem : X[i] ∈ X := List.getElem_mem hil
    have htk : X.take (i + 1) = X.take i ++ [X[i]] := List.take_succ_eq_append_getElem hil
    have hdr := List.drop_eq_getElem_cons hil
    generalize X[i] = x at hge hmem htk hdr
    repeat refine s_nx ?_
    refine s_idxF0 rowF6 (c := Value.string) (v := x.1) rowF6_len (fun w hw => (own_rd (s := rs) hw).1) hge rfl ?_
    refine s_ite (fun hc => ?_) fun hc => ?_
    · have hxk : x.1 = k := by rwa [str_inj] at hc
      have hr : sGet n M k = x.2.1 := by
        unfold sGet
        have : getM M k = some x.2.1 := by
          rw [hf.mod, ← List.take_append_drop i X, hdr, List.map_append, List.map_cons]
          rw [show recM x = (k, x.2.1) by rw [← hxk]]
          exact getM_mid fun y hy => by
            obtain ⟨z, hz, rfl⟩ := List.mem_map.1 hy
            exact hno z hz
        rw [this]; rfl
      rw [hr] at h
      repeat refine s_nx ?_
      refine s_idx (s := rs) (i := i) ?_
      refine s_ldEN (s := rs) (off := 1) (l' := recL x.2.1 x.2.2) ?_ rfl ?_
      · have := flatMap_el rowF6_len hge
        have e : ((X.flatMap rowF6).drop (i * 5 + 1)).take 4 = (((X.flatMap rowF6).drop (i * 5)).take 5).drop 1 := by rw [← List.drop_drop, List.drop_take]
        rw [e, this]; rfl
      repeat refine s_nx ?_
      refine s_ownS rs ?_
      refine s_own st ?_
      exact s_mkRef6 hf (s_end (h _ (hf.ok x hmem).1 (hf.ok x hmem).2))
    · have hxk : x.1 ≠ k := fun e => by rw [e, str_inj.2 rfl] at hc; cases hc
      refine s_ai ?_
      refine hk' _ ⟨i + 1, by simp, hil, fun y hy => ?_⟩ (by omega)
      rw [htk] at hy
      rcases List.mem_append.1 hy with hy | hy
      · exact hno y hy
      · rw [List.mem_singleton.1 hy]; exact hxk
  · have hil : i = X.length := by simp only [decide_eq_false_iff_not] at hb; omega
    rw [hil, List.take_length] at hno
    have hr : sGet n M k = ⟨false, [], homeOf k.toList n, 0⟩ := by
      unfold sGet
      rw [hf.mod, getM_none fun y hy => by
        obtain ⟨z, hz, rfl⟩ := List.mem_map.1 hy
        exact hno z hz]
      rfl
    rw [hr] at h
    repeat refine s_nx ?_
    refine default6_hg hf.n1 (by have := hf.n3; omega) hk ?_
    refine s_stN (b := t4) (l' := recL ⟨false, [], homeOf k.toList n, 0⟩ ⟨none, 0, 0⟩) ?_
    repeat refine s_nx ?_
    refine s_ownS rs ?_
    refine s_own st ?_
    exact s_mkRef6 hf (s_end (h ⟨none, 0, 0⟩ ⟨by simp, by simp, by simp⟩ (.inl ⟨rfl, rfl⟩)))
theorem set6_hg {k : ByteArray} {r : Rec} {s : Sl} {Q : K} (hr : r.ok) (hv : inP P s r.val) (hL : M.length < 10000000) (h : HG B (Ref6 st n (setM M k r) P :: Γ) Q) : HG B (Ref6 st n M P :: Γ) (ref06_Store_Set.call (some ⟨st, 0, none⟩) k (recA r s) Q) := by
  refine fun w hw => ref06_Store_Set_ok _ _ _ _ _ ?_
  refine hg hw ?_
  clear hw w
  refine s_ref6 fun rs X hf => ?_
  have hXl : X.length = M.length := by rw [hf.mod]; simp
  refine s_cap rs fun a1 a2 a3 a4 => ?_
  rw [flatMap_len _ 5 rowF6_len] at a1
  unfold ref06_Store_Set
  refine s_new fun r5 => ?_
  -- the rows, anew
  have rows : ∀ (t9 : Nat) (keep : Bool), (keep = true ↔ ¬ (r.has = false ∧ r.cnt = 0)) → HG B (blk t9 (.cells ([] : List Value).toArray ty_api_Row (0, 0)) :: blk r5 (.cells (recL r s).toArray ty_api_Record (0, 0)) :: ref6L st n rs X Γ) (ref06_Store_Set.s1 Q (some ⟨st, 0, none⟩) k ⟨r5, 0, none⟩ (Sl.mk (some ⟨t9, 0, none⟩) 0 0) keep) := fun t9 keep hkp => by
    have hset : set6 k r keep M = setM M k r := by
      unfold setM
      by_cases hk : r.has = false ∧ r.cnt = 0
      · have : keep = false := by cases hc : keep with
          | false => rfl
          | true => exact absurd hk (hkp.1 hc)
        rw [if_pos hk, this, set6_none]
      · rw [if_neg hk, hkp.2 hk, set6_some hf.srt]
    unfold ref06_Store_Set.s1
    refine s_conv (A' := SlC ty_api_Row 5 ⟨some ⟨t9, 0, none⟩, 0, 0⟩ (([] : List RecX).flatMap rowF6)) (blk_SlC (vs := []) rfl (by simp)) ?_
    refine s_loop (α := Sl × Bool × Int) (ι := Nat × List RecX) (fun x i => x.2.2 = (i.1 : Int) ∧ i.1 ≤ X.length ∧ i.2.length ≤ 2 * i.1 ∧ i.2 ++ set6 k (r, s) x.2.1 (X.drop i.1) = set6 k (r, s) keep X ∧ ∀ y ∈ i.2, y.2.1.ok ∧ inP P y.2.2 y.2.1.val)
      (fun x i => SlC ty_api_Row 5 x.1 (i.2.flatMap rowF6) :: blk r5 (.cells (recL r s).toArray ty_api_Record (0, 0)) :: ref6L st n rs X Γ) (fun x i => X.length - i.1) (0, []) ⟨rfl, Nat.zero_le _, by simp, by simp, by simp⟩ ?_
    rintro k' ⟨o, kp, _⟩ ⟨i, Y⟩ ⟨rfl, hi, hYl, he, hok⟩ hk'
    simp only at hi hYl he hok hk' ⊢
    unfold ref06_Store_Set.b2
    refine s_cap o fun b1 b2 b3 b4 => ?_
    rw [flatMap_len _ 5 rowF6_len] at b1
    have add : ∀ (x : RecX) (ct : Nat) (o : Sl) (Y : List RecX), rowF6 x = rowF6 x → True := fun _ _ _ _ _ => trivial
    repeat refine s_nx ?_
    refine s_ite (fun hb => ?_) fun hb => ?_
    · have hil : i < X.length := by simp only [decide_eq_true_eq] at hb; omega
      have hge : X[i]? = some X[i] := List.getElem?_eq_getElem hil
      have hmem : X[i] ∈ X := List.getElem_mem hil
      rw [List.drop_eq_getElem_cons hil] at he
      generalize X[i] = x at hge hmem he
      rw [set6] at he
      -- the row that was there
      have old : ∀ (o : Sl) (Y : List RecX) (kp' : Bool), o.n = Y.length → Y.length ≤ 2 * i + 1 → Y ++ ((if x.1 = k then [] else [x]) ++ set6 k (r, s) kp' (X.drop (i + 1))) = set6 k (r, s) keep X → (∀ y ∈ Y, y.2.1.ok ∧ inP P y.2.2 y.2.1.val) →
          HG B (SlC ty_api_Row 5 o (Y.flatMap rowF6) :: blk r5 (.cells (recL r s).toArray ty_api_Record (0, 0)) :: ref6L st n rs X Γ) (ref06_Store_Set.s4 Q (fun out6_2 keep7_2 i8_2 => k' (out6_2, keep7_2, i8_2)) ⟨st, 0, none⟩ k ⟨r5, 0, none⟩ o kp' (i : Int)) := fun o Y kp' hon hYl he hok => by
        unfold ref06_Store_Set.s4
        repeat refine s_nx ?_
        refine s_idxF0 rowF6 (c := Value.string) (v := x.1) rowF6_len (fun w hw => (own_rd (s := rs) hw).1) hge rfl ?_
        unfold ref06_Store_Set.s3
        refine s_ite (fun hc => ?_) fun hc => ?_
        · have hxk : x.1 ≠ k := fun e => by rw [e, str_inj.2 rfl] at hc; cases hc
          rw [if_neg hxk] at he
          repeat refine s_nx ?_
          refine s_idxN rowF6 rowF6_len (fun w hw => (own_rd (s := rs) hw).1) hge ?_
          repeat refine s_nx ?_
          refine s_new fun t63 => ?_
          refine s_append (s := o) (esz := 5) (us := rowF6 x) (blk_rd rfl) (by intro v hv; exact rowF6_fl [x] v (by simpa using hv)) (by simp only; omega) fun o2 _ => ?_
          rw [show Y.flatMap rowF6 ++ rowF6 x = (Y ++ [x]).flatMap rowF6 by simp only [List.flatMap_append, List.flatMap_cons, List.flatMap_nil, List.append_nil]]
          refine s_ai ?_
          refine s_end (hk' (o2, kp', (i : Int) + 1) (i + 1, Y ++ [x]) ⟨by simp, hil, by simp; omega, by simp only; rw [← he]; simp, fun y hy => ?_⟩ (by simp only; omega))
          rcases List.mem_append.1 hy with hy | hy
          · exact hok y hy
          · rw [List.mem_singleton.1 hy]; exact hf.ok x hmem
        · have hxk : x.1 = k := by
            have : (x.1.toList == k.toList) = true := by simpa using hc
            rwa [str_inj] at this
          rw [if_pos hxk] at he
          refine s_ai ?_
          exact s_end (hk' (o, kp', (i : Int) + 1) (i + 1, Y) ⟨by simp, hil, by simp only; omega, by simpa using he, hok⟩ (by simp only; omega))
      have noIns : (kp && decide (0 < cmpS x.1 k)) = false → HG B (SlC ty_api_Row 5 o (Y.flatMap rowF6) :: blk r5 (.cells (recL r s).toArray ty_api_Record (0, 0)) :: ref6L st n rs X Γ) (ref06_Store_Set.s5 Q (fun out6_2 keep7_2 i8_2 => k' (out6_2, keep7_2, i8_2)) ⟨st, 0, none⟩ k ⟨r5, 0, none⟩ o kp (i : Int) false) := fun hni => by
        unfold ref06_Store_Set.s5
        refine s_f ?_
        refine old o Y kp (by omega) (by omega) ?_ hok
        rw [hni] at he
        have e2 : (kp && !decide (0 < cmpS x.1 k)) = kp := by cases kp <;> simp_all
        rw [e2] at he
        simpa using he
      refine s_ite (fun hkp1 => ?_) fun hkp1 => ?_
      · subst hkp1
        repeat refine s_nx ?_
        refine s_idxF0 rowF6 (c := Value.string) (v := x.1) rowF6_len (fun w hw => (own_rd (s := rs) hw).1) hge rfl ?_
        rw [gt_dec]
        by_cases hgt : k.toList < x.1.toList
        · have hpos : 0 < cmpS x.1 k := cmpS_pos.2 hgt
          rw [show decide (k.toList < x.1.toList) = true by simpa using hgt]
          unfold ref06_Store_Set.s5
          repeat refine s_nx ?_
          refine s_new fun t43 => ?_
          refine s_append (s := o) (esz := 5) (us := rowF6 (k, (r, s))) (blk_rd rfl) (by intro v hv; exact rowF6_fl [(k, (r, s))] v (by simpa using hv)) (by simp only; omega) fun o2 ho2 => ?_
          rw [show Y.flatMap rowF6 ++ rowF6 (k, (r, s)) = (Y ++ [(k, (r, s))]).flatMap rowF6 by simp only [List.flatMap_append, List.flatMap_cons, List.flatMap_nil, List.append_nil]]
          refine s_end (old o2 (Y ++ [(k, (r, s))]) false (by simp only at ho2; simp; omega) (by simp; omega) ?_ fun y hy => ?_)
          · simp only [hpos, decide_true, Bool.and_true, if_true, Bool.not_true, Bool.and_false] at he
            rw [← he]; simp
          · rcases List.mem_append.1 hy with hy | hy
            · exact hok y hy
            · rw [List.mem_singleton.1 hy]; exact ⟨hr, hv⟩
        · rw [show decide (k.toList < x.1.toList) = false by simpa using hgt]
          exact noIns (by simp only [Bool.true_and, decide_eq_false_iff_not]; exact fun h => hgt (cmpS_pos.1 h))
      · subst hkp1
        exact noIns rfl
    · have hil : i = X.length := by simp only [decide_eq_false_iff_not] at hb; omega
      rw [hil, List.drop_length, set6] at he
      have fin : ∀ (o : Sl) (Y : List RecX), Y = set6 k (r, s) keep X → (∀ y ∈ Y, y.2.1.ok ∧ inP P y.2.2 y.2.1.val) → HG B (SlC ty_api_Row 5 o (Y.flatMap rowF6) :: blk r5 (.cells (recL r s).toArray ty_api_Record (0, 0)) :: ref6L st n rs X Γ) (ref06_Store_Set.s6 Q (fun out6_2 keep7_2 i8_2 => k' (out6_2, keep7_2, i8_2)) ⟨st, 0, none⟩ o) := fun o Y hY hok => by
        unfold ref06_Store_Set.s6
        repeat refine s_nx ?_
        refine s_ownS o ?_
        refine s_own st ?_
        refine s_mkRef6 (M := setM M k r) ⟨?_, hok, hf.n1, hf.n3, setM_srt hf.srt⟩ (s_end h)
        rw [hY, set6_map, ← hf.mod, hset]
      refine s_ite (fun hkp1 => ?_) fun hkp1 => ?_
      · subst hkp1
        repeat refine s_nx ?_
        refine s_new fun t70 => ?_
        refine s_append (s := o) (esz := 5) (us := rowF6 (k, (r, s))) (blk_rd rfl) (by intro v hv; exact rowF6_fl [(k, (r, s))] v (by simpa using hv)) (by simp only; omega) fun o2 ho2 => ?_
        rw [show Y.flatMap rowF6 ++ rowF6 (k, (r, s)) = (Y ++ [(k, (r, s))]).flatMap rowF6 by simp only [List.flatMap_append, List.flatMap_cons, List.flatMap_nil, List.append_nil]]
        refine s_end (fin o2 (Y ++ [(k, (r, s))]) (by simpa using he) fun y hy => ?_)
        rcases List.mem_append.1 hy with hy | hy
        · exact hok y hy
        · rw [List.mem_singleton.1 hy]; exact ⟨hr, hv⟩
      · subst hkp1
        exact fin o Y (by simpa using he) hok
  refine s_dr ?_
  refine s_wsD [blk r5 (.cells (recL r s).toArray ty_api_Record (0, 0))] ?_
  repeat refine s_nx ?_
  refine s_ite (fun hb => ?_) fun hb => ?_
  · refine s_new fun t9 => ?_
    repeat refine s_nx ?_
    exact rows t9 true (by simp [hb])
  · repeat refine s_nx ?_
    refine s_new fun t9 => ?_
    repeat refine s_nx ?_
    refine rows t9 _ ?_
    have := hr.1
    simp only [hb, decide_eq_true_eq, true_and]
    omega
theorem move6_hg {k : ByteArray} {to : Int} {Q : Int → K} (hk : k.size < 1000000000000) (hL : M.length < 10000000) (h : HG B (Ref6 st n (sMove n M k to).1 P :: Γ) (Q (sMove n M k to).2)) : HG B (Ref6 st n M P :: Γ) (ref06_Store_Move.call (some ⟨st, 0, none⟩) k to Q) := by
  refine fun w hw => ref06_Store_Move_ok _ _ _ _ _ ?_
  refine hg hw ?_
  clear hw w
  unfold ref06_Store_Move
  have bad : to < 0 ∨ (n : Int) ≤ to → ∀ s0, HG B (Ref6 st n M P :: Γ) (ref06_Store_Move.s1 Q s0 k to true) := fun hb s0 => by
    unfold ref06_Store_Move.s1
    refine s_t ?_
    rw [show sMove n M k to = (M, 1) by unfold sMove; rw [if_pos hb]] at h
    exact h
  refine s_ite (fun hb => bad (.inl (by simpa using hb)) _) fun hb => ?_
  refine s_nn ?_
  refine s_ref6 fun rs X hf => ?_
  repeat refine s_nx ?_
  refine s_mkRef6 hf ?_
  by_cases hb2 : (n : Int) ≤ to
  · rw [show decide ((n : Int) ≤ to) = true by simpa using hb2]
    exact bad (.inr hb2) _
  rw [show decide ((n : Int) ≤ to) = false by simpa using hb2]
  have hnb : ¬ (to < 0 ∨ (n : Int) ≤ to) := by
    simp only [decide_eq_false_iff_not] at hb
    omega
  unfold ref06_Store_Move.s1
  refine s_f ?_
  refine get6_hg hk (by omega) fun s hok hv => ?_
  generalize hR : sGet n M k = r at *
  refine s_new fun r7 => ?_
  refine s_stN (b := r7) (l' := recL r s) ?_
  repeat refine s_nx ?_
  refine s_ite (fun hc => ?_) fun hc => ?_
  · rw [show sMove n M k to = (M, 111) by unfold sMove; rw [if_neg hnb, hR, if_pos (by simpa using hc)]] at h
    exact s_end h
  have hc' : r.cnt ≠ 18446744073709551615 := by simpa using hc
  obtain ⟨o1, o2, o3⟩ := hok
  repeat refine s_nx ?_
  refine s_ar (wrapU64 (by omega) (by omega)) ?_
  repeat refine s_nx ?_
  refine s_own st ?_
  refine set6_hg (r := { r with home := to, cnt := r.cnt + 1 }) ⟨by simp only; omega, by simp only; omega, o3⟩ hv hL ?_
  have e : sMove n M k to = (setM M k { r with home := to, cnt := r.cnt + 1 }, 0) := by
    unfold sMove setM
    rw [if_neg hnb, hR, if_neg hc', if_neg fun hh => by simp only at hh; omega]
  rw [e] at h
  exact s_end h
end
end Go.Proofs.YtfjjocopmknhgaaGreat
/- The document's locks: doom, Leave, Enter, Moved. -/
namespace Go.Proofs.YtfjjocopmknhgaaGreat
open Go Go.Sep Go.Sep.Bt
set_option linter.unusedSimpArgs false
set_option linter.unusedVariables false
set_option linter.unusedSectionVars false
set_option maxRecDepth 100000
/-- Lines, parked ones, doomed ones. -/
structure RX where
  line : List Claim
  park : List Claim
  doom : List TagM
abbrev rxL (x : RX) (c : Claim) : RX := ⟨x.line ++ [c], x.park, x.doom⟩
abbrev rxP (x : RX) (c : Claim) : RX := ⟨x.line, x.park ++ [c], x.doom⟩
abbrev rxD (x : RX) (t : TagM) : RX := ⟨x.line, x.park, addT x.doom t⟩
def rEnter1 (n : Nat) (S : Recs) (tag : TagM) (x : RX) (m : MarkM) : RX :=
  if hasK x.line m.key tag || hasK x.park m.key tag then x else if markLook n S m = 0 then rxL x (tag, m) else if markLook n S m = 1 then rxP x (tag, m) else rxD x tag
def rEnter (n : Nat) (S : Recs) (tag : TagM) (ms : List MarkM) (x : RX) : RX := ms.foldl (rEnter1 n S tag) x
abbrev rLeave (tag : TagM) (x : RX) : RX := ⟨noT tag x.line, noT tag x.park, x.doom.filter fun t => !decide (t = tag)⟩
def rDoomL (r : Rec) (key : List UInt8) (L : List Claim) (D : List TagM) : List TagM := L.foldl (fun D c => if c.2.key = key ∧ clLook r c ≠ 0 then addT D c.1 else D) D
/-- One parked one is looked at: the lines, the doomed ones, those that stay. -/
def rMv1 (r : Rec) (key : List UInt8) (x : List Claim × List TagM × List Claim) (c : Claim) : List Claim × List TagM × List Claim :=
  if c.2.key ≠ key ∨ clLook r c = 1 then (x.1, x.2.1, x.2.2 ++ [c]) else if clLook r c = 0 then (x.1 ++ [c], x.2.1, x.2.2) else (x.1, addT x.2.1 c.1, x.2.2)
def rMv (r : Rec) (key : List UInt8) (L : List Claim) (x : List Claim × List TagM × List Claim) : List Claim × List TagM × List Claim := L.foldl (rMv1 r key) x
def rMoved (n : Nat) (S : Recs) (key : List UInt8) (x : RX) : RX :=
  let y := rMv (sGet n S (bs key)) key x.park (x.line, rDoomL (sGet n S (bs key)) key x.line x.doom, [])
  ⟨y.1, y.2.2, y.2.1⟩
abbrev rsz (x : RX) (N : Nat) : Prop := x.line.length ≤ N ∧ x.park.length ≤ N ∧ x.doom.length ≤ N
theorem addT_le (D : List TagM) (t : TagM) : (addT D t).length ≤ D.length + 1 := by
  unfold addT
  split <;> simp
theorem rsz_enter1 {n : Nat} {S : Recs} {tag : TagM} {x : RX} {m : MarkM} {N : Nat} (h : rsz x N) : rsz (rEnter1 n S tag x m) (N + 1) := by
  obtain ⟨h1, h2, h3⟩ := h
  have := addT_le x.doom tag
  unfold rEnter1
  split
  · exact ⟨by omega, by omega, by omega⟩
  split
  · exact ⟨by simp; omega, by simp only; omega, by simp only; omega⟩
  split
  · exact ⟨by simp only; omega, by simp; omega, by simp only; omega⟩
  · exact ⟨by simp only; omega, by simp only; omega, by simp only; omega⟩
abbrev r16L (m : Nat) (ls ps ds : Sl) (x : RX) (Γ : List HProp) : List HProp :=
  blk m (.cells [ls.val, ps.val, ds.val].toArray ty_argosyref16_Locks (0, 0)) :: SlC ty_argosyref16_Claim 7 ls (x.line.flatMap clF) :: SlC ty_argosyref16_Claim 7 ps (x.park.flatMap clF) :: SlC ty_api_Tag 4 ds (x.doom.flatMap tagF) :: Γ
def Ref16 (m : Nat) (x : RX) : HProp := ex fun ls => ex fun ps => ex fun ds => Sep.stars (r16L m ls ps ds x [])
section
variable {B : World} {Γ Δ : List HProp} {k : K} {tag : TagM} {m n st : Nat} {x : RX} {S : Recs} {P : Pool}
instance (priority := high) own_ref16 : Sep.Own m (Ref16 m x :: Γ) (Ref16 m x) Γ := ⟨.refl _⟩
theorem s_ref16 (h : ∀ ls ps ds, HG B (r16L m ls ps ds x Γ) k) : HG B (Ref16 m x :: Γ) k :=
  s_ex fun ls => s_ex fun ps => s_ex fun ds => s_flat <| h ls ps ds
theorem s_mkRef16 {ls ps ds : Sl} (h : HG B (Ref16 m x :: Γ) k) : HG B (r16L m ls ps ds x Γ) k := fun w hw => by
  refine h w ?_
  have h3 : Holds B (Sep.stars (r16L m ls ps ds x []) :: Γ) w := Holds.flat.2 hw
  exact h3.imp fun g hg => ⟨ls, ps, ds, hg⟩
theorem new16_hg {k : Addr → K} (h : ∀ m, HG B (Ref16 m ⟨[], [], []⟩ :: Γ) (k ⟨m, 0, none⟩)) : HG B Γ (New ty_argosyref16_Locks [Sl.val ⟨none, 0, 0⟩, Sl.val ⟨none, 0, 0⟩, Sl.val ⟨none, 0, 0⟩].toArray k) := by
  refine s_new fun m => ?_
  refine fun w hw => ?_
  refine Sep.hg (show Holds B (SlC ty_argosyref16_Claim 7 ⟨none, 0, 0⟩ (([] : List Claim).flatMap clF) :: _) w from hw.nilSl _ _) ?_
  clear hw w
  refine fun w hw => ?_
  refine Sep.hg (show Holds B (SlC ty_argosyref16_Claim 7 ⟨none, 0, 0⟩ (([] : List Claim).flatMap clF) :: _) w from hw.nilSl _ _) ?_
  clear hw w
  refine fun w hw => ?_
  refine Sep.hg (show Holds B (SlC ty_api_Tag 4 ⟨none, 0, 0⟩ (([] : List TagM).flatMap tagF) :: _) w from hw.nilSl _ _) ?_
  clear hw w
  refine s_end (Δ := r16L m ⟨none, 0, 0⟩ ⟨none, 0, 0⟩ ⟨none, 0, 0⟩ ⟨[], [], []⟩ Γ) ?_
  exact s_mkRef16 (h m)
theorem doom16_hg {Q : K} (hd : x.doom.length ≤ 1000000) (h : HG B (Ref16 m (rxD x tag) :: Γ) Q) : HG B (Ref16 m x :: Γ) (ref16_Locks_doom.call (some ⟨m, 0, none⟩) (tagF tag).toArray Q) := by
  refine fun w hw => ref16_Locks_doom_ok _ _ _ _ ?_
  refine hg hw ?_
  clear hw w
  refine s_ref16 fun ls ps ds => ?_
  refine s_cap ds fun a1 a2 a3 a4 => ?_
  rw [flatMap_len _ 4 tagF_len] at a1
  unfold ref16_Locks_doom
  refine s_new fun g3 => ?_
  refine s_dr ?_
  refine s_nn ?_
  refine s_ld (b := m) (x := ds) ?_
  refine s_ldN (b := g3) (l' := tagF tag) ?_
  refine in16_hg (L := x.doom) (by omega) (fun w hw => (own_rd (s := ds) hw).1) ?_
  by_cases hin : tag ∈ x.doom
  · refine s_f ?_ (by simp [hin])
    rw [show rxD x tag = x by unfold rxD addT; rw [if_pos hin]] at h
    refine s_end (Δ := r16L m ls ps ds x Γ) ?_
    exact s_mkRef16 h
  · refine s_t ?_ (by simp [hin])
    have hx : (rxD x tag).doom = x.doom ++ [tag] := by show addT x.doom tag = _; unfold addT; rw [if_neg hin]
    refine s_dr ?_
    refine s_wsP (fun w => w.cell? ⟨m, 2, none⟩ = some ds.val ∧ RdN w ⟨g3, 0, none⟩ (tagF tag).toArray) (fun w hw => ⟨cell_block (own_blkOf (b := m) hw) rfl, rd_at (b := g3) (l := tagF tag) (n := 4) hw⟩) ?_
    refine s_ldSP (x := ds) (fun w hS => hS.1) ?_
    refine s_ldNSP (l := tagF tag) (fun w hS => hS.2) ?_
    refine s_cpyA (z := [.int .i64 0, .int .u64 0, .int .u64 0, .int .i64 0]) (us := tagF tag) (vs := x.doom.flatMap tagF) (fun w hw => ⟨cell_block (own_blkOf (b := m) hw) rfl, rd_at (b := g3) (l := tagF tag) (n := 4) hw⟩) (fun w hw => (own_rd (s := ds) hw).1) (tagF_fl _) (by omega) fun s' hs' => ?_
    refine s_st (b := m) (l' := [ls.val, ps.val, s'.val]) ?_
    rw [show x.doom.flatMap tagF ++ tagF tag = (rxD x tag).doom.flatMap tagF by rw [hx]; simp [List.flatMap_append]]
    refine s_end (Δ := r16L m ls ps s' (rxD x tag) Γ) ?_
    exact s_mkRef16 h
theorem leave16_hg {Q : K} (hN : rsz x 1000000) (h : HG B (Ref16 m (rLeave tag x) :: Γ) Q) : HG B (Ref16 m x :: Γ) (ref16_Locks_Leave.call (some ⟨m, 0, none⟩) (tagF tag).toArray Q) := by
  refine fun w hw => ref16_Locks_Leave_ok _ _ _ _ ?_
  refine hg hw ?_
  clear hw w
  obtain ⟨n1, n2, n3⟩ := hN
  refine s_ref16 fun ls ps ds => ?_
  refine s_cap ds fun a1 a2 a3 a4 => ?_
  rw [flatMap_len _ 4 tagF_len] at a1
  unfold ref16_Locks_Leave
  refine s_new fun g3 => ?_
  refine s_dr ?_
  refine s_nn ?_
  refine s_ld (b := m) (x := ls) ?_
  refine s_ldN (b := g3) (l' := tagF tag) ?_
  refine without16_hg (L := x.line) n1 (fun w hw => (own_rd (s := ls) hw).1) fun ls' => ?_
  refine s_st (b := m) (l' := [ls'.val, ps.val, ds.val]) ?_
  refine s_dr ?_
  refine s_ld (b := m) (x := ps) ?_
  refine s_ldN (b := g3) (l' := tagF tag) ?_
  refine without16_hg (L := x.park) n2 (fun w hw => (own_rd (s := ps) hw).1) fun ps' => ?_
  refine s_st (b := m) (l' := [ls'.val, ps'.val, ds.val]) ?_
  refine s_new fun t24 => ?_
  refine s_slc0 (esz := 4) ?_
  refine s_end (Δ := SlC ty_api_Tag 4 ⟨some ⟨t24, 0, none⟩, 0, 0⟩ [] :: blk m (.cells [ls'.val, ps'.val, ds.val].toArray ty_argosyref16_Locks (0, 0)) :: SlC ty_api_Tag 4 ds (x.doom.flatMap tagF) :: blk g3 (.cells (tagF tag).toArray ty_api_Tag (0, 0)) :: SlC ty_argosyref16_Claim 7 ls' ((noT tag x.line).flatMap clF) :: SlC ty_argosyref16_Claim 7 ps' ((noT tag x.park).flatMap clF) :: Γ) ?_
  refine s_loop (α := Sl × Int) (ι := Nat) (fun y i => y.2 = (i : Int) ∧ i ≤ x.doom.length) (fun y i => SlC ty_api_Tag 4 y.1 (((x.doom.take i).filter fun t => !decide (t = tag)).flatMap tagF) :: blk m (.cells [ls'.val, ps'.val, ds.val].toArray ty_argosyref16_Locks (0, 0)) :: SlC ty_api_Tag 4 ds (x.doom.flatMap tagF) :: blk g3 (.cells (tagF tag).toArray ty_api_Tag (0, 0)) :: SlC ty_argosyref16_Claim 7 ls' ((noT tag x.line).flatMap clF) :: SlC ty_argosyref16_Claim 7 ps' ((noT tag x.park).flatMap clF) :: Γ) (fun y i => x.doom.length - i) 0 ⟨rfl, Nat.zero_le _⟩ ?_
  rintro k' ⟨o, _⟩ i ⟨rfl, hi⟩ hk'
  simp only at hi hk' ⊢
  refine s_cap o fun b1 b2 b3 b4 => ?_
  rw [flatMap_len _ 4 tagF_len] at b1
  have ho : ((x.doom.take i).filter fun t => !decide (t = tag)).length ≤ i := by
    have h1 := List.length_filter_le (fun t : TagM => !decide (t = tag)) (x.doom.take i)
    rw [List.length_take] at h1
    omega
  unfold ref16_Locks_Leave.b1
  refine s_ld (b := m) (x := ds) ?_
  refine s_ite (fun hb => ?_) fun hb => ?_
  · have hil : i < x.doom.length := by simp only [decide_eq_true_eq] at hb; omega
    have htk := List.take_succ_eq_append_getElem hil
    have hge : x.doom[i]? = some x.doom[i] := List.getElem?_eq_getElem hil
    generalize x.doom[i] = t at htk hge
    refine s_dr ?_
    refine s_ld (b := m) (x := ds) ?_
    refine s_idxN tagF tagF_len (fun w hw => (own_rd (s := ds) hw).1) hge ?_
    refine s_ldN (b := g3) (l' := tagF tag) ?_
    refine s_neS (xs := tagF t) (ys := tagF tag) (ks := tagK) tagF_inj ?_
    by_cases hx : t = tag
    · refine s_f ?_ (by simp [hx])
      unfold ref16_Locks_Leave.s2
      refine s_ai ?_
      have hfin := hk' (o, (i : Int) + 1) (i + 1) ⟨by simp, hil⟩ (by omega)
      rw [show (x.doom.take (i + 1)).filter (fun t => !decide (t = tag)) = (x.doom.take i).filter fun t => !decide (t = tag) by rw [htk]; simp [hx]] at hfin
      exact hfin
    · refine s_t ?_ (by simp [hx])
      refine s_ld (b := m) (x := ds) ?_
      refine s_idxN tagF tagF_len (fun w hw => (own_rd (s := ds) hw).1) hge ?_
      refine s_bld1 ?_
      refine s_app1 (s := o) (m := 1) (us := tagF t) (fun o2 ho2 => ?_)
      unfold ref16_Locks_Leave.s2
      refine s_ai ?_
      have hfin := hk' (o2, (i : Int) + 1) (i + 1) ⟨by simp, hil⟩ (by omega)
      rw [show ((x.doom.take (i + 1)).filter fun t => !decide (t = tag)).flatMap tagF = ((x.doom.take i).filter fun t => !decide (t = tag)).flatMap tagF ++ tagF t by rw [htk]; simp [hx, List.flatMap_append]] at hfin
      exact hfin
  · have hil : i = x.doom.length := by simp only [decide_eq_false_iff_not] at hb; omega
    rw [hil, List.take_length]
    refine s_st (b := m) (l' := [ls'.val, ps'.val, o.val]) ?_
    refine s_end (Δ := r16L m ls' ps' o (rLeave tag x) Γ) ?_
    exact s_mkRef16 h
theorem look16_hg {r : Rec} {sl : Sl} {mk : MarkM} {Q : Int → K} (h : HG B Γ (Q (lookS r.cnt mk.cnt r.home mk.home))) : HG B Γ (ref10_Look.call (recA r sl) (markF mk).toArray Q) := fun w hw => by
  refine ref10_Look_ok _ _ _ _ ?_
  refine Sep.hg hw ?_
  clear hw w
  unfold ref10_Look ref10_Look.s1
  refine s_new fun r2 => ?_
  refine s_new fun m3 => ?_
  repeat refine s_nx ?_
  refine s_ite (fun hb => ?_) fun hb => ?_
  · rw [show lookS r.cnt mk.cnt r.home mk.home = 1 by unfold lookS; rw [if_pos (by simpa using hb)]] at h
    exact s_end h
  have hb' : ¬ r.cnt < mk.cnt := by simpa using hb
  repeat refine s_nx ?_
  refine s_ite (fun hc => ?_) fun hc => ?_
  · have hc' : mk.cnt < r.cnt := by simpa using hc
    refine s_t ?_
    rw [show lookS r.cnt mk.cnt r.home mk.home = 2 by unfold lookS; rw [if_neg hb', if_neg (by omega)]] at h
    exact s_end h
  have hc' : ¬ mk.cnt < r.cnt := by simpa using hc
  repeat refine s_nx ?_
  refine s_ite (fun hd => ?_) fun hd => ?_
  · have hd' : mk.home ≠ r.home := by simpa using hd
    rw [show lookS r.cnt mk.cnt r.home mk.home = 2 by unfold lookS; rw [if_neg hb', if_neg fun h => hd' h.2]] at h
    exact s_end h
  · have hd' : mk.home = r.home := by simpa using hd
    rw [show lookS r.cnt mk.cnt r.home mk.home = 0 by unfold lookS; rw [if_neg hb', if_pos ⟨by omega, hd'⟩]] at h
    exact s_end h
end
end Go.Proofs.YtfjjocopmknhgaaGreat
/- The document's locks: Enter. -/
namespace Go.Proofs.YtfjjocopmknhgaaGreat
open Go Go.Sep Go.Sep.Bt
set_option linter.unusedSimpArgs false
set_option linter.unusedVariables false
set_option linter.unusedSectionVars false
set_option maxRecDepth 100000
section
variable {B : World} {Γ Δ : List HProp} {k : K} {tag : TagM} {m n st : Nat} {x : RX} {S : Recs} {P : Pool}
abbrev clZ : List Value := [.int .i64 0, .int .u64 0, .int .u64 0, .int .i64 0, .string ⟨#[]⟩, .int .i64 0, .int .u64 0]
theorem enter16_s3 {y : RX} {mk : MarkM} {m9 g6 : Nat} {ms : Sl} {i : Int} {N : Nat} {Q : K} {X1 : Int → K} (hsz : rsz y N) (hNl : N ≤ 900000) (hk : mk.key.length < 1000000000) (hS : S.length < 100000000) (hno : (hasK y.line mk.key tag || hasK y.park mk.key tag) = false)
    (h : HG B (Ref16 m (rEnter1 n S tag y mk) :: Ref6 st n S P :: blk m9 (.cells (markF mk).toArray ty_api_Mark (0, 0)) :: blk g6 (.cells (tagF tag).toArray ty_api_Tag (0, 0)) :: Γ) (ref16_Locks_Enter.s2 Q X1 (some ⟨m, 0, none⟩) (some ⟨st, 0, none⟩) ms ⟨g6, 0, none⟩ i)) :
    HG B (Ref16 m y :: Ref6 st n S P :: blk m9 (.cells (markF mk).toArray ty_api_Mark (0, 0)) :: blk g6 (.cells (tagF tag).toArray ty_api_Tag (0, 0)) :: Γ) (ref16_Locks_Enter.s3 Q X1 (some ⟨m, 0, none⟩) (some ⟨st, 0, none⟩) ms ⟨g6, 0, none⟩ i ⟨m9, 0, none⟩ false) := by
  obtain ⟨n1, n2, n3⟩ := hsz
  unfold ref16_Locks_Enter.s3
  refine s_f ?_
  refine s_dr ?_
  refine s_wsP (fun w => w.cell? ⟨m9, 0, none⟩ = some (.string (bs mk.key)) ∧ RdN w ⟨m9, 0, none⟩ (markF mk).toArray) (fun w hw => ⟨cell_block (own_blkOf (b := m9) hw) rfl, rd_at (b := m9) (l := markF mk) (n := 3) hw⟩) ?_
  refine s_ldSP (x := bs mk.key) (fun w hS => hS.1) ?_
  refine s_ldNSP (l := markF mk) (fun w hS => hS.2) ?_
  refine s_own st ?_
  refine get6_hg (by show mk.key.length < _; omega) hS fun sl hok _ => ?_
  refine s_svP (fun w hw => ⟨cell_block (own_blkOf (b := m9) hw) rfl, rd_at (b := m9) (l := markF mk) (n := 3) hw⟩) ?_
  refine look16_hg (r := sGet n S (bs mk.key)) ?_
  have hlk : markLook n S mk = lookS (sGet n S (bs mk.key)).cnt mk.cnt (sGet n S (bs mk.key)).home mk.home := rfl
  rw [← hlk]
  refine s_own m ?_
  unfold rEnter1 at h
  rw [hno] at h
  simp only [Bool.false_eq_true, if_false] at h
  by_cases h0 : markLook n S mk = 0
  · rw [if_pos h0] at h
    refine s_t ?_ (by simpa using h0)
    refine s_ref16 fun ls ps ds => ?_
    refine s_cap ls fun a1 a2 a3 a4 => ?_
    rw [flatMap_len _ 7 clF_len] at a1
    refine s_dr ?_
    refine s_wsP (fun w => w.cell? ⟨m, 0, none⟩ = some ls.val ∧ RdN w ⟨g6, 0, none⟩ (tagF tag).toArray ∧ RdN w ⟨m9, 0, none⟩ (markF mk).toArray) (fun w hw => ⟨cell_block (own_blkOf (b := m) hw) rfl, rd_at (b := g6) (l := tagF tag) (n := 4) hw, rd_at (b := m9) (l := markF mk) (n := 3) hw⟩) ?_
    refine s_nn ?_
    refine s_ldSP (x := ls) (fun w hS => hS.1) ?_
    refine s_ldNSP (l := tagF tag) (fun w hS => hS.2.1) ?_
    refine s_ldNSP (l := markF mk) (fun w hS => hS.2.2) ?_
    refine s_nx ?_
    refine s_cpyA (z := clZ) (us := clF (tag, mk)) (vs := y.line.flatMap clF) (fun w hw => ⟨cell_block (own_blkOf (b := m) hw) rfl, rd_at (b := g6) (l := tagF tag) (n := 4) hw, rd_at (b := m9) (l := markF mk) (n := 3) hw⟩) (fun w hw => (own_rd (s := ls) hw).1) (clF_fl _) (by omega) fun s' hs' => ?_
    refine s_st (b := m) (l' := [s'.val, ps.val, ds.val]) ?_
    rw [show y.line.flatMap clF ++ clF (tag, mk) = (rxL y (tag, mk)).line.flatMap clF by simp [List.flatMap_append]]
    refine s_end (Δ := r16L m s' ps ds (rxL y (tag, mk)) (Ref6 st n S P :: blk m9 (.cells (markF mk).toArray ty_api_Mark (0, 0)) :: blk g6 (.cells (tagF tag).toArray ty_api_Tag (0, 0)) :: Γ)) ?_
    exact s_mkRef16 h
  rw [if_neg h0] at h
  refine s_f ?_ (by simpa using h0)
  by_cases h1 : markLook n S mk = 1
  · rw [if_pos h1] at h
    refine s_t ?_ (by simpa using h1)
    refine s_ref16 fun ls ps ds => ?_
    refine s_cap ps fun a1 a2 a3 a4 => ?_
    rw [flatMap_len _ 7 clF_len] at a1
    refine s_dr ?_
    refine s_wsP (fun w => w.cell? ⟨m, 1, none⟩ = some ps.val ∧ RdN w ⟨g6, 0, none⟩ (tagF tag).toArray ∧ RdN w ⟨m9, 0, none⟩ (markF mk).toArray) (fun w hw => ⟨cell_block (own_blkOf (b := m) hw) rfl, rd_at (b := g6) (l := tagF tag) (n := 4) hw, rd_at (b := m9) (l := markF mk) (n := 3) hw⟩) ?_
    refine s_nn ?_
    refine s_ldSP (x := ps) (fun w hS => hS.1) ?_
    refine s_ldNSP (l := tagF tag) (fun w hS => hS.2.1) ?_
    refine s_ldNSP (l := markF mk) (fun w hS => hS.2.2) ?_
    refine s_nx ?_
    refine s_cpyA (z := clZ) (us := clF (tag, mk)) (vs := y.park.flatMap clF) (fun w hw => ⟨cell_block (own_blkOf (b := m) hw) rfl, rd_at (b := g6) (l := tagF tag) (n := 4) hw, rd_at (b := m9) (l := markF mk) (n := 3) hw⟩) (fun w hw => (own_rd (s := ps) hw).1) (clF_fl _) (by omega) fun s' hs' => ?_
    refine s_st (b := m) (l' := [ls.val, s'.val, ds.val]) ?_
    rw [show y.park.flatMap clF ++ clF (tag, mk) = (rxP y (tag, mk)).park.flatMap clF by simp [List.flatMap_append]]
    refine s_end (Δ := r16L m ls s' ds (rxP y (tag, mk)) (Ref6 st n S P :: blk m9 (.cells (markF mk).toArray ty_api_Mark (0, 0)) :: blk g6 (.cells (tagF tag).toArray ty_api_Tag (0, 0)) :: Γ)) ?_
    exact s_mkRef16 h
  rw [if_neg h1] at h
  refine s_f ?_ (by simpa using h1)
  refine s_ldN (b := g6) (l' := tagF tag) ?_
  refine doom16_hg (by omega) ?_
  exact s_end h
theorem enter16_hg {ms : Sl} {L : List MarkM} {N : Nat} {Q : K} (hr : ∀ w, Holds B Γ w → RdC w ms 3 (L.flatMap markF)) (hk : ∀ m ∈ L, m.key.length < 1000000000) (hS : S.length < 100000000) (hN : rsz x N) (hNl : N + L.length ≤ 900000) (h : HG B (Ref16 m (rEnter n S tag L x) :: Ref6 st n S P :: Γ) Q) :
    HG B (Ref16 m x :: Ref6 st n S P :: Γ) (ref16_Locks_Enter.call (some ⟨m, 0, none⟩) (some ⟨st, 0, none⟩) (tagF tag).toArray ms Q) := fun w hw => by
  refine ref16_Locks_Enter_ok _ _ _ _ _ _ ?_
  have ln : ms.n = L.length := rd_len markF_len (by omega) (hr w hw.drops)
  refine hg hw ?_
  clear hw w
  unfold ref16_Locks_Enter
  refine s_new fun g6 => ?_
  refine s_end (Δ := Ref16 m x :: Ref6 st n S P :: blk g6 (.cells (tagF tag).toArray ty_api_Tag (0, 0)) :: Γ) ?_
  refine s_loop (α := Int) (ι := Nat × RX) (fun z i => z = (i.1 : Int) ∧ i.1 ≤ L.length ∧ i.2 = rEnter n S tag (L.take i.1) x ∧ rsz i.2 (N + i.1)) (fun z i => Ref16 m i.2 :: Ref6 st n S P :: blk g6 (.cells (tagF tag).toArray ty_api_Tag (0, 0)) :: Γ) (fun z i => L.length - i.1) (0, x) ⟨rfl, Nat.zero_le _, rfl, by simpa using hN⟩ ?_
  rintro k' _ ⟨i, y⟩ ⟨rfl, hi, hy, hsz⟩ hk'
  simp only at hi hy hsz hk' ⊢
  unfold ref16_Locks_Enter.b1
  refine s_ite (fun hb => ?_) fun hb => ?_
  rotate_left
  · have hil : i = L.length := by simp only [decide_eq_false_iff_not] at hb; omega
    rw [hil, List.take_length] at hy
    rw [hy]
    exact s_end h
  have hil : i < L.length := by simp only [decide_eq_true_eq] at hb; omega
  have htk := List.take_succ_eq_append_getElem hil
  have hge : L[i]? = some L[i] := List.getElem?_eq_getElem hil
  have hmem : L[i] ∈ L := List.getElem_mem hil
  generalize L[i] = mk at htk hge hmem
  have hstep : rEnter n S tag (L.take (i + 1)) x = rEnter1 n S tag y mk := by rw [htk, hy]; simp [rEnter, List.foldl_append]
  have hsz1 : rsz (rEnter1 n S tag y mk) (N + (i + 1)) := rsz_enter1 hsz
  refine s_idxN markF markF_len (fun w hw => hr w hw.drops) hge ?_
  refine s_new fun m9 => ?_
  refine s_stN (b := m9) (l' := markF mk) ?_
  have S2 : HG B (Ref16 m (rEnter1 n S tag y mk) :: Ref6 st n S P :: blk m9 (.cells (markF mk).toArray ty_api_Mark (0, 0)) :: blk g6 (.cells (tagF tag).toArray ty_api_Tag (0, 0)) :: Γ) (ref16_Locks_Enter.s2 Q k' (some ⟨m, 0, none⟩) (some ⟨st, 0, none⟩) ms ⟨g6, 0, none⟩ (i : Int)) := by
    unfold ref16_Locks_Enter.s2
    refine s_ai ?_
    exact s_end (hk' ((i : Int) + 1) (i + 1, rEnter1 n S tag y mk) ⟨by simp, hil, hstep.symm, hsz1⟩ (by simp only; omega))
  refine s_own m ?_
  refine s_ref16 fun ls ps ds => ?_
  refine s_dr ?_
  refine s_wsP (fun w => w.cell? ⟨m, 0, none⟩ = some ls.val ∧ w.cell? ⟨m, 1, none⟩ = some ps.val ∧ w.cell? ⟨m9, 0, none⟩ = some (.string (bs mk.key)) ∧ RdN w ⟨g6, 0, none⟩ (tagF tag).toArray) (fun w hw => ⟨cell_block (own_blkOf (b := m) hw) rfl, cell_block (own_blkOf (b := m) hw) rfl, cell_block (own_blkOf (b := m9) hw) rfl, rd_at (b := g6) (l := tagF tag) (n := 4) hw⟩) ?_
  refine s_nn ?_
  refine s_ldSP (x := ls) (fun w hS => hS.1) ?_
  refine s_ldSP (x := bs mk.key) (fun w hS => hS.2.2.1) ?_
  refine s_ldNSP (l := tagF tag) (fun w hS => hS.2.2.2) ?_
  refine has16_hg (L := y.line) (by have := hsz.1; omega) (fun w hw => (own_rd (s := ls) hw).1) ?_
  refine s_svP (fun w hw => ⟨cell_block (own_blkOf (b := m) hw) rfl, cell_block (own_blkOf (b := m) hw) rfl, cell_block (own_blkOf (b := m9) hw) rfl, rd_at (b := g6) (l := tagF tag) (n := 4) hw⟩) ?_
  have yes : (hasK y.line mk.key tag || hasK y.park mk.key tag) = true → HG B (r16L m ls ps ds y (Ref6 st n S P :: blk m9 (.cells (markF mk).toArray ty_api_Mark (0, 0)) :: blk g6 (.cells (tagF tag).toArray ty_api_Tag (0, 0)) :: Γ)) (ref16_Locks_Enter.s3 Q k' (some ⟨m, 0, none⟩) (some ⟨st, 0, none⟩) ms ⟨g6, 0, none⟩ (i : Int) ⟨m9, 0, none⟩ true) := fun hyes => by
    unfold ref16_Locks_Enter.s3
    refine s_t ?_
    rw [show rEnter1 n S tag y mk = y by unfold rEnter1; rw [if_pos hyes]] at S2
    exact s_mkRef16 S2
  by_cases h1 : hasK y.line mk.key tag = true
  · refine s_t ?_ h1
    exact s_end (yes (by rw [h1]; rfl))
  have h1' : hasK y.line mk.key tag = false := by simpa using h1
  refine s_f ?_ h1'
  refine s_ldSP (x := ps) (fun w hS => hS.2.1) ?_
  refine s_ldSP (x := bs mk.key) (fun w hS => hS.2.2.1) ?_
  refine s_ldNSP (l := tagF tag) (fun w hS => hS.2.2.2) ?_
  refine has16_hg (L := y.park) (by have := hsz.2.1; omega) (fun w hw => (own_rd (s := ps) hw).1) ?_
  by_cases h2 : hasK y.park mk.key tag = true
  · rw [h2]
    exact s_end (yes (by rw [h2]; simp))
  have h2' : hasK y.park mk.key tag = false := by simpa using h2
  rw [h2']
  refine s_end (Δ := r16L m ls ps ds y (Ref6 st n S P :: blk m9 (.cells (markF mk).toArray ty_api_Mark (0, 0)) :: blk g6 (.cells (tagF tag).toArray ty_api_Tag (0, 0)) :: Γ)) ?_
  exact s_mkRef16 (enter16_s3 (N := N + i) hsz (by omega) (hk _ hmem) hS (by rw [h1', h2']; rfl) S2)
end
end Go.Proofs.YtfjjocopmknhgaaGreat
/- The document's locks: Moved. -/
namespace Go.Proofs.YtfjjocopmknhgaaGreat
open Go Go.Sep Go.Sep.Bt
set_option linter.unusedSimpArgs false
set_option linter.unusedVariables false
set_option linter.unusedSectionVars false
set_option maxRecDepth 100000
theorem rDoomL_le (r : Rec) (key : List UInt8) : ∀ (L : List Claim) (D : List TagM), (rDoomL r key L D).length ≤ D.length + L.length
  | [], D => by simp [rDoomL]
  | c :: L, D => by
    show (rDoomL r key L (if c.2.key = key ∧ clLook r c ≠ 0 then addT D c.1 else D)).length ≤ _
    have h1 := rDoomL_le r key L (if c.2.key = key ∧ clLook r c ≠ 0 then addT D c.1 else D)
    have h2 := addT_le D c.1
    have h3 : (if c.2.key = key ∧ clLook r c ≠ 0 then addT D c.1 else D).length ≤ D.length + 1 := by
      split
      · exact h2
      · omega
    rw [List.length_cons]
    omega
theorem rMv_le (r : Rec) (key : List UInt8) : ∀ (L : List Claim) (x : List Claim × List TagM × List Claim), (rMv r key L x).1.length ≤ x.1.length + L.length ∧ (rMv r key L x).2.1.length ≤ x.2.1.length + L.length ∧ (rMv r key L x).2.2.length ≤ x.2.2.length + L.length
  | [], x => by simp [rMv]
  | c :: L, x => by
    show (rMv r key L (rMv1 r key x c)).1.length ≤ _ ∧ (rMv r key L (rMv1 r key x c)).2.1.length ≤ _ ∧ (rMv r key L (rMv1 r key x c)).2.2.length ≤ _
    have h1 := rMv_le r key L (rMv1 r key x c)
    have h2 := addT_le x.2.1 c.1
    have h3 : (rMv1 r key x c).1.length ≤ x.1.length + 1 ∧ (rMv1 r key x c).2.1.length ≤ x.2.1.length + 1 ∧ (rMv1 r key x c).2.2.length ≤ x.2.2.length + 1 := by
      unfold rMv1
      split
      · simp
      split <;> simp <;> omega
    simp only [List.length_cons]
    omega
theorem rDoomL_snoc (r : Rec) (key : List UInt8) (L : List Claim) (c : Claim) (D : List TagM) : rDoomL r key (L ++ [c]) D = if c.2.key = key ∧ clLook r c ≠ 0 then addT (rDoomL r key L D) c.1 else rDoomL r key L D := by
  unfold rDoomL
  rw [List.foldl_append]; rfl
theorem rMv_snoc (r : Rec) (key : List UInt8) (L : List Claim) (c : Claim) (x : List Claim × List TagM × List Claim) : rMv r key (L ++ [c]) x = rMv1 r key (rMv r key L x) c := by
  unfold rMv
  rw [List.foldl_append]; rfl
section
variable {B : World} {Γ Δ : List HProp} {k : K} {tag : TagM} {m n st : Nat} {x : RX} {S : Recs} {P : Pool}
theorem s_ldNAo {a : Addr} {off j : Nat} {cs us : List Value} {k : Array Value → K} (hn : ∀ w, Holds B Γ w → RdN w a cs.toArray) (hm : off + j ≤ cs.length) (h : HG B Γ (k us.toArray)) (hu : (cs.drop off).take j = us := by rfl) : HG B Γ (LdN (a.add off) j k) := fun w hw => by
  refine ⟨us.toArray, by rw [← hu]; simp; omega, fun i hi => ?_, h w hw⟩
  have hl : us.length = j := by rw [← hu, List.length_take, List.length_drop]; omega
  simp only [List.size_toArray] at hi
  have := hn w hw (off + i) (by simp only [List.size_toArray]; omega)
  rw [show (a.add off).add i = a.add (off + i) by cases a; by_cases h1 : off = 0 <;> by_cases h2 : i = 0 <;> simp [Addr.add, h1, h2, Nat.add_assoc]]
  rw [this]
  have e : cs[off + i]? = us[i]? := by rw [← hu, List.getElem?_take, if_pos (by omega), List.getElem?_drop]
  simpa using e
abbrev rec16L (r : Rec) (s : Sl) : List Value := [.bool r.has, s.val, .int .i64 r.home, .int .u64 r.cnt]
/-- The second walk. -/
theorem moved16_b4 {key : List UInt8} {r : Rec} {sl : Sl} {r6 t58 N : Nat} {D : List TagM} {Q : K} {X1 : Int → K} (hN : rsz ⟨x.line, x.park, D⟩ N) (hNl : N ≤ 400000)
    (h : HG B (Ref16 m ⟨(rMv r key x.park (x.line, D, [])).1, (rMv r key x.park (x.line, D, [])).2.2, (rMv r key x.park (x.line, D, [])).2.1⟩ :: blk r6 (.cells (rec16L r sl).toArray ty_api_Record (0, 0)) :: Γ) Q) :
    HG B (SlC ty_argosyref16_Claim 7 ⟨some ⟨t58, 0, none⟩, 0, 0⟩ [] :: Ref16 m ⟨x.line, x.park, D⟩ :: blk r6 (.cells (rec16L r sl).toArray ty_api_Record (0, 0)) :: Γ)
      (LoopK (α := Sl × Int) (fun X z => ref16_Locks_Moved.b4 Q X1 (fun left8_4 i9_4 => X (left8_4, i9_4)) ⟨m, 0, none⟩ (bs key) ⟨r6, 0, none⟩ z.1 z.2) ((Sl.mk (some ⟨t58, 0, none⟩) 0 0), 0)) := by
  obtain ⟨n1, n2, n3⟩ := hN
  simp only at n1 n2 n3
  refine s_loop (α := Sl × Int) (ι := Nat × (List Claim × List TagM × List Claim)) (fun z i => z.2 = (i.1 : Int) ∧ i.1 ≤ x.park.length ∧ i.2 = rMv r key (x.park.take i.1) (x.line, D, [])) (fun z i => SlC ty_argosyref16_Claim 7 z.1 (i.2.2.2.flatMap clF) :: Ref16 m ⟨i.2.1, x.park, i.2.2.1⟩ :: blk r6 (.cells (rec16L r sl).toArray ty_api_Record (0, 0)) :: Γ) (fun z i => x.park.length - i.1) (0, (x.line, D, [])) ⟨rfl, Nat.zero_le _, rfl⟩ ?_
  rintro k' ⟨o, _⟩ ⟨i, y⟩ ⟨rfl, hi, hy⟩ hk'
  simp only at hi hy hk' ⊢
  have hle := rMv_le r key (x.park.take i) (x.line, D, [])
  rw [← hy, List.length_take] at hle
  simp only [List.length_nil] at hle
  refine s_cap o fun b1 b2 b3 b4 => ?_
  rw [flatMap_len _ 7 clF_len] at b1
  refine s_own m ?_
  refine s_ref16 fun ls ps ds => ?_
  refine s_cap ps fun a1 a2 a3 a4 => ?_
  rw [flatMap_len _ 7 clF_len] at a1
  simp only at a1
  refine s_cap ls fun c1 c2 c3 c4 => ?_
  rw [flatMap_len _ 7 clF_len] at c1
  simp only at c1
  unfold ref16_Locks_Moved.b4
  refine s_ld (b := m) (x := ps) ?_
  refine s_ite (fun hb => ?_) fun hb => ?_
  rotate_left
  · have hil : i = x.park.length := by simp only [decide_eq_false_iff_not] at hb; omega
    rw [hil, List.take_length] at hy
    refine s_st (b := m) (l' := [ls.val, o.val, ds.val]) ?_
    rw [← hy] at h
    refine s_end (Δ := r16L m ls o ds ⟨y.1, y.2.2, y.2.1⟩ (blk r6 (.cells (rec16L r sl).toArray ty_api_Record (0, 0)) :: Γ)) ?_
    exact s_mkRef16 h
  have hil : i < x.park.length := by simp only [decide_eq_true_eq] at hb; omega
  have htk := List.take_succ_eq_append_getElem hil
  have hge : x.park[i]? = some x.park[i] := List.getElem?_eq_getElem hil
  generalize x.park[i] = c at htk hge
  have hstep : rMv r key (x.park.take (i + 1)) (x.line, D, []) = rMv1 r key y c := by rw [htk, rMv_snoc, ← hy]
  have S5 : ∀ (o2 ls2 ds2 : Sl) (y2 : List Claim × List TagM × List Claim) (c10 : Nat), rMv1 r key y c = y2 → HG B (SlC ty_argosyref16_Claim 7 o2 (y2.2.2.flatMap clF) :: Ref16 m ⟨y2.1, x.park, y2.2.1⟩ :: blk r6 (.cells (rec16L r sl).toArray ty_api_Record (0, 0)) :: Γ) (ref16_Locks_Moved.s5 Q X1 (fun left8_4 i9_4 => k' (left8_4, i9_4)) ⟨m, 0, none⟩ (bs key) ⟨r6, 0, none⟩ o2 (i : Int)) := fun o2 ls2 ds2 y2 c10 hy2 => by
    unfold ref16_Locks_Moved.s5
    refine s_ai ?_
    exact hk' (o2, (i : Int) + 1) (i + 1, y2) ⟨by simp, hil, by rw [hstep, hy2]⟩ (by simp only; omega)
  refine s_ld (b := m) (x := ps) ?_
  refine s_idxN clF clF_len (fun w hw => (own_rd (s := ps) hw).1) hge ?_
  refine s_new fun c10 => ?_
  refine s_stN (b := c10) (l' := clF c) ?_
  refine s_ldN (b := r6) (l' := rec16L r sl) ?_
  refine s_ldN (b := c10) (l' := markF c.2) ?_
  refine look16_hg (r := r) (mk := c.2) ?_
  refine s_ld (b := c10) (x := bs c.2.key) ?_
  have hlk : lookS r.cnt c.2.cnt r.home c.2.home = clLook r c := rfl
  rw [hlk]
  have left : (c.2.key ≠ key ∨ clLook r c = 1) → HG B (blk c10 (.cells (clF c).toArray ty_argosyref16_Claim (0, 0)) :: SlC ty_argosyref16_Claim 7 o (y.2.2.flatMap clF) :: r16L m ls ps ds ⟨y.1, x.park, y.2.1⟩ (blk r6 (.cells (rec16L r sl).toArray ty_api_Record (0, 0)) :: Γ)) (ref16_Locks_Moved.s6 Q X1 (fun left8_4 i9_4 => k' (left8_4, i9_4)) ⟨m, 0, none⟩ (bs key) ⟨r6, 0, none⟩ o (i : Int) ⟨c10, 0, none⟩ (clLook r c) true) := fun hc => by
    unfold ref16_Locks_Moved.s6
    refine s_t ?_
    refine s_ldN (b := c10) (l' := clF c) ?_
    refine s_bld1 ?_
    refine s_app1 (s := o) (m := 1) (us := clF c) (fun o2 ho2 => ?_)
    have hfin := S5 o2 ls ds (y.1, y.2.1, y.2.2 ++ [c]) c10 (by unfold rMv1; rw [if_pos hc])
    simp only [List.flatMap_append, List.flatMap_cons, List.flatMap_nil, List.append_nil] at hfin
    refine s_end (Δ := r16L m ls ps ds ⟨y.1, x.park, y.2.1⟩ (SlC ty_argosyref16_Claim 7 o2 (y.2.2.flatMap clF ++ clF c) :: blk r6 (.cells (rec16L r sl).toArray ty_api_Record (0, 0)) :: Γ)) ?_
    refine s_mkRef16 ?_
    exact s_end hfin
  refine s_ite (fun hp => ?_) fun hp => ?_
  · have hkey : c.2.key ≠ key := by rw [bs_list, bs_list] at hp; simpa using hp
    exact s_end (left (.inl hkey))
  have hkey : c.2.key = key := by rw [bs_list, bs_list] at hp; simpa using hp
  by_cases h1 : clLook r c = 1
  · rw [show decide (clLook r c = 1) = true by simpa using h1]
    exact s_end (left (.inr h1))
  rw [show decide (clLook r c = 1) = false by simpa using h1]
  unfold ref16_Locks_Moved.s6
  refine s_f ?_
  have hno : ¬ (c.2.key ≠ key ∨ clLook r c = 1) := by simp [hkey, h1]
  by_cases h0 : clLook r c = 0
  · refine s_t ?_ (by simpa using h0)
    refine s_dr ?_
    refine s_wsP (fun w => w.cell? ⟨m, 0, none⟩ = some ls.val ∧ RdN w ⟨c10, 0, none⟩ (clF c).toArray) (fun w hw => ⟨cell_block (own_blkOf (b := m) hw) rfl, rd_at (b := c10) (l := clF c) (n := 7) hw⟩) ?_
    refine s_ldSP (x := ls) (fun w hS => hS.1) ?_
    refine s_ldNSP (l := clF c) (fun w hS => hS.2) ?_
    refine s_cpyA (z := clZ) (us := clF c) (vs := y.1.flatMap clF) (fun w hw => ⟨cell_block (own_blkOf (b := m) hw) rfl, rd_at (b := c10) (l := clF c) (n := 7) hw⟩) (fun w hw => (own_rd (s := ls) hw).1) (clF_fl _) (by omega) fun s' hs' => ?_
    refine s_st (b := m) (l' := [s'.val, ps.val, ds.val]) ?_
    have hfin := S5 o s' ds (y.1 ++ [c], y.2.1, y.2.2) c10 (by unfold rMv1; rw [if_neg hno, if_pos h0])
    rw [show y.1.flatMap clF ++ clF c = (y.1 ++ [c]).flatMap clF by simp [List.flatMap_append]]
    refine s_end (Δ := r16L m s' ps ds ⟨y.1 ++ [c], x.park, y.2.1⟩ (SlC ty_argosyref16_Claim 7 o (y.2.2.flatMap clF) :: blk r6 (.cells (rec16L r sl).toArray ty_api_Record (0, 0)) :: Γ)) ?_
    refine s_mkRef16 ?_
    exact s_end hfin
  · refine s_f ?_ (by simpa using h0)
    refine s_ldN (b := c10) (l' := tagF c.1) ?_
    refine s_end (Δ := r16L m ls ps ds ⟨y.1, x.park, y.2.1⟩ (SlC ty_argosyref16_Claim 7 o (y.2.2.flatMap clF) :: blk r6 (.cells (rec16L r sl).toArray ty_api_Record (0, 0)) :: Γ)) ?_
    refine s_mkRef16 ?_
    refine doom16_hg (by simp only; omega) ?_
    have hfin := S5 o ls ds (y.1, addT y.2.1 c.1, y.2.2) c10 (by unfold rMv1; rw [if_neg hno, if_neg h0])
    exact s_end hfin
theorem moved16_hg {key : List UInt8} {N : Nat} {Q : K} (hk : key.length < 1000000000) (hS : S.length < 100000000) (hN : rsz x N) (hNl : N ≤ 100000) (h : HG B (Ref16 m (rMoved n S key x) :: Ref6 st n S P :: Γ) Q) :
    HG B (Ref16 m x :: Ref6 st n S P :: Γ) (ref16_Locks_Moved.call (some ⟨m, 0, none⟩) (some ⟨st, 0, none⟩) (bs key) Q) := by
  refine fun w hw => ref16_Locks_Moved_ok _ _ _ _ _ ?_
  refine hg hw ?_
  clear hw w
  obtain ⟨n1, n2, n3⟩ := hN
  unfold ref16_Locks_Moved
  refine s_own st ?_
  refine get6_hg (by show key.length < _; omega) hS fun sl hok _ => ?_
  have hmv : rMoved n S key x = ⟨(rMv (sGet n S (bs key)) key x.park (x.line, rDoomL (sGet n S (bs key)) key x.line x.doom, [])).1, (rMv (sGet n S (bs key)) key x.park (x.line, rDoomL (sGet n S (bs key)) key x.line x.doom, [])).2.2, (rMv (sGet n S (bs key)) key x.park (x.line, rDoomL (sGet n S (bs key)) key x.line x.doom, [])).2.1⟩ := rfl
  rw [hmv] at h
  generalize sGet n S (bs key) = r at h
  refine s_new fun r6 => ?_
  refine s_stN (b := r6) (l' := rec16L r sl) ?_
  refine s_end (Δ := Ref16 m ⟨x.line, x.park, x.doom⟩ :: Ref6 st n S P :: blk r6 (.cells (rec16L r sl).toArray ty_api_Record (0, 0)) :: Γ) ?_
  refine s_loop (α := Int) (ι := Nat × List TagM) (fun z i => z = (i.1 : Int) ∧ i.1 ≤ x.line.length ∧ i.2 = rDoomL r key (x.line.take i.1) x.doom) (fun z i => Ref16 m ⟨x.line, x.park, i.2⟩ :: Ref6 st n S P :: blk r6 (.cells (rec16L r sl).toArray ty_api_Record (0, 0)) :: Γ) (fun z i => x.line.length - i.1) (0, x.doom) ⟨rfl, Nat.zero_le _, rfl⟩ ?_
  rintro k' _ ⟨i, D⟩ ⟨rfl, hi, hD⟩ hk'
  simp only at hi hD hk' ⊢
  have hDl := rDoomL_le r key (x.line.take i) x.doom
  rw [← hD, List.length_take] at hDl
  refine s_ref16 fun ls ps ds => ?_
  refine s_cap ls fun a1 a2 a3 a4 => ?_
  rw [flatMap_len _ 7 clF_len] at a1
  simp only at a1
  unfold ref16_Locks_Moved.b1
  refine s_nn ?_
  refine s_ld (b := m) (x := ls) ?_
  refine s_ite (fun hb => ?_) fun hb => ?_
  rotate_left
  · have hil : i = x.line.length := by simp only [decide_eq_false_iff_not] at hb; omega
    rw [hil, List.take_length] at hD
    refine s_new fun t58 => ?_
    refine s_slc0 (esz := 7) ?_
    refine s_end (Δ := r16L m ls ps ds ⟨x.line, x.park, D⟩ (SlC ty_argosyref16_Claim 7 ⟨some ⟨t58, 0, none⟩, 0, 0⟩ [] :: blk r6 (.cells (rec16L r sl).toArray ty_api_Record (0, 0)) :: Ref6 st n S P :: Γ)) ?_
    refine s_mkRef16 ?_
    rw [← hD] at h
    have hfin := moved16_b4 (B := B) (Γ := Ref6 st n S P :: Γ) (m := m) (x := x) (key := key) (r := r) (sl := sl) (r6 := r6) (t58 := t58) (N := 300000) (D := D) (Q := Q) (X1 := k') ⟨by simp only; omega, by simp only; omega, by simp only; omega⟩ (by omega) (s_end h)
    exact s_end hfin
  have hil : i < x.line.length := by simp only [decide_eq_true_eq] at hb; omega
  have htk := List.take_succ_eq_append_getElem hil
  have hge : x.line[i]? = some x.line[i] := List.getElem?_eq_getElem hil
  generalize x.line[i] = c at htk hge
  have hstep : rDoomL r key (x.line.take (i + 1)) x.doom = if c.2.key = key ∧ clLook r c ≠ 0 then addT D c.1 else D := by rw [htk, rDoomL_snoc, ← hD]
  have S2 : ∀ D2, rDoomL r key (x.line.take (i + 1)) x.doom = D2 → HG B (Ref16 m ⟨x.line, x.park, D2⟩ :: Ref6 st n S P :: blk r6 (.cells (rec16L r sl).toArray ty_api_Record (0, 0)) :: Γ) (ref16_Locks_Moved.s2 Q k' ⟨m, 0, none⟩ (bs key) ⟨r6, 0, none⟩ (i : Int)) := fun D2 h2 => by
    unfold ref16_Locks_Moved.s2
    refine s_ai ?_
    exact hk' ((i : Int) + 1) (i + 1, D2) ⟨by simp, hil, h2.symm⟩ (by simp only; omega)
  have no : ¬ (c.2.key = key ∧ clLook r c ≠ 0) → HG B (r16L m ls ps ds ⟨x.line, x.park, D⟩ (Ref6 st n S P :: blk r6 (.cells (rec16L r sl).toArray ty_api_Record (0, 0)) :: Γ)) (ref16_Locks_Moved.s3 Q k' ⟨m, 0, none⟩ (bs key) ⟨r6, 0, none⟩ (i : Int) false) := fun hn => by
    unfold ref16_Locks_Moved.s3
    refine s_f ?_
    exact s_mkRef16 (S2 D (by rw [hstep, if_neg hn]))
  refine s_dr ?_
  refine s_ld (b := m) (x := ls) ?_
  refine s_idxFA clF clF_len (by omega) (fun w hw => (own_rd (s := ls) hw).1) hge fun t29 ht29 => ?_
  refine s_ldAi (cs := clF c) (i := 4) (x := bs c.2.key) (fun w hw => ht29 w (own_rd (s := ls) hw).1) rfl ?_
  refine s_ite (fun hp => ?_) fun hp => ?_
  rotate_left
  · have hkey : c.2.key ≠ key := by rw [bs_list, bs_list] at hp; simpa using hp
    exact s_end (no fun h => hkey h.1)
  have hkey : c.2.key = key := by rw [bs_list, bs_list] at hp; simpa using hp
  refine s_ldN (b := r6) (l' := rec16L r sl) ?_
  refine s_ld (b := m) (x := ls) ?_
  refine s_idxFA clF clF_len (by omega) (fun w hw => (own_rd (s := ls) hw).1) hge fun t42 ht42 => ?_
  refine s_ldNAo (cs := clF c) (us := markF c.2) (fun w hw => ht42 w (own_rd (s := ls) hw).1) (by rw [clF_len]; omega) ?_
  refine look16_hg (r := r) (mk := c.2) ?_
  have hlk : lookS r.cnt c.2.cnt r.home c.2.home = clLook r c := rfl
  rw [hlk]
  by_cases h0 : clLook r c = 0
  · rw [show decide (clLook r c ≠ 0) = false by simpa using h0]
    exact s_end (no fun h => h.2 h0)
  rw [show decide (clLook r c ≠ 0) = true by simpa using h0]
  unfold ref16_Locks_Moved.s3
  refine s_t ?_
  refine s_ld (b := m) (x := ls) ?_
  refine s_idxFA clF clF_len (by omega) (fun w hw => (own_rd (s := ls) hw).1) hge fun t54 ht54 => ?_
  refine s_ldNA16 (cs := clF c) (us := tagF c.1) (fun w hw => ht54 w (own_rd (s := ls) hw).1) (by rw [clF_len]; omega) ?_
  refine s_end (Δ := r16L m ls ps ds ⟨x.line, x.park, D⟩ (Ref6 st n S P :: blk r6 (.cells (rec16L r sl).toArray ty_api_Record (0, 0)) :: Γ)) ?_
  refine s_mkRef16 ?_
  refine doom16_hg (by simp only; omega) ?_
  exact s_end (S2 (addT D c.1) (by rw [hstep, if_pos ⟨hkey, h0⟩]))
end
end Go.Proofs.YtfjjocopmknhgaaGreat
/- Plain forms of functions, and that their code comes to them (package law16). -/
namespace Go.Proofs.YtfjjocopmknhgaaGreat
open Go Go.Sep
set_option linter.unusedVariables false
set_option linter.unusedSimpArgs false
set_option maxRecDepth 100000
set_option maxHeartbeats 4000000
attribute [local irreducible] G Gp Cx Tx Ex Sx Dx Ox Ax Lx Rx Fx Bx Bj Al Do Ld LdN St StN New CallF Ar DoU Rd Rd2 Pu Cd Ite Fv CallV CallY Ans0 Ans1 Ans2 Ans3 Ans4 Ans5 Ext Dead Dr WithS Sv LdS LdNS RdS Rd2S Nn Idx IdxA IdxS Fld Bld Slc SlcS Cat All LoopK RangeF RangeJ TakeD
namespace F_IRLaw16
instance at_105 : AT Tryz.prog 105 3 := ⟨by kernel_rfl⟩
instance at_39 : AT Tryz.prog 39 4 := ⟨by kernel_rfl⟩
instance at_92 : AT Tryz.prog 92 8 := ⟨by kernel_rfl⟩
instance cb_31 : CB Tryz.prog 31 := ⟨by kernel_rfl⟩
instance cb_32 : CB Tryz.prog 32 := ⟨by kernel_rfl⟩
instance cb_37 : CB Tryz.prog 37 := ⟨by kernel_rfl⟩
instance cb_38 : CB Tryz.prog 38 := ⟨by kernel_rfl⟩
instance cb_40 : CB Tryz.prog 40 := ⟨by kernel_rfl⟩
instance cb_41 : CB Tryz.prog 41 := ⟨by kernel_rfl⟩
instance cb_48 : CB Tryz.prog 48 := ⟨by kernel_rfl⟩
instance cb_49 : CB Tryz.prog 49 := ⟨by kernel_rfl⟩
instance cb_70 : CB Tryz.prog 70 := ⟨by kernel_rfl⟩
instance cb_71 : CB Tryz.prog 71 := ⟨by kernel_rfl⟩
instance cb_73 : CB Tryz.prog 73 := ⟨by kernel_rfl⟩
instance cb_74 : CB Tryz.prog 74 := ⟨by kernel_rfl⟩
instance cb_75 : CB Tryz.prog 75 := ⟨by kernel_rfl⟩
instance cb_76 : CB Tryz.prog 76 := ⟨by kernel_rfl⟩
instance ct_3 : CT Tryz.prog 3 := ⟨by kernel_rfl⟩
instance ct_40 : CT Tryz.prog 40 := ⟨by kernel_rfl⟩
instance ct_9 : CT Tryz.prog 9 := ⟨by kernel_rfl⟩
instance ft_105_0 : FT Tryz.prog 105 0 0 1 := ⟨by kernel_rfl⟩
instance ft_92_0 : FT Tryz.prog 92 0 0 1 := ⟨by kernel_rfl⟩
instance ft_92_1 : FT Tryz.prog 92 1 1 1 := ⟨by kernel_rfl⟩
instance ft_92_2 : FT Tryz.prog 92 2 2 4 := ⟨by kernel_rfl⟩
instance ft_92_3 : FT Tryz.prog 92 3 6 1 := ⟨by kernel_rfl⟩
instance ft_92_4 : FT Tryz.prog 92 4 7 1 := ⟨by kernel_rfl⟩
instance mx : MX Tryz.prog := ⟨mixed⟩
instance pl_105 : PLT Tryz.prog 105 [(0, 1), (1, 1), (2, 1)] := ⟨_, Tryz.underlying105, by kernel_rfl⟩
instance pl_37 : PLT Tryz.prog 37 [(0, 1), (1, 1), (2, 1)] := ⟨_, Tryz.underlying37, by kernel_rfl⟩
instance pl_39 : PLT Tryz.prog 39 [(0, 3), (3, 1)] := ⟨_, Tryz.underlying39, by kernel_rfl⟩
instance sl_40 : SLT Tryz.prog 40 105 3 := ⟨by kernel_rfl⟩
instance sl_79 : SLT Tryz.prog 79 92 8 := ⟨by kernel_rfl⟩
instance sl_88 : SLT Tryz.prog 88 39 4 := ⟨by kernel_rfl⟩
instance st_9 : STT Tryz.prog 9 := ⟨by kernel_rfl⟩
instance sz_105 : SZ Tryz.prog 105 3 := ⟨by kernel_rfl⟩
instance sz_39 : SZ Tryz.prog 39 4 := ⟨by kernel_rfl⟩
instance sz_92 : SZ Tryz.prog 92 8 := ⟨by kernel_rfl⟩
instance un_31 : UN Tryz.prog 31 (.pointer 119) := ⟨Tryz.underlying31⟩
instance un_83 : UN Tryz.prog 83 (.pointer 153) := ⟨Tryz.underlying83⟩
instance zt_105 : ZT Tryz.prog 105 (.agg #[(.string ⟨#[]⟩), (.int .i64 0), (.int .u64 0)]) := ⟨Tryz.t105, by kernel_rfl, by kernel_rfl⟩
instance zt_37 : ZT Tryz.prog 37 (.agg #[(.int .i64 0), (.int .u64 0), (.int .u64 0)]) := ⟨Tryz.t37, by kernel_rfl, by kernel_rfl⟩
instance zt_39 : ZT Tryz.prog 39 (.agg #[(.int .i64 0), (.int .u64 0), (.int .u64 0), (.int .i64 0)]) := ⟨Tryz.t39, by kernel_rfl, by kernel_rfl⟩
instance zt_92 : ZT Tryz.prog 92 (.agg #[(.int .i64 0), (.int .i64 0), (.int .i64 0), (.int .u64 0), (.int .u64 0), (.int .i64 0), (.string ⟨#[]⟩), (Sl.val ⟨none, 0, 0⟩)]) := ⟨Tryz.t92, by kernel_rfl, by kernel_rfl⟩
end F_IRLaw16
def law16_speaks.s2 (Q : Bool → K)  (t0_2 : Bool) : K :=
  Q t0_2
def law16_speaks.s1 (Q : Bool → K)  (s1_1 : (Option Addr)) (l3_1 : (Option Addr)) (t17_1 : Bool) : K :=
  Ite t17_1
    (Q false)
    (law16_tag.call 1 fun t20 =>
    Bld #[(.string ⟨#[]⟩), (.int .i64 0), (.int .u64 0)] (fun i => some (i * 3, 3)) [(0, (.agg #[(.string ⟨#[97]⟩), (.int .i64 0), (.int .u64 0)]))] fun ct22 =>
    New 105 ct22 fun t22 =>
    locks_Locks_Enter.call l3_1 s1_1 t20 (Sl.mk (some t22) 1 1) <|
    law16_tag.call 2 fun t26 =>
    Bld #[(.string ⟨#[]⟩), (.int .i64 0), (.int .u64 0), (.string ⟨#[]⟩), (.int .i64 0), (.int .u64 0)] (fun i => some (i * 3, 3)) [(0, (.agg #[(.string ⟨#[97]⟩), (.int .i64 0), (.int .u64 0)])), (1, (.agg #[(.string ⟨#[98]⟩), (.int .i64 0), (.int .u64 0)]))] fun ct29 =>
    New 105 ct29 fun t29 =>
    locks_Locks_Enter.call l3_1 s1_1 t26 (Sl.mk (some t29) 2 2) <|
    law16_tag.call 1 fun t32 =>
    locks_Locks_Ready.call l3_1 t32 fun t33 =>
    law16_tag.call 2 fun t35 =>
    locks_Locks_Ready.call l3_1 t35 fun t36 =>
    law16_tag.call 2 fun t38 =>
    locks_Locks_Ahead.call l3_1 t38 fun t39 =>
    law16_tag.call 1 fun t41 =>
    locks_Locks_Leave.call l3_1 t41 <|
    Ite t33
      (Ite (!t36)
        (law16_tag.call 1 fun t50 =>
        Bld #[(.int .i64 0), (.int .u64 0), (.int .u64 0), (.int .i64 0)] (fun i => some (i * 4, 4)) [(0, (.agg t50))] fun ct51 =>
        New 39 ct51 fun t51 =>
        ref16_Same.call t39 (Sl.mk (some t51) 1 1) fun t52 =>
        Ite t52
          (law16_tag.call 2 fun t56 =>
          locks_Locks_Ready.call l3_1 t56 fun t57 =>
          law16_speaks.s2 Q t57)
          (law16_speaks.s2 Q false))
        (law16_speaks.s2 Q false))
      (law16_speaks.s2 Q false))
def law16_speaks  (Q : Bool → K) : K :=
  store_New.call 1 fun t8x0 t8x1 =>
  locks_New.call  fun t11 =>
  Ite ((t8x0).isNone)
    (law16_speaks.s1 Q t8x0 t11 true)
    (law16_speaks.s1 Q t8x0 t11 ((t11).isNone))
theorem law16_speaks_ok  (Q : Bool → K) (w : World) (h : law16_speaks  Q w) : law16_speaks.call  Q w := by
  have hJ1000009 : JH 1000009 fun D => D [] (fun C => ∀ (t0_2 : Bool), C [(0, (.bool t0_2))] (law16_speaks.s2 Q t0_2)) := by intros; exact ⟨fun _ h => ⟨_, _, h⟩⟩
  have hJ4 : JH 4 fun D => ∃ (s1_1 : (Option Addr)) (l3_1 : (Option Addr)), D [(1, (.pointer s1_1)), (3, (.pointer l3_1))] (fun C => ∀ (t17_1 : Bool), C [(1, (.pointer s1_1)), (3, (.pointer l3_1)), (17, (.bool t17_1))] (law16_speaks.s1 Q s1_1 l3_1 t17_1)) := by intros; exact ⟨fun _ ⟨_, _, h⟩ => ⟨_, _, h⟩⟩
  exact g_walk 59 h Tryz.func29
def law16_great.b3 (Q : Bool → K) (X1 : Int → K) (X3 : Int → K) (t10_3 : Sl) (t11_3 : Int) (t12_3 : Int) (t27_3 : Sl) (t28_3 : Int) (t29_3 : Int) : K :=
  Ite (decide (t29_3 < t28_3))
    (Idx t27_3 t29_3 3 fun t31 =>
    LdN t31 3 fun t32 =>
    New 105 #[(.string ⟨#[]⟩), (.int .i64 0), (.int .u64 0)] fun m6 =>
    StN m6 3 t32 <|
    Ld m6 Value.string fun t34 =>
    Ite (decide ((100 : Int) < (t34.size : Int)))
      (Q true)
      (Ar (IntKind.wrap .i64 (t29_3 + 1)) fun t37 =>
      X3 t37))
    (Ar (IntKind.wrap .i64 (t12_3 + 1)) fun t38 =>
    X1 t38)
def law16_great.s2 (Q : Bool → K) (X1 : Int → K) (o4_2 : Addr) (t10_2 : Sl) (t11_2 : Int) (t12_2 : Int) (t25_2 : Bool) : K :=
  Ite t25_2
    (Q true)
    (Ld (o4_2.add 7) Sl.val fun t27 =>
    LoopK (α := Int) (fun X x => law16_great.b3 Q X1 X t10_2 t11_2 t12_2 t27 (t27.n : Int) x) 0)
def law16_great.b1 (Q : Bool → K)  (X1 : Int → K) (t10_1 : Sl) (t11_1 : Int) (t12_1 : Int) : K :=
  Ite (decide (t12_1 < t11_1))
    (Idx t10_1 t12_1 8 fun t14 =>
    LdN t14 8 fun t15 =>
    New 92 #[(.int .i64 0), (.int .i64 0), (.int .i64 0), (.int .u64 0), (.int .u64 0), (.int .i64 0), (.string ⟨#[]⟩), (Sl.val ⟨none, 0, 0⟩)] fun o4 =>
    StN o4 8 t15 <|
    Ld (o4.add 7) Sl.val fun t17 =>
    Ite (decide ((20 : Int) < (t17.n : Int)))
      (law16_great.s2 Q X1 o4 t10_1 t11_1 t12_1 true)
      (Ld (o4.add 6) Value.string fun t22 =>
      law16_great.s2 Q X1 o4 t10_1 t11_1 t12_1 (decide ((100 : Int) < (t22.size : Int)))))
    (Q false)
def law16_great (script0 : Sl) (Q : Bool → K) : K :=
  Ite (decide ((60 : Int) < (script0.n : Int)))
    (Q true)
    (LoopK (α := Int) (fun X x => law16_great.b1 Q X script0 (script0.n : Int) x) 0)
theorem law16_great_ok (script0 : Sl) (Q : Bool → K) (w : World) (h : law16_great script0 Q w) : law16_great.call script0 Q w := by
  have hL9 : ∀ (X1 : Int → K), XH 4 X1 → ∀ (t10_3 : Sl) (t11_3 : Int) (t12_3 : Int) (t27_3 : Sl) (t28_3 : Int), LH 9 (fun x : Int => [(10, (Sl.val t10_3)), (11, (.int .i64 t11_3)), (12, (.int .i64 t12_3)), (27, (Sl.val t27_3)), (28, (.int .i64 t28_3)), (29, (.int .i64 x))]) (fun X x => law16_great.b3 Q X1 X t10_3 t11_3 t12_3 t27_3 t28_3 x) := by intros; exact ⟨⟩
  have hJ7 : ∀ (X1 : Int → K), XH 4 X1 → JH 7 fun D => ∃ (o4_2 : Addr) (t10_2 : Sl) (t11_2 : Int) (t12_2 : Int), D [(4, (.pointer (some o4_2))), (10, (Sl.val t10_2)), (11, (.int .i64 t11_2)), (12, (.int .i64 t12_2))] (fun C => ∀ (t25_2 : Bool), C [(4, (.pointer (some o4_2))), (10, (Sl.val t10_2)), (11, (.int .i64 t11_2)), (12, (.int .i64 t12_2)), (25, (.bool t25_2))] (law16_great.s2 Q X1 o4_2 t10_2 t11_2 t12_2 t25_2)) := by intros; exact ⟨fun _ ⟨_, _, _, _, h⟩ => ⟨_, _, h⟩⟩
  have hL4 : ∀ (t10_1 : Sl) (t11_1 : Int), LH 4 (fun x : Int => [(10, (Sl.val t10_1)), (11, (.int .i64 t11_1)), (12, (.int .i64 x))]) (fun X x => law16_great.b1 Q X t10_1 t11_1 x) := by intros; exact ⟨⟩
  exact g_walk 39 h Tryz.func30
def law16_step.b1 (Q : K)  (X1 : Int → K) (in10_1 : Sl) (t33_1 : Int) (t34_1 : Int) : K :=
  Ite (decide (t34_1 < t33_1))
    (Idx in10_1 t34_1 3 fun t40 =>
    StN t40 3 #[(.string ⟨#[]⟩), (.int .i64 0), (.int .u64 0)] <|
    Ar (IntKind.wrap .i64 (t34_1 + 1)) fun t41 =>
    X1 t41)
    (Q)
def law16_step (s0 : (Option Addr)) (l1 : (Option Addr)) (t2 : (Option Addr)) (m3 : (Option Addr)) (o4 : (Array Value)) (Q : K) : K :=
  New 92 o4 fun o9 =>
  Ld o9 (Value.int .i64) fun t13 =>
  Ar (bitsOf .and .i64 t13 3) fun t14 =>
  Ite (decide (t14 = 0))
    (LdN (o9.add 2) 4 fun t46 =>
    locks_Locks_Leave.call l1 t46 <|
    LdN (o9.add 2) 4 fun t50 =>
    ref16_Locks_Leave.call m3 t50 <|
    Q)
    (Ite (decide (t14 = 1))
      (Ld (o9.add 6) Value.string fun t56 =>
      Ld (o9.add 1) (Value.int .i64) fun t58 =>
      store_Store_Move.call s0 t56 t58 fun t59 =>
      Ld (o9.add 6) Value.string fun t62 =>
      Ld (o9.add 1) (Value.int .i64) fun t64 =>
      ref06_Store_Move.call t2 t62 t64 fun t65 =>
      Ld (o9.add 6) Value.string fun t69 =>
      locks_Locks_Moved.call l1 s0 t69 <|
      Ld (o9.add 6) Value.string fun t74 =>
      ref16_Locks_Moved.call m3 t2 t74 <|
      Q)
      (New 105 #[] fun t15 =>
      Ld (o9.add 7) Sl.val fun t17 =>
      Do Tryz.prog (Builtin.append_ #[40, 40] 40 #[(Sl.val (Sl.mk (some t15) 0 0)), (Sl.val t17)]) Sl.val fun t18 =>
      LdN (o9.add 2) 4 fun t22 =>
      locks_Locks_Enter.call l1 s0 t22 t18 <|
      LdN (o9.add 2) 4 fun t28 =>
      Ld (o9.add 7) Sl.val fun t30 =>
      ref16_Locks_Enter.call m3 t2 t28 t30 <|
      LoopK (α := Int) (fun X x => law16_step.b1 Q X t18 (t18.n : Int) x) 0))
theorem law16_step_ok (s0 : (Option Addr)) (l1 : (Option Addr)) (t2 : (Option Addr)) (m3 : (Option Addr)) (o4 : (Array Value)) (Q : K) (w : World) (h : law16_step s0 l1 t2 m3 o4 Q w) : law16_step.call s0 l1 t2 m3 o4 Q w := by
  have hL6 : ∀ (in10_1 : Sl) (t33_1 : Int), LH 6 (fun x : Int => [(10, (Sl.val in10_1)), (33, (.int .i64 t33_1)), (34, (.int .i64 x))]) (fun X x => law16_step.b1 Q X in10_1 t33_1 x) := by intros; exact ⟨⟩
  exact g_walk 76 h Tryz.func34
def law16_tag (n0 : Int) (Q : (Array Value) → K) : K :=
  New 39 #[(.int .i64 0), (.int .u64 0), (.int .u64 0), (.int .i64 0)] fun t2 =>
  Bld #[(.int .i64 0), (.int .u64 0), (.int .u64 0), (.int .i64 0)] ([(0, 3), (3, 1)][·]?) [(0, (.agg #[(.int .i64 0), (.int .u64 0), (.int .u64 n0)]))] fun t5 =>
  StN t2 4 t5 <|
  LdN t2 4 fun r0 =>
  Q r0
theorem law16_tag_ok (n0 : Int) (Q : (Array Value) → K) (w : World) (h : law16_tag n0 Q w) : law16_tag.call n0 Q w := by
  exact g_walk 6 h Tryz.func71
end Go.Proofs.YtfjjocopmknhgaaGreat
/- The example of the law's chapter on locks. -/
namespace Go.Proofs.YtfjjocopmknhgaaGreat
open Go Go.Sep Go.Sep.Bt
set_option linter.unusedSimpArgs false
set_option linter.unusedVariables false
set_option maxRecDepth 100000

abbrev tg (n : Int) : TagM := ⟨0, 0, n, 0⟩
section
variable {B : World} {Γ Δ : List HProp}
theorem tag16_hg {n : Int} {Q : Array Value → K} (h : HG B Γ (Q (tagF (tg n)).toArray)) : HG B Γ (law16_tag.call n Q) := by
  refine fun w hw => law16_tag_ok _ _ _ ?_
  refine hg hw ?_
  clear hw w
  unfold law16_tag
  refine s_new fun t2 => ?_
  repeat refine s_nx ?_
  exact s_end h
theorem same16_hg {s1 s2 : Sl} {L1 L2 : List TagM} {Q : Bool → K} (hl : L1.length < 1000000000) (h1 : ∀ w, Holds B Γ w → RdC w s1 4 (L1.flatMap tagF)) (h2 : ∀ w, Holds B Γ w → RdC w s2 4 (L2.flatMap tagF)) (h : HG B Γ (Q (decide (L1 = L2)))) : HG B Γ (ref16_Same.call s1 s2 Q) := fun w hw => by
  refine ref16_Same_ok _ _ _ _ ?_
  have l1 : s1.n = L1.length := rd_len tagF_len (by omega) (h1 w hw)
  have l2 : s2.n = L2.length := rd_len tagF_len (by omega) (h2 w hw)
  refine hg hw ?_
  clear hw w
  unfold ref16_Same
  refine s_ite (fun hb => ?_) fun hb => ?_
  · have hne : L1.length ≠ L2.length := by simp only [decide_eq_true_eq] at hb; omega
    rw [show decide (L1 = L2) = false by simpa using fun e => hne (by rw [e])] at h
    exact h
  have hll : L1.length = L2.length := by simp only [decide_eq_false_iff_not] at hb; omega
  refine s_loopC (α := Int) (fun x => ∃ i : Nat, x = (i : Int) ∧ i ≤ L1.length ∧ L1.take i = L2.take i) (fun x => L1.length - x.toNat) ⟨0, rfl, Nat.zero_le _, by simp⟩ fun k' x hx hk' => ?_
  obtain ⟨i, rfl, hi, he⟩ := hx
  unfold ref16_Same.b1
  refine s_ite (fun hb => ?_) fun hb => ?_
  · have hil : i < L1.length := by simp only [decide_eq_true_eq] at hb; omega
    have hil2 : i < L2.length := by omega
    have t1 := List.take_succ_eq_append_getElem hil
    have t2 := List.take_succ_eq_append_getElem hil2
    have g1 : L1[i]? = some L1[i] := List.getElem?_eq_getElem hil
    have g2 : L2[i]? = some L2[i] := List.getElem?_eq_getElem hil2
    generalize L1[i] = x at t1 g1
    generalize L2[i] = y at t2 g2
    repeat refine s_nx ?_
    refine s_idxN tagF tagF_len h1 g1 ?_
    refine s_idxN tagF tagF_len h2 g2 ?_
    refine s_neS (xs := tagF x) (ys := tagF y) (ks := tagK) (p := x = y) tagF_inj ?_
    refine s_ite (fun hp => ?_) fun hp => ?_
    · have hp' : x ≠ y := by simpa using hp
      rw [show decide (L1 = L2) = false by simp only [decide_eq_false_iff_not]; rintro rfl; rw [g1] at g2; exact hp' (Option.some.inj g2)] at h
      exact h
    · have hp' : x = y := by simpa using hp
      refine s_ai ?_
      exact hk' _ ⟨i + 1, by simp, hil, by rw [t1, t2, he, hp']⟩ (by omega)
  · have hil : i = L1.length := by simp only [decide_eq_false_iff_not] at hb; omega
    rw [hil, List.take_length, hll, List.take_length] at he
    rw [show decide (L1 = L2) = true by simpa using he] at h
    exact h
theorem sort2 : sortL [[97], [98]] = [[97], [98]] := List.mergeSort_of_pairwise (by simp; decide)
theorem speaks16 {q : Bool → K} (h : HG B Γ (q true)) : HG B Γ (law16_speaks.call q) := by
  refine fun w hw => law16_speaks_ok _ _ ?_
  refine hg hw ?_
  clear hw w
  unfold law16_speaks
  refine storeNew_spec (n := 1) (by omega) (by omega) fun st => ?_
  refine locksNew_hg fun l => ?_
  repeat refine s_nx ?_
  unfold law16_speaks.s1
  repeat refine s_nx ?_
  refine tag16_hg ?_
  repeat refine s_nx ?_
  refine s_new fun t22 => ?_
  refine s_own st ?_
  refine s_own l ?_
  refine enter_hg (L := [⟨[97], 0, 0⟩]) (N := 0) (fun w hw => by have := blk_rd (t := t22) (cs := markF ⟨[97], 0, 0⟩) (k := 1) rfl w hw; simpa using this) (by simp) ⟨by simp, by simp⟩ (by simp) ?_
  refine tag16_hg ?_
  refine s_bldF (cs := [(⟨[97], 0, 0⟩ : MarkM), ⟨[98], 0, 0⟩].flatMap markF) ?_
  refine s_new fun t29 => ?_
  refine s_own st ?_
  refine s_own l ?_
  refine enter_hg (L := [⟨[97], 0, 0⟩, ⟨[98], 0, 0⟩]) (N := 1) (fun w hw => RdC.of_blk (E := ty_api_Mark) (b := t29) (n := 2) (vs := [(⟨[97], 0, 0⟩ : MarkM), ⟨[98], 0, 0⟩].flatMap markF) (cs := ([(⟨[97], 0, 0⟩ : MarkM), ⟨[98], 0, 0⟩].flatMap markF).toArray) hw (by simp) (by simp) rfl 2) (by simp) (gsz_enter (x := ([], fun _ => false)) (N := 0) ⟨by simp, by simp⟩) (by simp) ?_
  generalize hM : (enterM 1 [] (tg 2) [⟨[97], 0, 0⟩, ⟨[98], 0, 0⟩] (enterM 1 [] (tg 1) [⟨[97], 0, 0⟩] ([], fun _ => false))) = x
  have hM1 : x.1 = [([97], ([(tg 1, ⟨[97], 0, 0⟩), (tg 2, ⟨[97], 0, 0⟩)], [])), ([98], ([(tg 2, ⟨[98], 0, 0⟩)], []))] := by
    have hh : ∀ k, homeOf k 1 = 0 := fun k => by unfold homeOf; induction k with | nil => rfl | cons b k ih => simpa [Nat.mod_one] using ih
    rw [← hM]
    simp [enterM, enter1, atM, gateM, hasT, mget, mset, markLook, lookS, sGet, getM, hh]
  have hz : gsz x.1 10 := by rw [hM1]; exact ⟨by simp, by simp⟩
  obtain ⟨M, dm⟩ := x
  simp only at hM1 hz ⊢
  refine tag16_hg ?_
  refine ready_hg hz (by omega) ?_
  refine tag16_hg ?_
  refine ready_hg hz (by omega) ?_
  refine tag16_hg ?_
  refine ahead_hg hz (by omega) fun s => ?_
  refine tag16_hg ?_
  refine s_own l ?_
  refine leave_hg hz (by omega) ?_
  have hz2 : gsz (leaveM (tg 1) (M, dm)).1 10 := by rw [show (leaveM (tg 1) (M, dm)).1 = M.map fun p => (p.1, (noT (tg 1) p.2.1, noT (tg 1) p.2.2)) from rfl, hM1]; exact ⟨by simp, by simp [noT]⟩
  have r1 : readyM (tg 1) M = true := by rw [hM1]; rfl
  have r2 : readyM (tg 2) M = false := by rw [hM1]; rfl
  have ha : aheadM (tg 2) M = [tg 1] := by
    have hk : keysM M = [[97], [98]] := by
      unfold keysM
      rw [hM1]
      show (sortL [[97], [98]]).filter _ = _
      rw [sort2]; rfl
    unfold aheadM
    rw [hk, hM1]; rfl
  have r3 : readyM (tg 2) (leaveM (tg 1) (M, dm)).1 = true := by
    rw [show (leaveM (tg 1) (M, dm)).1 = M.map fun p => (p.1, (noT (tg 1) p.2.1, noT (tg 1) p.2.2)) from rfl, hM1]; rfl
  rw [r1, r2, ha]
  repeat refine s_nx ?_
  refine tag16_hg ?_
  repeat refine s_nx ?_
  refine s_new fun t51 => ?_
  refine same16_hg (L1 := [tg 1]) (L2 := [tg 1]) (by simp) (fun w hw => (own_rd (s := s) hw).1) (fun w hw => by have := blk_rd (t := t51) (cs := tagF (tg 1)) (k := 1) rfl w hw; simpa using this) ?_
  repeat refine s_nx ?_
  refine s_t ?_ (by simp)
  refine tag16_hg ?_
  refine s_own l ?_
  refine ready_hg hz2 (by omega) ?_
  rw [r3]
  unfold law16_speaks.s2
  exact s_end h
end
end Go.Proofs.YtfjjocopmknhgaaGreat
/- Scripts of locks: what is great, and one step on both. -/
namespace Go.Proofs.YtfjjocopmknhgaaGreat
open Go Go.Sep Go.Sep.Bt
set_option linter.unusedSimpArgs false
set_option linter.unusedVariables false
set_option linter.unusedSectionVars false
set_option maxRecDepth 100000
structure OpY where
  kind : Int
  to : Int
  tag : TagM
  key : List UInt8
  marks : List MarkM
  ms : Sl
abbrev opyF (o : OpY) : List Value := [.int .i64 o.kind, .int .i64 o.to, .int .i64 o.tag.node, .int .u64 o.tag.epoch, .int .u64 o.tag.seq, .int .i64 o.tag.tr, strV o.key, o.ms.val]
theorem opyF_len (o : OpY) : (opyF o).length = 8 := rfl
def okOp (o : OpY) : Prop := o.marks.length ≤ 20 ∧ o.key.length ≤ 100 ∧ ∀ m ∈ o.marks, m.key.length ≤ 100
/-- Both sides. -/
structure SX where
  m : GM
  dm : DM
  s : Recs
  r : RX
abbrev opC (o : OpY) : Int := bitsOf .and .i64 o.kind 3
abbrev mvS16 (o : OpY) (y : SX) : Recs := (sMove 3 y.s (bs o.key) o.to).1
abbrev lvX (o : OpY) (y : SX) : SX := ⟨(leaveM o.tag (y.m, y.dm)).1, (leaveM o.tag (y.m, y.dm)).2, y.s, rLeave o.tag y.r⟩
abbrev mvX (o : OpY) (y : SX) : SX := ⟨(movedM 3 (mvS16 o y) o.key (y.m, y.dm)).1, (movedM 3 (mvS16 o y) o.key (y.m, y.dm)).2, mvS16 o y, rMoved 3 (mvS16 o y) o.key y.r⟩
abbrev enX (o : OpY) (y : SX) : SX := ⟨(enterM 3 y.s o.tag o.marks (y.m, y.dm)).1, (enterM 3 y.s o.tag o.marks (y.m, y.dm)).2, y.s, rEnter 3 y.s o.tag o.marks y.r⟩
def stp (o : OpY) (y : SX) : SX := if opC o = 0 then lvX o y else if opC o = 1 then mvX o y else enX o y
/-- How much there is. -/
structure SzS (T W : Nat) (y : SX) : Prop where
  gl : y.m.length ≤ T
  gs : ∀ p ∈ y.m, p.2.1.length + p.2.2.length ≤ T
  rs : y.r.line.length + y.r.park.length ≤ T
  rd : y.r.doom.length ≤ W
  sl : y.s.length ≤ T
theorem SzS.gsz {T W : Nat} {y : SX} (h : SzS T W y) : gsz y.m T := ⟨h.gl, fun p hp => by have := h.gs p hp; omega⟩
theorem gs_at {M : GM} {k : List UInt8} {T : Nat} (h : ∀ p ∈ M, p.2.1.length + p.2.2.length ≤ T) : (atM k M).1.length + (atM k M).2.length ≤ T := by
  unfold atM
  rcases mfind k M with ⟨h1, _⟩ | ⟨j, v, _, h0, _, h1, _⟩
  · rw [h1]; simp
  · rw [h1]; exact h _ (List.mem_of_getElem? h0)
theorem gs_gate {M : GM} {k : List UInt8} {T : Nat} (h : ∀ p ∈ M, p.2.1.length + p.2.2.length ≤ T) : ∀ p ∈ gateM k M, p.2.1.length + p.2.2.length ≤ T := fun p hp => by
  unfold gateM at hp
  split at hp
  · rcases List.mem_append.1 hp with hp | hp
    · exact h p hp
    · rw [List.mem_singleton.1 hp]; simp
  · exact h p hp
theorem gs_set {M : GM} {k : List UInt8} {v : List Claim × List Claim} {T : Nat} (h : ∀ p ∈ M, p.2.1.length + p.2.2.length ≤ T) (hv : v.1.length + v.2.length ≤ T) : ∀ p ∈ mset k v M, p.2.1.length + p.2.2.length ≤ T := fun p hp => by
  rcases mem_mset hp with rfl | hp
  · exact hv
  · exact h p hp
theorem gate_len {M : GM} {k : List UInt8} : (gateM k M).length ≤ M.length + 1 := by
  unfold gateM
  split <;> simp
theorem gs_up {M : GM} {T T' : Nat} (h : ∀ p ∈ M, p.2.1.length + p.2.2.length ≤ T) (ht : T ≤ T') : ∀ p ∈ M, p.2.1.length + p.2.2.length ≤ T' := fun p hp => Nat.le_trans (h p hp) ht
theorem gs_enter {n : Nat} {S : Recs} {tag : TagM} {x : GM × DM} {m : MarkM} {T : Nat} (hl : x.1.length ≤ T) (h : ∀ p ∈ x.1, p.2.1.length + p.2.2.length ≤ T) : (enter1 n S tag x m).1.length ≤ T + 1 ∧ ∀ p ∈ (enter1 n S tag x m).1, p.2.1.length + p.2.2.length ≤ T + 1 := by
  have g1 : (gateM m.key x.1).length ≤ T + 1 := Nat.le_trans gate_len (by omega)
  have g2 := gs_up (gs_gate (k := m.key) h) (Nat.le_succ T)
  have g3 := gs_at (k := m.key) h
  unfold enter1
  split
  · exact ⟨g1, g2⟩
  split
  · exact ⟨by rw [mset_len gate_some]; exact g1, gs_set g2 (by simp only [List.length_append, List.length_cons, List.length_nil]; omega)⟩
  split
  · exact ⟨by rw [mset_len gate_some]; exact g1, gs_set g2 (by simp only [List.length_append, List.length_cons, List.length_nil]; omega)⟩
  · exact ⟨g1, g2⟩
theorem gs_enters {n : Nat} {S : Recs} {tag : TagM} : ∀ (L : List MarkM) {x : GM × DM} {T : Nat}, x.1.length ≤ T → (∀ p ∈ x.1, p.2.1.length + p.2.2.length ≤ T) → (enterM n S tag L x).1.length ≤ T + L.length ∧ ∀ p ∈ (enterM n S tag L x).1, p.2.1.length + p.2.2.length ≤ T + L.length
  | [], x, T, h1, h2 => ⟨h1, h2⟩
  | m :: L, x, T, h1, h2 => by
    obtain ⟨a1, a2⟩ := gs_enter (n := n) (S := S) (tag := tag) (m := m) h1 h2
    obtain ⟨b1, b2⟩ := gs_enters (n := n) (S := S) (tag := tag) L a1 a2
    rw [List.length_cons]
    exact ⟨by show (enterM n S tag L (enter1 n S tag x m)).1.length ≤ _; omega, gs_up (T := T + 1 + L.length) b2 (by omega)⟩
theorem delG_sum (r : Rec) : ∀ (L : List Claim) (x : List Claim × DM), (delG (mvP r) (mvS r) x L).1.1.length + (delG (mvP r) (mvS r) x L).2.length ≤ x.1.length + L.length
  | [], x => by simp [delG]
  | c :: L, x => by
    rw [delG_cons]
    have h1 := delG_sum r L (mvS r x c)
    simp only [List.length_cons]
    by_cases h0 : clLook r c = 1
    · rw [show mvP r x c = false by simp [mvP, h0]]
      rw [show mvS r x c = x by simp [mvS, h0]] at h1 ⊢
      simp only [Bool.false_eq_true, if_false, List.length_cons]
      omega
    · rw [show mvP r x c = true by simp [mvP, h0]]
      have h2 := mvS_len r x c
      simp only [if_true]
      omega
theorem gs_moved {n : Nat} {S : Recs} {key : List UInt8} {x : GM × DM} {T : Nat} (hl : x.1.length ≤ T) (h : ∀ p ∈ x.1, p.2.1.length + p.2.2.length ≤ T) : (movedM n S key x).1.length ≤ T + 1 ∧ ∀ p ∈ (movedM n S key x).1, p.2.1.length + p.2.2.length ≤ T := by
  have g1 : (gateM key x.1).length ≤ T + 1 := Nat.le_trans gate_len (by omega)
  have g3 := gs_at (k := key) h
  unfold movedM
  refine ⟨by simp only; rw [mset_len gate_some]; exact g1, gs_set (gs_gate h) ?_⟩
  have := delG_sum (sGet n S (bs key)) (atM key x.1).2 ((atM key x.1).1, doomL (sGet n S (bs key)) (atM key x.1).1 x.2)
  simp only at this ⊢
  omega
theorem gs_leave {tag : TagM} {x : GM × DM} {T : Nat} (hl : x.1.length ≤ T) (h : ∀ p ∈ x.1, p.2.1.length + p.2.2.length ≤ T) : (leaveM tag x).1.length ≤ T ∧ ∀ p ∈ (leaveM tag x).1, p.2.1.length + p.2.2.length ≤ T := by
  refine ⟨by simpa [leaveM] using hl, fun p hp => ?_⟩
  obtain ⟨q, hq, rfl⟩ := List.mem_map.1 hp
  have h1 := h q hq
  have h2 : (noT tag q.2.1).length ≤ q.2.1.length := List.length_filter_le _ _
  have h3 : (noT tag q.2.2).length ≤ q.2.2.length := List.length_filter_le _ _
  simp only
  omega
theorem rsz_enters {n : Nat} {S : Recs} {tag : TagM} : ∀ (L : List MarkM) (x : RX), (rEnter n S tag L x).line.length + (rEnter n S tag L x).park.length ≤ x.line.length + x.park.length + L.length ∧ (rEnter n S tag L x).doom.length ≤ x.doom.length + L.length
  | [], x => by simp [rEnter]
  | m :: L, x => by
    have h1 := rsz_enters (n := n) (S := S) (tag := tag) L (rEnter1 n S tag x m)
    have h2 : (rEnter1 n S tag x m).line.length + (rEnter1 n S tag x m).park.length ≤ x.line.length + x.park.length + 1 ∧ (rEnter1 n S tag x m).doom.length ≤ x.doom.length + 1 := by
      have := addT_le x.doom tag
      unfold rEnter1
      split
      · omega
      split
      · simp only [List.length_append, List.length_cons, List.length_nil]; omega
      split
      · simp only [List.length_append, List.length_cons, List.length_nil]; omega
      · simp only; omega
    show (rEnter n S tag L (rEnter1 n S tag x m)).line.length + (rEnter n S tag L (rEnter1 n S tag x m)).park.length ≤ _ ∧ (rEnter n S tag L (rEnter1 n S tag x m)).doom.length ≤ _
    rw [List.length_cons]
    omega
theorem rMv_sum (r : Rec) (key : List UInt8) : ∀ (L : List Claim) (x : List Claim × List TagM × List Claim), (rMv r key L x).1.length + (rMv r key L x).2.2.length ≤ x.1.length + x.2.2.length + L.length
  | [], x => by simp [rMv]
  | c :: L, x => by
    have h1 := rMv_sum r key L (rMv1 r key x c)
    have h2 : (rMv1 r key x c).1.length + (rMv1 r key x c).2.2.length ≤ x.1.length + x.2.2.length + 1 := by
      unfold rMv1
      split
      · simp; omega
      split <;> simp <;> omega
    show (rMv r key L (rMv1 r key x c)).1.length + (rMv r key L (rMv1 r key x c)).2.2.length ≤ _
    rw [List.length_cons]
    omega
theorem rsz_moved {n : Nat} {S : Recs} {key : List UInt8} {x : RX} : (rMoved n S key x).line.length + (rMoved n S key x).park.length ≤ x.line.length + x.park.length ∧ (rMoved n S key x).doom.length ≤ x.doom.length + x.line.length + x.park.length := by
  unfold rMoved
  have h1 := rMv_sum (sGet n S (bs key)) key x.park (x.line, rDoomL (sGet n S (bs key)) key x.line x.doom, [])
  have h2 := rMv_le (sGet n S (bs key)) key x.park (x.line, rDoomL (sGet n S (bs key)) key x.line x.doom, [])
  have h3 := rDoomL_le (sGet n S (bs key)) key x.line x.doom
  simp only [List.length_nil] at h1 h2 ⊢
  omega
theorem sMove_len16 (n : Nat) (M : Recs) (k : ByteArray) (to : Int) : (sMove n M k to).1.length ≤ M.length + 1 := by
  unfold sMove
  split
  · simp
  split
  · simp
  exact putM_len _ _ _
theorem SzS.step {T W : Nat} {y : SX} {o : OpY} (h : SzS T W y) (ho : okOp o) : SzS (T + 20) (W + T + 20) (stp o y) := by
  obtain ⟨o1, _, _⟩ := ho
  unfold stp
  split
  · obtain ⟨a1, a2⟩ := gs_leave (tag := o.tag) (x := (y.m, y.dm)) h.gl h.gs
    have b1 : (noT o.tag y.r.line).length ≤ y.r.line.length := List.length_filter_le _ _
    have b2 : (noT o.tag y.r.park).length ≤ y.r.park.length := List.length_filter_le _ _
    have b3 : (y.r.doom.filter fun t => !decide (t = o.tag)).length ≤ y.r.doom.length := List.length_filter_le _ _
    have c1 := h.rs; have c2 := h.rd; have c3 := h.sl
    exact ⟨Nat.le_trans a1 (by omega), gs_up a2 (by omega), by simp only; omega, by simp only; omega, by simp only; omega⟩
  split
  · obtain ⟨a1, a2⟩ := gs_moved (n := 3) (S := mvS16 o y) (key := o.key) (x := (y.m, y.dm)) h.gl h.gs
    obtain ⟨b1, b2⟩ := rsz_moved (n := 3) (S := mvS16 o y) (key := o.key) (x := y.r)
    have b3 : (mvS16 o y).length ≤ y.s.length + 1 := sMove_len16 3 y.s (bs o.key) o.to
    have c1 := h.rs; have c2 := h.rd; have c3 := h.sl
    exact ⟨Nat.le_trans a1 (by omega), gs_up a2 (by omega), by simp only; omega, by simp only; omega, by simp only; omega⟩
  · obtain ⟨a1, a2⟩ := gs_enters (n := 3) (S := y.s) (tag := o.tag) o.marks (x := (y.m, y.dm)) h.gl h.gs
    obtain ⟨b1, b2⟩ := rsz_enters (n := 3) (S := y.s) (tag := o.tag) o.marks y.r
    have c1 := h.rs; have c2 := h.rd; have c3 := h.sl
    exact ⟨Nat.le_trans a1 (by omega), gs_up a2 (by omega), by simp only; omega, by simp only; omega, by simp only; omega⟩
abbrev sxL (l st t m : Nat) (P : Pool) (y : SX) (Γ : List HProp) : List HProp := LocksR l y.m y.dm :: StoreR st 3 y.s :: Ref16 m y.r :: Ref6 t 3 y.s P :: Γ
section
variable {B : World} {Γ Δ : List HProp} {k : K} {l st t m : Nat} {P : Pool} {y : SX}
theorem step16_hg {o : OpY} {T W : Nat} {Q : K} (ho : okOp o) (hms : ∀ w, Holds B Γ w → RdC w o.ms 3 (o.marks.flatMap markF)) (hsz : SzS T W y) (hT : T ≤ 20000) (hW : W ≤ 90000) (h : HG B (sxL l st t m P (stp o y) Γ) Q) :
    HG B (sxL l st t m P y Γ) (law16_step.call (some ⟨st, 0, none⟩) (some ⟨l, 0, none⟩) (some ⟨t, 0, none⟩) (some ⟨m, 0, none⟩) (opyF o).toArray Q) := fun w hw => by
  refine law16_step_ok _ _ _ _ _ _ _ ?_
  have hmn : o.ms.n = o.marks.length := rd_len markF_len (by omega) (hms w hw.drops)
  refine hg hw ?_
  clear hw w
  obtain ⟨o1, o2, o3⟩ := ho
  have hg0 := hsz.gsz
  have c1 := hsz.rs; have c2 := hsz.rd; have c3 := hsz.sl
  have hr0 : rsz y.r 90000 := ⟨by omega, by omega, by omega⟩
  unfold stp at h
  unfold law16_step
  refine s_new fun o9 => ?_
  refine s_ld (b := o9) (x := o.kind) ?_
  refine s_ar (e' := opC o) rfl ?_
  by_cases h0 : opC o = 0
  · rw [if_pos h0] at h
    refine s_t ?_ (by simpa using h0)
    refine s_ldN (b := o9) (l' := tagF o.tag) ?_
    refine s_own l ?_
    refine leave_hg hg0 (by omega) ?_
    refine s_ldN (b := o9) (l' := tagF o.tag) ?_
    refine s_own m ?_
    refine leave16_hg ⟨by have := hr0.1; omega, by have := hr0.2.1; omega, by have := hr0.2.2; omega⟩ ?_
    exact s_end h
  rw [if_neg h0] at h
  refine s_f ?_ (by simpa using h0)
  by_cases h1 : opC o = 1
  · rw [if_pos h1] at h
    refine s_t ?_ (by simpa using h1)
    refine s_ld (b := o9) (x := bs o.key) ?_
    refine s_ld (b := o9) (x := o.to) ?_
    refine s_own st ?_
    refine storeMove_spec (by show o.key.length < _; omega) (by omega) ?_
    refine s_ld (b := o9) (x := bs o.key) ?_
    refine s_ld (b := o9) (x := o.to) ?_
    refine s_own t ?_
    refine move6_hg (by show o.key.length < _; omega) (by omega) ?_
    refine s_ld (b := o9) (x := bs o.key) ?_
    refine s_own st ?_
    refine s_own l ?_
    refine moved_hg (by omega) hg0 (by omega) ?_
    refine s_ld (b := o9) (x := bs o.key) ?_
    refine s_own t ?_
    refine s_own m ?_
    have := sMove_len16 3 y.s (bs o.key) o.to
    refine moved16_hg (N := 90000) (by omega) (by omega) hr0 (by omega) ?_
    exact s_end h
  rw [if_neg h1] at h
  refine s_f ?_ (by simpa using h1)
  refine s_new fun t15 => ?_
  refine s_slc0 (esz := 3) ?_
  refine s_ld (b := o9) (x := o.ms) ?_
  refine s_append (us := o.marks.flatMap markF) (fun w hw => hms w hw.drops) (fun v hv => ?_) (by simp only; omega) fun s' hs' => ?_
  · obtain ⟨z, _, hz⟩ := List.mem_flatMap.1 hv
    simp only [markF, List.mem_cons, List.not_mem_nil, or_false] at hz
    rcases hz with rfl | rfl | rfl <;> rfl
  rw [List.nil_append]
  refine s_ldN (b := o9) (l' := tagF o.tag) ?_
  refine s_own st ?_
  refine s_own l ?_
  refine enter_hg (L := o.marks) (fun w hw => (own_rd (s := s') hw).1) (fun z hz => by have := o3 z hz; omega) hg0 (by omega) ?_
  refine s_ldN (b := o9) (l' := tagF o.tag) ?_
  refine s_ld (b := o9) (x := o.ms) ?_
  refine s_own t ?_
  refine s_own m ?_
  refine enter16_hg (L := o.marks) (fun w hw => hms w hw.drops) (fun z hz => by have := o3 z hz; omega) (by omega) hr0 (by omega) ?_
  refine s_end (Δ := SlC ty_api_Mark 3 s' (o.marks.flatMap markF) :: sxL l st t m P (enX o y) Γ) ?_
  simp only at hs'
  refine s_loop (α := Int) (ι := Nat × List MarkM) (fun z i => z = (i.1 : Int) ∧ i.1 ≤ o.marks.length ∧ i.2.length = o.marks.length) (fun z i => SlC ty_api_Mark 3 s' (i.2.flatMap markF) :: sxL l st t m P (enX o y) Γ) (fun z i => o.marks.length - i.1) (0, o.marks) ⟨rfl, Nat.zero_le _, rfl⟩ ?_
  rintro k' _ ⟨i, M2⟩ ⟨rfl, hi, hM⟩ hk'
  simp only at hi hM hk' ⊢
  unfold law16_step.b1
  refine s_ite (fun hb => ?_) fun hb => s_end h
  have hil : i < o.marks.length := by simp only [decide_eq_true_eq] at hb; omega
  refine s_idx (s := s') (i := i) ?_
  refine flatMap_set (f := markF) (M := M2) (x := ⟨[], 0, 0⟩) markF_len rfl (by omega) ?_
  refine s_ai ?_
  exact hk' ((i : Int) + 1) (i + 1, M2.set i ⟨[], 0, 0⟩) ⟨by simp, hil, by rw [List.length_set]; exact hM⟩ (by simp only; omega)
end
end Go.Proofs.YtfjjocopmknhgaaGreat
/- Plain forms of functions, and that their code comes to them (package law16_LocksLeave). -/
namespace Go.Proofs.YtfjjocopmknhgaaGreat
open Go Go.Sep
set_option linter.unusedVariables false
set_option linter.unusedSimpArgs false
set_option maxRecDepth 100000
set_option maxHeartbeats 4000000
attribute [local irreducible] G Gp Cx Tx Ex Sx Dx Ox Ax Lx Rx Fx Bx Bj Al Do Ld LdN St StN New CallF Ar DoU Rd Rd2 Pu Cd Ite Fv CallV CallY Ans0 Ans1 Ans2 Ans3 Ans4 Ans5 Ext Dead Dr WithS Sv LdS LdNS RdS Rd2S Nn Idx IdxA IdxS Fld Bld Slc SlcS Cat All LoopK RangeF RangeJ TakeD
namespace F_IRLaw16LocksLeave
instance at_39 : AT Tryz.prog 39 4 := ⟨by kernel_rfl⟩
instance at_92 : AT Tryz.prog 92 8 := ⟨by kernel_rfl⟩
instance cb_29 : CB Tryz.prog 29 := ⟨by kernel_rfl⟩
instance cb_30 : CB Tryz.prog 30 := ⟨by kernel_rfl⟩
instance cb_31 : CB Tryz.prog 31 := ⟨by kernel_rfl⟩
instance cb_32 : CB Tryz.prog 32 := ⟨by kernel_rfl⟩
instance cb_33 : CB Tryz.prog 33 := ⟨by kernel_rfl⟩
instance cb_34 : CB Tryz.prog 34 := ⟨by kernel_rfl⟩
instance cb_35 : CB Tryz.prog 35 := ⟨by kernel_rfl⟩
instance cb_36 : CB Tryz.prog 36 := ⟨by kernel_rfl⟩
instance cb_37 : CB Tryz.prog 37 := ⟨by kernel_rfl⟩
instance cb_38 : CB Tryz.prog 38 := ⟨by kernel_rfl⟩
instance cb_39 : CB Tryz.prog 39 := ⟨by kernel_rfl⟩
instance cb_40 : CB Tryz.prog 40 := ⟨by kernel_rfl⟩
instance cb_41 : CB Tryz.prog 41 := ⟨by kernel_rfl⟩
instance cb_42 : CB Tryz.prog 42 := ⟨by kernel_rfl⟩
instance cb_43 : CB Tryz.prog 43 := ⟨by kernel_rfl⟩
instance ct_9 : CT Tryz.prog 9 := ⟨by kernel_rfl⟩
instance mx : MX Tryz.prog := ⟨mixed⟩
instance pl_90 : PLT Tryz.prog 90 [(0, 1), (1, 1), (2, 1)] := ⟨_, Tryz.underlying90, by kernel_rfl⟩
instance sl_23 : SLT Tryz.prog 23 9 1 := ⟨by kernel_rfl⟩
instance sl_79 : SLT Tryz.prog 79 92 8 := ⟨by kernel_rfl⟩
instance sl_88 : SLT Tryz.prog 88 39 4 := ⟨by kernel_rfl⟩
instance sz_39 : SZ Tryz.prog 39 4 := ⟨by kernel_rfl⟩
instance sz_92 : SZ Tryz.prog 92 8 := ⟨by kernel_rfl⟩
instance un_31 : UN Tryz.prog 31 (.pointer 119) := ⟨Tryz.underlying31⟩
instance un_83 : UN Tryz.prog 83 (.pointer 153) := ⟨Tryz.underlying83⟩
instance zt_39 : ZT Tryz.prog 39 (.agg #[(.int .i64 0), (.int .u64 0), (.int .u64 0), (.int .i64 0)]) := ⟨Tryz.t39, by kernel_rfl, by kernel_rfl⟩
instance zt_90 : ZT Tryz.prog 90 (.agg #[(Sl.val ⟨none, 0, 0⟩), (Sl.val ⟨none, 0, 0⟩), (Sl.val ⟨none, 0, 0⟩)]) := ⟨Tryz.t90, by kernel_rfl, by kernel_rfl⟩
instance zt_92 : ZT Tryz.prog 92 (.agg #[(.int .i64 0), (.int .i64 0), (.int .i64 0), (.int .u64 0), (.int .u64 0), (.int .i64 0), (.string ⟨#[]⟩), (Sl.val ⟨none, 0, 0⟩)]) := ⟨Tryz.t92, by kernel_rfl, by kernel_rfl⟩
end F_IRLaw16LocksLeave
def law16_LocksLeave.s7 (Q : Bool → K) (X2 : Int → K) (X3 : Int → K) (X5 : K) (X6 : Sl → Int → K) (gone3_7 : Addr) (l7_7 : (Option Addr)) (k15_7 : ByteArray) (want17_7 : Sl) (t85_7 : (Option Addr)) (t92_7 : Sl) (t93_7 : Int) (t94_7 : Int) : K :=
  Ar (IntKind.wrap .i64 (t94_7 + 1)) fun t105 =>
  X6 want17_7 t105
def law16_LocksLeave.s8 (Q : Bool → K) (X2 : Int → K) (X3 : Int → K) (X5 : K) (X6 : Sl → Int → K) (gone3_8 : Addr) (l7_8 : (Option Addr)) (t85_8 : (Option Addr)) (t118_8 : Bool) : K :=
  Ite t118_8
    (Q false)
    (X5)
def law16_LocksLeave.b6 (Q : Bool → K) (X2 : Int → K) (X3 : Int → K) (X5 : K) (X6 : Sl → Int → K) (gone3_6 : Addr) (l7_6 : (Option Addr)) (k15_6 : ByteArray) (t85_6 : (Option Addr)) (t92_6 : Sl) (t93_6 : Int) (want17_6 : Sl) (t94_6 : Int) : K :=
  Ite (decide (t94_6 < t93_6))
    (Idx t92_6 t94_6 4 fun t96 =>
    LdN t96 4 fun t97 =>
    New 39 #[(.int .i64 0), (.int .u64 0), (.int .u64 0), (.int .i64 0)] fun x19 =>
    StN x19 4 t97 <|
    LdN x19 4 fun t98 =>
    LdN gone3_6 4 fun t99 =>
    Pu Tryz.prog (do eqGuard .neq 39 (.tmp 98) (.tmp 99) (.agg t98) (.agg t99); binOp .neq 39 (.agg t98) (.agg t99) : Sem Value) Value.bool fun t100 =>
    Ite t100
      (LdN x19 4 fun t102 =>
      Bld #[(.int .i64 0), (.int .u64 0), (.int .u64 0), (.int .i64 0)] (fun i => some (i * 4, 4)) [(0, (.agg t102))] fun ct103 =>
      New 39 ct103 fun t103 =>
      Do Tryz.prog (Builtin.append_ #[88, 88] 88 #[(Sl.val want17_6), (Sl.val (Sl.mk (some t103) 1 1))]) Sl.val fun t104 =>
      law16_LocksLeave.s7 Q X2 X3 X5 X6 gone3_6 l7_6 k15_6 t104 t85_6 t92_6 t93_6 t94_6)
      (law16_LocksLeave.s7 Q X2 X3 X5 X6 gone3_6 l7_6 k15_6 want17_6 t85_6 t92_6 t93_6 t94_6))
    (Dr <| WithS fun S =>
    locks_Locks_Queue.call l7_6 k15_6 fun t108 =>
    Sv S <|
    ref16_Same.call t108 want17_6 fun t110 =>
    Sv S <|
    Ite (!t110)
      (law16_LocksLeave.s8 Q X2 X3 X5 X6 gone3_6 l7_6 t85_6 true)
      (LdNS S gone3_6 4 fun t116 =>
      locks_Locks_Parked.call l7_6 k15_6 fun t115 =>
      Sv S <|
      ref16_In.call t115 t116 fun t117 =>
      law16_LocksLeave.s8 Q X2 X3 X5 X6 gone3_6 l7_6 t85_6 t117))
def law16_LocksLeave.b5 (Q : Bool → K) (X2 : Int → K) (X3 : Int → K) (X5 : K) (gone3_5 : Addr) (l7_5 : (Option Addr)) (t85_5 : (Option Addr))  : K :=
  Do Tryz.prog (Instr.next (.pointer t85_5) false 0) id fun t86 =>
  Ext t86 0 Value.bool fun t87 =>
  Ite t87
    (Do Tryz.prog (Instr.entry (.pointer t85_5)) id fun t88 =>
    Ext t88 0 Value.string fun t89 =>
    Ext t88 1 Sl.val fun t90 =>
    New 39 #[] fun t91 =>
    LoopK (α := Sl × Int) (fun X x => law16_LocksLeave.b6 Q X2 X3 X5 (fun want17_6 t94_6 => X (want17_6, t94_6)) gone3_5 l7_5 t89 t85_5 t90 (t90.n : Int) x.1 x.2) ((Sl.mk (some t91) 0 0), 0))
    (Q true)
def law16_LocksLeave.s4 (Q : Bool → K) (X2 : Int → K) (X3 : Int → K) (gone3_4 : Addr) (l7_4 : (Option Addr)) (before12_4 : (Option Nat)) (t83_4 : Bool) : K :=
  Ite t83_4
    (Q false)
    (Do Tryz.prog (Instr.range 94 (.map before12_4)) Value.pointer fun t85 =>
    LoopK (α := Unit) (fun X x => law16_LocksLeave.b5 Q X2 X3 (X ()) gone3_4 l7_4 t85) ())
def law16_LocksLeave.b3 (Q : Bool → K) (X2 : Int → K) (X3 : Int → K) (gone3_3 : Addr) (l7_3 : (Option Addr)) (before12_3 : (Option Nat)) (t53_3 : Sl) (t54_3 : Int) (t55_3 : Int) : K :=
  Ite (decide (t55_3 < t54_3))
    (Idx t53_3 t55_3 1 fun t57 =>
    Ld t57 Value.string fun t58 =>
    locks_Locks_Queue.call l7_3 t58 fun t63 =>
    DoU Tryz.prog (Instr.mapUpdate 94 (.map before12_3) (.string t58) (Sl.val t63)) <|
    Ar (IntKind.wrap .i64 (t55_3 + 1)) fun t64 =>
    X3 t64)
    (LdN gone3_3 4 fun t66 =>
    locks_Locks_Leave.call l7_3 t66 <|
    LdN gone3_3 4 fun t69 =>
    locks_Locks_Ahead.call l7_3 t69 fun t70 =>
    Ite (decide ((t70.n : Int) ≠ 0))
      (law16_LocksLeave.s4 Q X2 X3 gone3_3 l7_3 before12_3 true)
      (LdN gone3_3 4 fun t75 =>
      locks_Locks_Doomed.call l7_3 t75 fun t76 =>
      Ite t76
        (law16_LocksLeave.s4 Q X2 X3 gone3_3 l7_3 before12_3 true)
        (LdN gone3_3 4 fun t80 =>
        locks_Locks_Ready.call l7_3 t80 fun t81 =>
        law16_LocksLeave.s4 Q X2 X3 gone3_3 l7_3 before12_3 (!t81))))
def law16_LocksLeave.b2 (Q : Bool → K)  (X2 : Int → K) (gone3_2 : Addr) (s5_2 : (Option Addr)) (l7_2 : (Option Addr)) (t8_2 : (Option Addr)) (m9_2 : Addr) (t38_2 : Sl) (t39_2 : Int) (t40_2 : Int) : K :=
  Ite (decide (t40_2 < t39_2))
    (Idx t38_2 t40_2 8 fun t42 =>
    LdN t42 8 fun t43 =>
    New 92 #[(.int .i64 0), (.int .i64 0), (.int .i64 0), (.int .u64 0), (.int .u64 0), (.int .i64 0), (.string ⟨#[]⟩), (Sl.val ⟨none, 0, 0⟩)] fun o11 =>
    StN o11 8 t43 <|
    LdN o11 8 fun t48 =>
    law16_step.call s5_2 l7_2 t8_2 (some m9_2) t48 <|
    Ar (IntKind.wrap .i64 (t40_2 + 1)) fun t50 =>
    X2 t50)
    (Do Tryz.prog (Instr.makeMap 94 none) Value.map fun t51 =>
    locks_Locks_Keys.call l7_2 fun t53 =>
    LoopK (α := Int) (fun X x => law16_LocksLeave.b3 Q X2 X gone3_2 l7_2 t51 t53 (t53.n : Int) x) 0)
def law16_LocksLeave.s1 (Q : Bool → K)  (script0_1 : Sl) (gone3_1 : Addr) (s5_1 : (Option Addr)) (l7_1 : (Option Addr)) (t8_1 : (Option Addr)) (m9_1 : Addr) (t37_1 : Bool) : K :=
  Ite t37_1
    (Q false)
    (LoopK (α := Int) (fun X x => law16_LocksLeave.b2 Q X gone3_1 s5_1 l7_1 t8_1 m9_1 script0_1 (script0_1.n : Int) x) 0)
def law16_LocksLeave (script0 : Sl) (gone1 : (Array Value)) (Q : Bool → K) : K :=
  New 39 gone1 fun gone3 =>
  law16_speaks.call  fun t20 =>
  Ite (!t20)
    (Q false)
    (law16_great.call script0 fun t23 =>
    Ite t23
      (Q true)
      (store_New.call 3 fun t25x0 t25x1 =>
      locks_New.call  fun t28 =>
      ref06_New.call 3 fun t29 =>
      New 90 #[(Sl.val ⟨none, 0, 0⟩), (Sl.val ⟨none, 0, 0⟩), (Sl.val ⟨none, 0, 0⟩)] fun t31 =>
      Ite ((t25x0).isNone)
        (law16_LocksLeave.s1 Q script0 gone3 t25x0 t28 t29 t31 true)
        (law16_LocksLeave.s1 Q script0 gone3 t25x0 t28 t29 t31 ((t28).isNone))))
theorem law16_LocksLeave_ok (script0 : Sl) (gone1 : (Array Value)) (Q : Bool → K) (w : World) (h : law16_LocksLeave script0 gone1 Q w) : law16_LocksLeave.call script0 gone1 Q w := by
  have hJ32 : ∀ (X2 : Int → K), XH 10 X2 → ∀ (X3 : Int → K), XH 16 X3 → ∀ (X5 : Unit → K), XH 24 X5 → ∀ (X6 : (Sl × Int) → K), XH 28 X6 → JH 32 fun D => ∃ (gone3_7 : Addr) (l7_7 : (Option Addr)) (k15_7 : ByteArray) (t85_7 : (Option Addr)) (t92_7 : Sl) (t93_7 : Int) (t94_7 : Int), D [(3, (.pointer (some gone3_7))), (7, (.pointer l7_7)), (15, (.string k15_7)), (85, (.pointer t85_7)), (92, (Sl.val t92_7)), (93, (.int .i64 t93_7)), (94, (.int .i64 t94_7))] (fun C => ∀ (want17_7 : Sl), C [(3, (.pointer (some gone3_7))), (7, (.pointer l7_7)), (15, (.string k15_7)), (17, (Sl.val want17_7)), (85, (.pointer t85_7)), (92, (Sl.val t92_7)), (93, (.int .i64 t93_7)), (94, (.int .i64 t94_7))] (law16_LocksLeave.s7 Q X2 X3 (X5 ()) (fun want17_6 t94_6 => X6 (want17_6, t94_6)) gone3_7 l7_7 k15_7 want17_7 t85_7 t92_7 t93_7 t94_7)) := by intros; exact ⟨fun _ ⟨_, _, _, _, _, _, _, h⟩ => ⟨_, _, h⟩⟩
  have hJ34 : ∀ (X2 : Int → K), XH 10 X2 → ∀ (X3 : Int → K), XH 16 X3 → ∀ (X5 : Unit → K), XH 24 X5 → ∀ (X6 : (Sl × Int) → K), XH 28 X6 → JH 34 fun D => ∃ (gone3_8 : Addr) (l7_8 : (Option Addr)) (t85_8 : (Option Addr)), D [(3, (.pointer (some gone3_8))), (7, (.pointer l7_8)), (85, (.pointer t85_8))] (fun C => ∀ (t118_8 : Bool), C [(3, (.pointer (some gone3_8))), (7, (.pointer l7_8)), (85, (.pointer t85_8)), (118, (.bool t118_8))] (law16_LocksLeave.s8 Q X2 X3 (X5 ()) (fun want17_6 t94_6 => X6 (want17_6, t94_6)) gone3_8 l7_8 t85_8 t118_8)) := by intros; exact ⟨fun _ ⟨_, _, _, h⟩ => ⟨_, _, h⟩⟩
  have hD33 : DH 33 2 [11] (.s [0, 1, 3] (.a [(2, 1, .a [(4, 1, .s [5, 6] (.i (.s [7, 8, 9, 10, 11, 12] .e) (.s [7, 8, 10] (.a [(9, 1, .a [(11, 0, .s [12] .e)])]))))])])) := by intros; exact ⟨⟩
  have hL28 : ∀ (X2 : Int → K), XH 10 X2 → ∀ (X3 : Int → K), XH 16 X3 → ∀ (X5 : Unit → K), XH 24 X5 → ∀ (gone3_6 : Addr) (l7_6 : (Option Addr)) (k15_6 : ByteArray) (t85_6 : (Option Addr)) (t92_6 : Sl) (t93_6 : Int), LH 28 (fun x : Sl × Int => [(3, (.pointer (some gone3_6))), (7, (.pointer l7_6)), (15, (.string k15_6)), (17, (Sl.val x.1)), (85, (.pointer t85_6)), (92, (Sl.val t92_6)), (93, (.int .i64 t93_6)), (94, (.int .i64 x.2))]) (fun X x => law16_LocksLeave.b6 Q X2 X3 (X5 ()) (fun want17_6 t94_6 => X (want17_6, t94_6)) gone3_6 l7_6 k15_6 t85_6 t92_6 t93_6 x.1 x.2) := by intros; exact ⟨⟩
  have hL24 : ∀ (X2 : Int → K), XH 10 X2 → ∀ (X3 : Int → K), XH 16 X3 → ∀ (gone3_5 : Addr) (l7_5 : (Option Addr)) (t85_5 : (Option Addr)), LH 24 (fun x : Unit => [(3, (.pointer (some gone3_5))), (7, (.pointer l7_5)), (85, (.pointer t85_5))]) (fun X x => law16_LocksLeave.b5 Q X2 X3 (X ()) gone3_5 l7_5 t85_5) := by intros; exact ⟨⟩
  have hJ22 : ∀ (X2 : Int → K), XH 10 X2 → ∀ (X3 : Int → K), XH 16 X3 → JH 22 fun D => ∃ (gone3_4 : Addr) (l7_4 : (Option Addr)) (before12_4 : (Option Nat)), D [(3, (.pointer (some gone3_4))), (7, (.pointer l7_4)), (12, (.map before12_4))] (fun C => ∀ (t83_4 : Bool), C [(3, (.pointer (some gone3_4))), (7, (.pointer l7_4)), (12, (.map before12_4)), (83, (.bool t83_4))] (law16_LocksLeave.s4 Q X2 X3 gone3_4 l7_4 before12_4 t83_4)) := by intros; exact ⟨fun _ ⟨_, _, _, h⟩ => ⟨_, _, h⟩⟩
  have hL16 : ∀ (X2 : Int → K), XH 10 X2 → ∀ (gone3_3 : Addr) (l7_3 : (Option Addr)) (before12_3 : (Option Nat)) (t53_3 : Sl) (t54_3 : Int), LH 16 (fun x : Int => [(3, (.pointer (some gone3_3))), (7, (.pointer l7_3)), (12, (.map before12_3)), (53, (Sl.val t53_3)), (54, (.int .i64 t54_3)), (55, (.int .i64 x))]) (fun X x => law16_LocksLeave.b3 Q X2 X gone3_3 l7_3 before12_3 t53_3 t54_3 x) := by intros; exact ⟨⟩
  have hL10 : ∀ (gone3_2 : Addr) (s5_2 : (Option Addr)) (l7_2 : (Option Addr)) (t8_2 : (Option Addr)) (m9_2 : Addr) (t38_2 : Sl) (t39_2 : Int), LH 10 (fun x : Int => [(3, (.pointer (some gone3_2))), (5, (.pointer s5_2)), (7, (.pointer l7_2)), (8, (.pointer t8_2)), (9, (.pointer (some m9_2))), (38, (Sl.val t38_2)), (39, (.int .i64 t39_2)), (40, (.int .i64 x))]) (fun X x => law16_LocksLeave.b2 Q X gone3_2 s5_2 l7_2 t8_2 m9_2 t38_2 t39_2 x) := by intros; exact ⟨⟩
  have hJ8 : JH 8 fun D => ∃ (script0_1 : Sl) (gone3_1 : Addr) (s5_1 : (Option Addr)) (l7_1 : (Option Addr)) (t8_1 : (Option Addr)) (m9_1 : Addr), D [(0, (Sl.val script0_1)), (3, (.pointer (some gone3_1))), (5, (.pointer s5_1)), (7, (.pointer l7_1)), (8, (.pointer t8_1)), (9, (.pointer (some m9_1)))] (fun C => ∀ (t37_1 : Bool), C [(0, (Sl.val script0_1)), (3, (.pointer (some gone3_1))), (5, (.pointer s5_1)), (7, (.pointer l7_1)), (8, (.pointer t8_1)), (9, (.pointer (some m9_1))), (37, (.bool t37_1))] (law16_LocksLeave.s1 Q script0_1 gone3_1 s5_1 l7_1 t8_1 m9_1 t37_1)) := by intros; exact ⟨fun _ ⟨_, _, _, _, _, _, h⟩ => ⟨_, _, h⟩⟩
  exact g_walk 119 h Tryz.func6
end Go.Proofs.YtfjjocopmknhgaaGreat
