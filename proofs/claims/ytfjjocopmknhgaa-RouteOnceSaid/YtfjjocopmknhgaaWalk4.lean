/- The whole walk of a function, by the kinds of its operations. Holds for every program. -/
import Derived.Test.YtfjjocopmknhgaaRanges
namespace Go.Sep
open Go
set_option linter.unusedVariables false
def opb : Builtin → Nat
  | .len => 20
  | .max | .min => 21
  | _ => 22
def opc : Op → Nat
  | .move _ | .assign _ => 0
  | .pick _ _ _ => 1
  | .nilCheck _ => 2
  | .fieldAddr _ _ _ => 3
  | .extract _ _ => 4
  | .makeFunc _ _ _ => 5
  | .unOp o _ _ => match o with
    | .not => 6
    | _ => 7
  | .binOp o _ _ _ _ => match o with
    | .add | .sub | .mul | .and | .or | .xor => 8
    | .shl | .shr | .quo | .rem | .andNot => 9
    | _ => 10
  | .convert _ _ _ => 11
  | .build _ _ => 12
  | .load _ _ => 13
  | .lookup _ _ _ _ => 14
  | .alloc _ | .box _ _ => 15
  | .buildSlice _ _ _ => 16
  | .store _ _ _ => 17
  | .mapUpdate _ _ _ _ => 18
  | .call c => match c.callee with
    | .builtin b => opb b
    | _ => 19
  | .makeMap _ _ | .makeSlice _ _ _ => 23
  | .range _ _ | .next _ _ | .entry _ => 24
  | .makeInterface _ _ => 25
  | .field _ _ _ => 26
  | .index _ _ _ | .indexAddr _ _ _ => 27
  | .slice _ _ _ _ _ => 28
  | _ => 99
def opi (ops : Array Oper) (i : Nat) : Nat := match ops[i]? with
  | some o => opc o.op
  | none => 98
section
variable {P : Program} {dl : List Deferred} {n : Nat} {σ : List (Nat × Value)} {k : K} {r : Option Nat} {ops : Array Oper} {Q : Exit → Act → World → Prop} {l : List Oper} {o : Oper} {S : World → Prop} {ds done is : List Nat} {i tag : Nat} {t : Scr} {c x y : Code} {e : Exit} {kk : Value → K} {u : Operand}
theorem is_tx (h : G dl n σ k (Tx r P ops Q l)) : G dl n σ k (Tx r P ops Q l) := h
theorem is_cx (h : G dl n σ k (Cx r P c Q)) : G dl n σ k (Cx r P c Q) := h
theorem is_ex (h : G dl n σ k (Ex Q e)) : G dl n σ k (Ex Q e) := h
theorem is_rx {rs : List ResultVar} {vs : List Value} (h : G dl n σ k (Rx P kk rs vs)) : G dl n σ k (Rx P kk rs vs) := h
theorem is_fx {q : K} (h : G dl n σ k (Fx q)) : G dl n σ k (Fx q) := h
theorem is_dx (h : G dl n σ k (Dx P ops Q S ds done t)) : G dl n σ k (Dx P ops Q S ds done t) := h
theorem is_ox (h : G dl n σ k (Ox P ops Q S ds done i tag t)) : G dl n σ k (Ox P ops Q S ds done i tag t) := h
theorem is_sx (h : G dl n σ k (Sx P ops Q l)) : G dl n σ k (Sx P ops Q l) := h
theorem is_lx {α : Type} {S : α → List (Nat × Value)} {X : α → K} (h : G dl n σ k (Lx dl n S X)) : G dl n σ k (Lx dl n S X) := h
theorem is_seq (h : G dl n σ k (Cx r P (.seq x y) Q)) : G dl n σ k (Cx r P (.seq x y) Q) := h
theorem is_cond (h : G dl n σ k (Cx r P (.cond u x y) Q)) : G dl n σ k (Cx r P (.cond u x y) Q) := h
theorem is_draw (h : G dl n σ k (Cx r P (.region i ops true) Q)) : G dl n σ k (Cx r P (.region i ops true) Q) := h
theorem is_t (c : Nat) (h : G dl n σ k (Tx r P ops Q (o :: l))) (hc : opc o.op = c) : G dl n σ k (Tx r P ops Q (o :: l)) := h
theorem is_s (c : Nat) (h : G dl n σ k (Sx P ops Q (o :: l))) (hc : opc o.op = c) : G dl n σ k (Sx P ops Q (o :: l)) := h
theorem is_d (c : Nat) (h : G dl n σ k (Dx P ops Q S ds done (.s (i :: is) t))) (hc : opi ops i = c) : G dl n σ k (Dx P ops Q S ds done (.s (i :: is) t)) := h
theorem is_o (c : Nat) (h : G dl n σ k (Ox P ops Q S ds done i tag t)) (hc : opi ops i = c) : G dl n σ k (Ox P ops Q S ds done i tag t) := h
theorem is_gd (h : G dl n σ k (Tx r P ops Q (o :: l))) (hc : o.guard.isSome = true) : G dl n σ k (Tx r P ops Q (o :: l)) := h
theorem is_gs (h : G dl n σ k (Sx P ops Q (o :: l))) (hc : o.guard.isSome = true) : G dl n σ k (Sx P ops Q (o :: l)) := h
theorem is_gdx (h : G dl n σ k (Dx P ops Q S ds done (.s (i :: is) t))) (hc : (ops[i]?).map (fun o => o.guard.isSome) = some true) : G dl n σ k (Dx P ops Q S ds done (.s (i :: is) t)) := h
theorem cx_cond_i {b : Bool} {kx ky : K} (h1 : G dl n σ kx (Cx r P x Q)) (h2 : G dl n σ ky (Cx r P y Q)) (he : ev σ u = some (.bool b)) : G dl n σ (Ite b kx ky) (Cx r P (.cond u x y) Q) := cx_cond h1 h2 he
theorem al_an0 {d : Nat} {u v0 : Value} {X1 : Act → World → Prop} (h : G dl n ((d, v0) :: σ) (Al S k) X1) : G dl n ((d, u) :: σ) (Al S (Ans0 v0 k u)) X1 := fun a w hs ⟨hS, hu, hk⟩ => h a w (hu ▸ hs) ⟨hS, hk⟩
theorem au_p0 {v : Value} (h : Pure P σ o v := by first | exact p_move rfl rfl | exact p_assign rfl rfl) : Pure P σ o v := h
theorem au_p1 {v : Value} (h : Pure P σ o v := by first | exact p_pick_t rfl rfl rfl | exact p_pick_f rfl rfl rfl | exact p_pick_b rfl rfl rfl rfl) : Pure P σ o v := h
theorem au_p2 {v : Value} (h : Pure P σ o v := by first | exact p_nil rfl rfl | exact p_nilf rfl rfl) : Pure P σ o v := h
theorem au_p3 {v : Value} (h : Pure P σ o v := by first | exact q_fieldAddr0 rfl rfl | exact q_fieldAddr rfl rfl) : Pure P σ o v := h
theorem au_p4 {v : Value} (h : Pure P σ o v := by exact q_extract rfl rfl rfl) : Pure P σ o v := h
theorem au_p5 {v : Value} (h : Pure P σ o v := by exact p_makeFunc rfl rfl rfl) : Pure P σ o v := h
theorem au_p6 {v : Value} (h : Pure P σ o v := by exact p_not rfl rfl) : Pure P σ o v := h
theorem au_p10 {v : Value} (h : Pure P σ o v := by first | exact p_eq rfl rfl rfl | exact p_ne rfl rfl rfl | exact p_lt rfl rfl rfl | exact p_le rfl rfl rfl | exact p_gt rfl rfl rfl | exact p_ge rfl rfl rfl | exact p_eqs rfl rfl rfl | exact p_nes rfl rfl rfl | exact p_lts rfl rfl rfl | exact p_gts rfl rfl rfl | exact p_ges rfl rfl rfl | exact p_les rfl rfl rfl | exact q_eq_nil rfl rfl rfl | exact q_ne_nil rfl rfl rfl | exact q_eq_sl rfl rfl rfl | exact q_ne_sl rfl rfl rfl | exact q_eqb rfl rfl rfl | exact q_neb rfl rfl rfl) : Pure P σ o v := h
theorem au_p11 {v : Value} (h : Pure P σ o v := by exact q_conv_str rfl rfl) : Pure P σ o v := h
theorem au_p12 {v : Value} (h : Pure P σ o v := by exact q_build rfl rfl rfl rfl (by kernel_rfl)) : Pure P σ o v := h
theorem au_p20 {v : Value} (h : Pure P σ o v := by first | exact q_len rfl rfl | exact q_lens rfl rfl) : Pure P σ o v := h
theorem au_p26 {v : Value} (h : Pure P σ o v := by exact q_fieldN rfl rfl) : Pure P σ o v := h
theorem au_wp4 {α : Type} {k : K} {vx : α → Value} {k1 : α → K} (h : WP P σ o k vx k1 := by exact wp_ext rfl rfl) : WP P σ o k vx k1 := h
theorem au_wp7 {α : Type} {k : K} {vx : α → Value} {k1 : α → K} (h : WP P σ o k vx k1 := by exact wp_ar (by first | exact p_neg rfl rfl | exact p_com rfl rfl)) : WP P σ o k vx k1 := h
theorem au_wp8 {α : Type} {k : K} {vx : α → Value} {k1 : α → K} (h : WP P σ o k vx k1 := by first | exact wp_ar (by first | exact p_add rfl rfl rfl | exact p_sub rfl rfl rfl | exact p_mul rfl rfl rfl | exact p_and rfl rfl rfl | exact p_or rfl rfl rfl | exact p_xor rfl rfl rfl) | exact wp_cat rfl rfl rfl) : WP P σ o k vx k1 := h
theorem au_wp9 {α : Type} {k : K} {vx : α → Value} {k1 : α → K} (h : WP P σ o k vx k1 := by exact wp_cdar (fun h0 => by first | exact p_shl rfl rfl rfl h0 | exact p_shr rfl rfl rfl h0 | exact p_quo rfl rfl rfl h0 | exact p_rem rfl rfl rfl h0)) : WP P σ o k vx k1 := h
theorem au_wp10 {α : Type} {k : K} {vx : α → Value} {k1 : α → K} (h : WP P σ o k vx k1 := by exact wp_pu (e_binOp' rfl rfl rfl)) : WP P σ o k vx k1 := h
theorem au_wp11 {α : Type} {k : K} {vx : α → Value} {k1 : α → K} (h : WP P σ o k vx k1 := by exact wp_ar (q_conv_int rfl rfl)) : WP P σ o k vx k1 := h
theorem au_wp12 {α : Type} {k : K} {vx : α → Value} {k1 : α → K} (h : WP P σ o k vx k1 := by first | exact wp_bld rfl rfl rfl | exact wp_pu (e_buildg' rfl rfl)) : WP P σ o k vx k1 := h
theorem au_wp21 {α : Type} {k : K} {vx : α → Value} {k1 : α → K} (h : WP P σ o k vx k1 := by exact wp_ar (by first | exact p_max _ rfl rfl rfl | exact p_min _ rfl rfl rfl)) : WP P σ o k vx k1 := h
theorem au_wp26 {α : Type} {k : K} {vx : α → Value} {k1 : α → K} (h : WP P σ o k vx k1 := by exact wp_fld rfl rfl) : WP P σ o k vx k1 := h
theorem au_wp27 {α : Type} {k : K} {vx : α → Value} {k1 : α → K} (h : WP P σ o k vx k1 := by first | exact wp_idx rfl rfl rfl | exact wp_idxS rfl rfl rfl | exact wp_idxA rfl rfl rfl) : WP P σ o k vx k1 := h
theorem au_wp28 {α : Type} {k : K} {vx : α → Value} {k1 : α → K} (h : WP P σ o k vx k1 := by first | exact wp_slc rfl rfl (by first | exact rfl | exact ⟨_, rfl⟩) (by first | exact rfl | exact ⟨_, rfl⟩) (by first | exact rfl | exact ⟨_, rfl⟩) rfl | exact wp_slcS rfl rfl (by first | exact rfl | exact ⟨_, rfl⟩) (by first | exact rfl | exact ⟨_, rfl⟩)) : WP P σ o k vx k1 := h
theorem au_wr11 {α : Type} {k : K} {vx : α → Value} {k1 : α → K} (h : WR P σ o k vx k1 := by exact wr_rd (e_convert' rfl rfl)) : WR P σ o k vx k1 := h
theorem au_wr13 {α : Type} {k : K} {vx : α → Value} {k1 : α → K} (h : WR P σ o k vx k1 := by first | exact wr_ld rfl rfl | exact wr_ldN rfl rfl) : WR P σ o k vx k1 := h
theorem au_wr14 {α : Type} {k : K} {vx : α → Value} {k1 : α → K} (h : WR P σ o k vx k1 := by first | exact wr_rd (e_lookup' rfl rfl rfl) | exact wr_rd2 (e_lookup' rfl rfl rfl)) : WR P σ o k vx k1 := h
theorem au_wr20 {α : Type} {k : K} {vx : α → Value} {k1 : α → K} (h : WR P σ o k vx k1 := by exact wr_rd (e_len' rfl rfl rfl)) : WR P σ o k vx k1 := h
theorem au_wr25 {α : Type} {k : K} {vx : α → Value} {k1 : α → K} (h : WR P σ o k vx k1 := by exact wr_rd (e_mkI' rfl rfl)) : WR P σ o k vx k1 := h
theorem au_we11 {α : Type} {k : K} {vx : α → Value} {k1 : α → K} (h : WE P σ o k vx k1 := by exact we_do (e_convert' rfl rfl)) : WE P σ o k vx k1 := h
theorem au_we15 {α : Type} {k : K} {vx : α → Value} {k1 : α → K} (h : WE P σ o k vx k1 := by first | exact we_box rfl rfl rfl | exact we_alloc rfl rfl) : WE P σ o k vx k1 := h
theorem au_we16 {α : Type} {k : K} {vx : α → Value} {k1 : α → K} (h : WE P σ o k vx k1 := by first | exact we_slice rfl rfl rfl rfl (by kernel_rfl) | exact we_bldslice rfl rfl rfl (by kernel_rfl)) : WE P σ o k vx k1 := h
theorem au_we22 {α : Type} {k : K} {vx : α → Value} {k1 : α → K} (h : WE P σ o k vx k1 := by exact we_do (by first | exact e_append' rfl rfl rfl rfl | exact e_copy' rfl rfl rfl rfl | exact e_delete' rfl rfl rfl rfl | exact e_cap' rfl rfl rfl | exact e_clear' rfl rfl rfl)) : WE P σ o k vx k1 := h
theorem au_we23 {α : Type} {k : K} {vx : α → Value} {k1 : α → K} (h : WE P σ o k vx k1 := by exact we_do (by first | exact e_makeMap' rfl | exact e_makeSlice' rfl rfl rfl)) : WE P σ o k vx k1 := h
theorem au_we24 {α : Type} {k : K} {vx : α → Value} {k1 : α → K} (h : WE P σ o k vx k1 := by exact we_do (by first | exact e_next' rfl rfl rfl | exact e_range' rfl rfl | exact e_entry' rfl rfl)) : WE P σ o k vx k1 := h
theorem au_wk17 {k k1 : K} (h : WK P σ o k k1 := by first | exact wk_st rfl rfl rfl | exact wk_stN rfl rfl rfl) : WK P σ o k k1 := h
theorem au_wk18 {k k1 : K} (h : WK P σ o k k1 := by exact wk_do (e_mapUpdate' rfl rfl rfl rfl)) : WK P σ o k k1 := h
theorem au_wc19 {k : K} {kk : Value → K} (h : WC P σ o k kk := by first | exact wc_call rfl rfl rfl rfl | exact wc_callv rfl rfl rfl rfl | exact wc_fv rfl rfl rfl) : WC P σ o k kk := h
theorem au_ws11 {S : World → Prop} {α : Type} {k : K} {vx : α → Value} {k1 : α → K} (h : WS P S σ o k vx k1 := by exact ws_rd (e_convert' rfl rfl)) : WS P S σ o k vx k1 := h
theorem au_ws13 {S : World → Prop} {α : Type} {k : K} {vx : α → Value} {k1 : α → K} (h : WS P S σ o k vx k1 := by first | exact ws_ld rfl rfl | exact ws_ldN rfl rfl) : WS P S σ o k vx k1 := h
theorem au_ws14 {S : World → Prop} {α : Type} {k : K} {vx : α → Value} {k1 : α → K} (h : WS P S σ o k vx k1 := by first | exact ws_rd (e_lookup' rfl rfl rfl) | exact ws_rd2 (e_lookup' rfl rfl rfl)) : WS P S σ o k vx k1 := h
theorem au_ws20 {S : World → Prop} {α : Type} {k : K} {vx : α → Value} {k1 : α → K} (h : WS P S σ o k vx k1 := by exact ws_rd (e_len' rfl rfl rfl)) : WS P S σ o k vx k1 := h
theorem au_ws25 {S : World → Prop} {α : Type} {k : K} {vx : α → Value} {k1 : α → K} (h : WS P S σ o k vx k1 := by exact ws_rd (e_mkI' rfl rfl)) : WS P S σ o k vx k1 := h
end
set_option maxRecDepth 100000 in
theorem g_walk {P : Program} {f : FuncId} {fn : Func} {c : Code} {args : List Value} {kk : Value → K} {k : K} (n : Nat) {w : World} (hk : k w) (hf : P.funcs[f]? = some fn) (hb : fn.body = some c := by rfl) (hn : fn.ntmps = n := by rfl) (hl : Nat.ble args.length n = true := by rfl)
    (h : G [] n (numb 0 args) k (Cx none P c (bodyPostT P fn (Ret kk))) := by
      repeat' first
      | intro _
      | (refine is_tx ?_; first
          | refine tx_nil ?_
          | (refine is_gd ?_ rfl; first | refine tx_no ?_ | refine tx_no' ?_)
          | (refine is_t 0 ?_ rfl; refine tx_p (hp := by exact au_p0) ?_)
          | (refine is_t 2 ?_ rfl; first | refine tx_p (hp := by exact au_p2) ?_ | (refine gx_nn ?_; intro b hb; subst hb) | (refine gx_fv ?_; intro g fs cs hf cb; subst hf))
          | (refine is_t 3 ?_ rfl; refine tx_p (hp := by exact au_p3) ?_)
          | (refine is_t 13 ?_ rfl; refine tx_wr (hp := by exact au_wr13) ?_)
          | (refine is_t 19 ?_ rfl; first | (refine tx_wc (hp := by exact au_wc19) ?_; intro u; first | refine an_1 ?_ | refine an_0 ?_ | refine an_2 ?_ | refine an_3 ?_ | refine an_4 ?_ | refine an_5 ?_) | refine tx_wr (hp := by exact wr_rd (e_ext' rfl rfl rfl)) ?_ | (refine tx_wcn (hp := by exact au_wc19) ?_; intro u; first | refine am_0 ?_ | refine am_1 ?_ | refine am_2 ?_ | skip) | (refine tx_wy ?_; intro u; first | refine an_1 ?_ | refine an_0 ?_ | refine an_2 ?_ | refine an_3 ?_ | refine an_4 ?_ | refine an_5 ?_))
          | (refine is_t 10 ?_ rfl; first | refine tx_p (hp := by exact au_p10) ?_ | refine tx_wp (hp := by exact au_wp10) ?_)
          | (refine is_t 8 ?_ rfl; refine tx_wp (hp := by exact au_wp8) ?_)
          | (refine is_t 20 ?_ rfl; first | refine tx_p (hp := by exact au_p20) ?_ | refine tx_wr (hp := by exact au_wr20) ?_)
          | (refine is_t 27 ?_ rfl; refine tx_wp (hp := by exact au_wp27) ?_)
          | (refine is_t 4 ?_ rfl; first | refine tx_p (hp := by exact au_p4) ?_ | refine tx_wp (hp := by exact au_wp4) ?_)
          | (refine is_t 17 ?_ rfl; refine tx_wk (hp := by exact au_wk17) ?_)
          | (refine is_t 1 ?_ rfl; refine tx_p (hp := by exact au_p1) ?_)
          | (refine is_t 6 ?_ rfl; refine tx_p (hp := by exact au_p6) ?_)
          | (refine is_t 15 ?_ rfl; refine tx_we (hp := by exact au_we15) ?_)
          | (refine is_t 16 ?_ rfl; refine tx_we (hp := by exact au_we16) ?_)
          | (refine is_t 22 ?_ rfl; first | refine tx_we (hp := by exact au_we22) ?_ | refine tx_wen (hp := by exact au_we22) ?_)
          | (refine is_t 28 ?_ rfl; refine tx_wp (hp := by exact au_wp28) ?_)
          | (refine is_t 11 ?_ rfl; first | refine tx_wp (hp := by exact au_wp11) ?_ | refine tx_p (hp := by exact au_p11) ?_ | refine tx_wr (hp := by exact au_wr11) ?_ | refine tx_we (hp := by exact au_we11) ?_)
          | (refine is_t 26 ?_ rfl; first | refine tx_wp (hp := by exact au_wp26) ?_ | refine tx_p (hp := by exact au_p26) ?_)
          | (refine is_t 12 ?_ rfl; first | refine tx_wp (hp := by exact au_wp12) ?_ | refine tx_p (hp := by exact au_p12) ?_)
          | (refine is_t 5 ?_ rfl; refine tx_p (hp := by exact au_p5) ?_)
          | (refine is_t 7 ?_ rfl; refine tx_wp (hp := by exact au_wp7) ?_)
          | (refine is_t 9 ?_ rfl; refine tx_wp (hp := by exact au_wp9) ?_)
          | (refine is_t 14 ?_ rfl; first | refine tx_wr (hp := by exact wr_rd (e_lookup' rfl rfl rfl)) ?_ | (refine tx_wr (hp := by exact wr_rd2 (e_lookup' rfl rfl rfl)) ?_; intro u; refine an_2 ?_))
          | (refine is_t 18 ?_ rfl; refine tx_wk (hp := by exact au_wk18) ?_)
          | (refine is_t 21 ?_ rfl; refine tx_wp (hp := by exact au_wp21) ?_)
          | (refine is_t 23 ?_ rfl; refine tx_we (hp := by exact au_we23) ?_)
          | (refine is_t 24 ?_ rfl; refine tx_we (hp := by exact au_we24) ?_)
          | (refine is_t 25 ?_ rfl; refine tx_wr (hp := by exact au_wr25) ?_)
          | (refine tx_ite ?_ ?_ <;> (intro hb; refine gx_fold ?_; intro a w hs; try rw [hb] at hs; clear hb; revert hs; revert w; revert a; refine gx_unf ?_)))
      | (refine is_cx ?_; first
          | refine cx_reg ?_
          | (refine is_seq ?_; first | (refine cx_join ?_; (repeat apply ex_i); refine And.intro sub_auto (And.intro ?_ ?_)) | refine cx_seq ?_)
          | refine cx_cond_i ?_ ?_ rfl
          | refine cx_skip ?_
          | refine cx_ret ?_
          | refine cx_block ?_
          | refine cx_exit ?_
          | refine cx_loop ?_
          | (refine is_cond ?_; first | refine cx_cond_t ?_ | refine cx_cond_f ?_)
          | (refine is_draw ?_; first | refine cx_draw1 ?_ | refine cx_draw0 ?_ | refine cx_draw2 ?_ | refine cx_still ?_)
          | refine cx_label ?_
          | refine cx_rangeF ?_ ?_
          | refine cx_rangeJ ?_ ?_ ?_
          | refine al_drop ?_)
      | (refine is_ex ?_; first
          | refine ex_then ?_
          | refine ex_then_r ?_
          | refine ex_then_x ?_
          | refine ex_blk ?_
          | refine ex_blk_r ?_
          | refine ex_blk_x ?_
          | refine ex_blk_y ?_
          | refine ex_retM ?_
          | refine ex_ret ?_
          | refine ex_end ?_
          | exact rq_n
          | exact rq_r
          | exact rq_x
          | refine al_drop ?_)
      | exact gx_dead
      | refine gp_in ?_
      | (refine is_rx ?_; first
          | refine rx_tmp ?_
          | refine rx_nil ?_
          | refine rx_cell ?_
          | refine rx_cellN ?_)
      | (refine is_fx ?_; first
          | exact fx_1
          | exact fx_0
          | exact fx_2
          | exact fx_3
          | exact fx_4
          | exact fx_5)
      | (refine is_dx ?_; first
          | refine dx_end ?_
          | refine dx_nil ?_
          | refine dx_a ?_
          | (refine dx_iteA ?_ ?_ <;> (intro hb; refine gx_fold ?_; intro a w hs; try rw [hb] at hs; clear hb; revert hs; revert w; revert a; refine gx_unf ?_))
          | (refine dx_ite ?_ ?_ <;> (intro hb; refine gx_fold ?_; intro a w hs; try rw [hb] at hs; clear hb; revert hs; revert w; revert a; refine gx_unf ?_))
          | (refine is_gdx ?_ rfl; first | refine dx_no ?_ | refine dx_no' ?_)
          | (refine is_d 0 ?_ rfl; refine dx_p (hp := by exact au_p0) ?_)
          | (refine is_d 2 ?_ rfl; first | refine dx_p (hp := by exact au_p2) ?_ | (refine al_nn ?_; intro b hb; subst hb) | (refine gx_nn ?_; intro b hb; subst hb) | (refine al_fv ?_; intro g fs cs hf cb; subst hf) | (refine gx_fv ?_; intro g fs cs hf cb; subst hf))
          | (refine is_d 3 ?_ rfl; refine dx_p (hp := by exact au_p3) ?_)
          | (refine is_d 13 ?_ rfl; first | refine dx_is (hp := by exact au_wr13) ?_ | refine dx_S (hp := by exact au_ws13) ?_)
          | (refine is_d 10 ?_ rfl; first | refine dx_p (hp := by exact au_p10) ?_ | refine dx_wpA (hp := by exact au_wp10) ?_ | refine dx_wp (hp := by exact au_wp10) ?_)
          | (refine is_d 8 ?_ rfl; first | refine dx_wpA (hp := by exact au_wp8) ?_ | refine dx_wp (hp := by exact au_wp8) ?_)
          | (refine is_d 20 ?_ rfl; first | refine dx_p (hp := by exact au_p20) ?_ | refine dx_is (hp := by exact au_wr20) ?_ | refine dx_S (hp := by exact au_ws20) ?_)
          | (refine is_d 27 ?_ rfl; first | refine dx_wpA (hp := by exact au_wp27) ?_ | refine dx_wp (hp := by exact au_wp27) ?_)
          | (refine is_d 4 ?_ rfl; first | refine dx_p (hp := by exact au_p4) ?_ | refine dx_wpA (hp := by exact au_wp4) ?_ | refine dx_wp (hp := by exact au_wp4) ?_)
          | (refine is_d 1 ?_ rfl; refine dx_p (hp := by exact au_p1) ?_)
          | (refine is_d 6 ?_ rfl; refine dx_p (hp := by exact au_p6) ?_)
          | (refine is_d 28 ?_ rfl; first | refine dx_wpA (hp := by exact au_wp28) ?_ | refine dx_wp (hp := by exact au_wp28) ?_)
          | (refine is_d 11 ?_ rfl; first | refine dx_wpA (hp := by exact au_wp11) ?_ | refine dx_wp (hp := by exact au_wp11) ?_ | refine dx_p (hp := by exact au_p11) ?_ | refine dx_is (hp := by exact au_wr11) ?_ | refine dx_S (hp := by exact au_ws11) ?_)
          | (refine is_d 26 ?_ rfl; first | refine dx_wpA (hp := by exact au_wp26) ?_ | refine dx_wp (hp := by exact au_wp26) ?_ | refine dx_p (hp := by exact au_p26) ?_)
          | (refine is_d 12 ?_ rfl; first | refine dx_wpA (hp := by exact au_wp12) ?_ | refine dx_wp (hp := by exact au_wp12) ?_ | refine dx_p (hp := by exact au_p12) ?_)
          | (refine is_d 5 ?_ rfl; refine dx_p (hp := by exact au_p5) ?_)
          | (refine is_d 7 ?_ rfl; first | refine dx_wpA (hp := by exact au_wp7) ?_ | refine dx_wp (hp := by exact au_wp7) ?_)
          | (refine is_d 9 ?_ rfl; first | refine dx_wpA (hp := by exact au_wp9) ?_ | refine dx_wp (hp := by exact au_wp9) ?_)
          | (refine is_d 14 ?_ rfl; first | refine dx_is (hp := by exact wr_rd (e_lookup' rfl rfl rfl)) ?_ | (refine dx_is (hp := by exact wr_rd2 (e_lookup' rfl rfl rfl)) ?_; intro u; refine al_an2 ?_) | refine dx_S (hp := by exact ws_rd (e_lookup' rfl rfl rfl)) ?_ | (refine dx_S (hp := by exact ws_rd2 (e_lookup' rfl rfl rfl)) ?_; intro u; refine al_an2 ?_))
          | (refine is_d 21 ?_ rfl; first | refine dx_wpA (hp := by exact au_wp21) ?_ | refine dx_wp (hp := by exact au_wp21) ?_)
          | (refine is_d 25 ?_ rfl; first | refine dx_is (hp := by exact au_wr25) ?_ | refine dx_S (hp := by exact au_ws25) ?_)
          | refine al_drop ?_)
      | (refine is_ox ?_; first
          | (refine is_o 13 ?_ rfl; first | refine ox_r2A (hp := by exact au_wr13) ?_ | refine ox_r2 (hp := by exact au_wr13) ?_)
          | (refine is_o 19 ?_ rfl; first | (refine ox_c1 (hp := by exact au_wc19) ?_; intro u; first | refine al_an1 ?_ | refine al_an0 ?_ | refine al_an2 ?_) | (refine ox_c (hp := by exact au_wc19) ?_; intro u; first | refine an_1 ?_ | refine an_0 ?_ | refine an_2 ?_ | refine an_3 ?_ | refine an_4 ?_ | refine an_5 ?_) | (refine ox_cn (hp := by exact au_wc19) ?_; intro u; first | refine am_0 ?_ | refine am_1 ?_ | refine am_2 ?_ | skip) | (refine ox_y ?_; intro u; first | refine an_1 ?_ | refine an_0 ?_ | refine an_2 ?_ | refine an_3 ?_ | refine an_4 ?_ | refine an_5 ?_))
          | (refine is_o 20 ?_ rfl; first | refine ox_r2A (hp := by exact au_wr20) ?_ | refine ox_r2 (hp := by exact au_wr20) ?_)
          | (refine is_o 17 ?_ rfl; first | refine ox_k1 (hp := by exact au_wk17) ?_ | refine ox_k (hp := by exact au_wk17) ?_)
          | (refine is_o 15 ?_ rfl; first | refine ox_e1 (hp := by exact au_we15) ?_ | refine ox_e (hp := by exact au_we15) ?_)
          | (refine is_o 16 ?_ rfl; first | refine ox_e1 (hp := by exact au_we16) ?_ | refine ox_e (hp := by exact au_we16) ?_)
          | (refine is_o 22 ?_ rfl; first | refine ox_e1 (hp := by exact au_we22) ?_ | refine ox_e (hp := by exact au_we22) ?_ | refine ox_en1 (hp := by exact au_we22) ?_ | refine ox_en (hp := by exact au_we22) ?_)
          | (refine is_o 11 ?_ rfl; first | refine ox_e1 (hp := by exact au_we11) ?_ | refine ox_e (hp := by exact au_we11) ?_ | refine ox_r2A (hp := by exact au_wr11) ?_ | refine ox_r2 (hp := by exact au_wr11) ?_)
          | (refine is_o 14 ?_ rfl; first | refine ox_r2A (hp := by exact wr_rd (e_lookup' rfl rfl rfl)) ?_ | (refine ox_r2A (hp := by exact wr_rd2 (e_lookup' rfl rfl rfl)) ?_; intro u; refine al_an2 ?_) | refine ox_r2 (hp := by exact wr_rd (e_lookup' rfl rfl rfl)) ?_ | (refine ox_r2 (hp := by exact wr_rd2 (e_lookup' rfl rfl rfl)) ?_; intro u; refine an_2 ?_))
          | (refine is_o 18 ?_ rfl; first | refine ox_k1 (hp := by exact au_wk18) ?_ | refine ox_k (hp := by exact au_wk18) ?_)
          | (refine is_o 23 ?_ rfl; first | refine ox_e1 (hp := by exact au_we23) ?_ | refine ox_e (hp := by exact au_we23) ?_)
          | (refine is_o 24 ?_ rfl; first | refine ox_e1 (hp := by exact au_we24) ?_ | refine ox_e (hp := by exact au_we24) ?_)
          | (refine is_o 25 ?_ rfl; first | refine ox_r2A (hp := by exact au_wr25) ?_ | refine ox_r2 (hp := by exact au_wr25) ?_)
          | refine al_drop ?_)
      | refine ax_allA ?_ ?_
      | refine ax_all ?_ ?_
      | exact ax_nil
      | refine ax_one ?_
      | (refine is_lx ?_; exact lx_end)
      | (refine is_sx ?_; first
          | refine sx_nil ?_
          | (refine is_gs ?_ rfl; refine sx_no ?_)
          | (refine is_s 0 ?_ rfl; refine sx_p (hp := by exact au_p0) ?_)
          | (refine is_s 2 ?_ rfl; first | refine sx_p (hp := by exact au_p2) ?_ | (refine gx_nn ?_; intro b hb; subst hb) | (refine gx_fv ?_; intro g fs cs hf cb; subst hf))
          | (refine is_s 3 ?_ rfl; refine sx_p (hp := by exact au_p3) ?_)
          | (refine is_s 13 ?_ rfl; refine sx_wr (hp := by exact au_wr13) ?_)
          | (refine is_s 10 ?_ rfl; first | refine sx_p (hp := by exact au_p10) ?_ | refine sx_wp (hp := by exact au_wp10) ?_)
          | (refine is_s 8 ?_ rfl; refine sx_wp (hp := by exact au_wp8) ?_)
          | (refine is_s 20 ?_ rfl; first | refine sx_p (hp := by exact au_p20) ?_ | refine sx_wr (hp := by exact au_wr20) ?_)
          | (refine is_s 27 ?_ rfl; refine sx_wp (hp := by exact au_wp27) ?_)
          | (refine is_s 4 ?_ rfl; first | refine sx_p (hp := by exact au_p4) ?_ | refine sx_wp (hp := by exact au_wp4) ?_)
          | (refine is_s 1 ?_ rfl; refine sx_p (hp := by exact au_p1) ?_)
          | (refine is_s 6 ?_ rfl; refine sx_p (hp := by exact au_p6) ?_)
          | (refine is_s 28 ?_ rfl; refine sx_wp (hp := by exact au_wp28) ?_)
          | (refine is_s 11 ?_ rfl; first | refine sx_wp (hp := by exact au_wp11) ?_ | refine sx_p (hp := by exact au_p11) ?_ | refine sx_wr (hp := by exact au_wr11) ?_)
          | (refine is_s 26 ?_ rfl; first | refine sx_wp (hp := by exact au_wp26) ?_ | refine sx_p (hp := by exact au_p26) ?_)
          | (refine is_s 12 ?_ rfl; first | refine sx_wp (hp := by exact au_wp12) ?_ | refine sx_p (hp := by exact au_p12) ?_)
          | (refine is_s 5 ?_ rfl; refine sx_p (hp := by exact au_p5) ?_)
          | (refine is_s 7 ?_ rfl; refine sx_wp (hp := by exact au_wp7) ?_)
          | (refine is_s 9 ?_ rfl; refine sx_wp (hp := by exact au_wp9) ?_)
          | (refine is_s 14 ?_ rfl; first | refine sx_wr (hp := by exact wr_rd (e_lookup' rfl rfl rfl)) ?_ | (refine sx_wr (hp := by exact wr_rd2 (e_lookup' rfl rfl rfl)) ?_; intro u; refine an_2 ?_))
          | (refine is_s 21 ?_ rfl; refine sx_wp (hp := by exact au_wp21) ?_)
          | (refine is_s 25 ?_ rfl; refine sx_wr (hp := by exact au_wr25) ?_)
          | (refine sx_ite ?_ ?_ <;> (intro hb; refine gx_fold ?_; intro a w hs; try rw [hb] at hs; clear hb; revert hs; revert w; revert a; refine gx_unf ?_)))
      | refine bx_b ?_
      | refine bj_b ?_
      | exact gx_jump
      | refine al_drop ?_) :
    CallF P f args.toArray kk w := g_start n hk hf h hb hn hl
end Go.Sep
