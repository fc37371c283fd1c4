/- The calls do what the models say, part 8. -/
import Derived.Test.YthpibdcdeopneaaMd
import Derived.Test.YthpibdcdeopneaaRf1
import Derived.Test.YthpibdcdeopneaaRf2
import Derived.Test.YthpibdcdeopneaaRf3
import Derived.Test.YthpibdcdeopneaaRf4
import Derived.Test.YthpibdcdeopneaaRf5
import Derived.Test.YthpibdcdeopneaaRf6
import Derived.Test.YthpibdcdeopneaaRf7
namespace Go.Px
open Go.Proofs
set_option linter.unusedVariables false
def lychgatelaw06_sameMemory_post (σ0 : FS) (v_1 : Value) (x_2 : Sl Gmem_Block) (used_3 : Int) (a_4 : Addr) (v_5 : Value) (x_6 : Sl Bool) (v_7 : Value) (x_8 : Sl Int) (v_9 : Value) (x_10 : Sl Glychgateref06_Cell) (Used_11 : Int) (r : Bool) (σ : FS) (PV : List Priv) (v : Value) : Prop :=
 σ0 = σ ∧ .bool r = v ∧ PV = [.row O11 45 v_1 x_2, .cell a_4 [v_5, v_7, v_9, .i Used_11], .row (tBool).o 4 v_5 x_6, .row ((tInt .i64)).o 2 v_7 x_8, .row (T6).o 85 v_9 x_10]
set_option maxRecDepth 100000 in
theorem lychgatelaw06_sameMemory_ref (s : Start) (σ : FS) (v_1 : Value) (x_2 : Sl Gmem_Block) (used_3 : Int) (a_4 : Addr) (v_5 : Value) (x_6 : Sl Bool) (v_7 : Value) (x_8 : Sl Int) (v_9 : Value) (x_10 : Sl Glychgateref06_Cell) (Used_11 : Int) (hs : Pre s σ [.row O11 45 v_1 x_2, .cell a_4 [v_5, v_7, v_9, .i Used_11], .row (tBool).o 4 v_5 x_6, .row ((tInt .i64)).o 2 v_7 x_8, .row (T6).o 85 v_9 x_10]) (r : Bool) (hr : lychgatelaw06_sameMemory x_2 used_3 x_6 x_8 x_10 Used_11 = some r) : Does Try.prog 21 [v_1, .i used_3, .pointer (some (Addr.add a_4 0))] s σ (lychgatelaw06_sameMemory_post σ v_1 x_2 used_3 a_4 v_5 x_6 v_7 x_8 v_9 x_10 Used_11 r) := by
 unfold lychgatelaw06_sameMemory at hr
 refine does_of_J Try.func21 rfl (n := 122) rfl rfl hs hr ?_
 refine J_seq ?_
 refine J_region ?_
 refine JL_op rfl (op_read rfl rfl (r_assign (v := .bool false) rfl) ?_)
 refine JL_nil ?_
 refine J_then ?_
 refine J_seq ?_
 refine J_seq ?_
 refine J_region ?_
 refine JL_op rfl (op_read rfl rfl (r_move (v := v_1) rfl) ?_)
 refine JL_op rfl (op_read rfl rfl (r_len_row (v := v_1) 0 pu41 rfl rfl) ?_)
 refine JL_op rfl (op_read rfl rfl (r_move (v := .pointer (some (Addr.add a_4 0))) rfl) ?_)
 refine JL_op rfl (op_read rfl rfl (r_nilCheck (a := (Addr.add a_4 0)) rfl) ?_)
 refine JL_op rfl (op_read rfl rfl (r_fieldAddr (r := Addr.add a_4 0) pu56 (f := Try.pf56.getD 0 default) rfl pi23 (by decide) rfl (Addr.add_add _ _ _)) ?_)
 refine JL_op rfl (op_read rfl rfl (r_load_priv (a := a_4) (off := 0) (cs' := [v_5]) (v := v_5) 1 pu23 pi23 rfl rfl rfl rfl (by decide) rfl) ?_)
 refine JL_op rfl (op_read rfl rfl (r_len_row (v := v_5) 2 pu23 rfl rfl) ?_)
 refine JL_op rfl (op_read rfl rfl (r_neq rfl rfl) ?_)
 refine JL_op rfl (op_read rfl rfl (r_move (v := .bool (decide (x_2.len ≠ x_6.len))) rfl) ?_)
 refine J_forkL (e := (decide (x_2.len ≠ x_6.len))) 7 [(0, v_1), (2, .pointer (some (Addr.add a_4 0))), (27, .bool (decide (x_2.len ≠ x_6.len) || decide (used_3 ≠ Used_11)))] (fun hc_12 hk => ?_) (fun hc_12 hk => ?_) (fun b => ?_)
 ·refine JL_skip rfl rfl hc_12 rfl rfl ?_
  iterate 5 refine JL_skip rfl rfl hc_12 rfl rfl ?_
  refine JL_op rfl (op_read rfl rfl (r_pick_t (v := .bool true) rfl hc_12 rfl) ?_)
  refine J_prune [(0, v_1), (2, .pointer (some (Addr.add a_4 0))), (27, .bool (decide (x_2.len ≠ x_6.len) || decide (used_3 ≠ Used_11)))] ⟨rfl, rfl, (by show Value.bool _ = Value.bool _; rw [hc_12]; rfl), trivial⟩ hk
 ·refine JL_opg rfl rfl hc_12 (op_read rfl rfl (r_move (v := .i used_3) rfl) ?_)
  refine JL_opg rfl rfl hc_12 (op_read rfl rfl (r_move (v := .pointer (some (Addr.add a_4 0))) rfl) ?_)
  refine JL_opg rfl rfl hc_12 (op_read rfl rfl (r_nilCheck (a := (Addr.add a_4 0)) rfl) ?_)
  refine JL_opg rfl rfl hc_12 (op_read rfl rfl (r_fieldAddr (r := Addr.add a_4 3) pu56 (f := Try.pf56.getD 3 default) rfl pi2 (by decide) rfl (Addr.add_add _ _ _)) ?_)
  refine JL_opg rfl rfl hc_12 (op_read rfl rfl (r_load_priv (a := a_4) (off := 3) (cs' := [.i Used_11]) (v := .i Used_11) 1 pu2 pi2 rfl rfl rfl rfl (by decide) rfl) ?_)
  refine JL_opg rfl rfl hc_12 (op_read rfl rfl (r_neq rfl rfl) ?_)
  refine JL_op rfl (op_read rfl rfl (r_pick_f (v := .bool (decide (used_3 ≠ Used_11))) rfl hc_12 rfl) ?_)
  refine J_prune [(0, v_1), (2, .pointer (some (Addr.add a_4 0))), (27, .bool (decide (x_2.len ≠ x_6.len) || decide (used_3 ≠ Used_11)))] ⟨rfl, rfl, (by show Value.bool _ = Value.bool _; rw [hc_12]; rfl), trivial⟩ hk
 ·refine JL_nil ?_
  refine J_then ?_
  refine J_cond rfl (fun hc_13 => ?_) (fun hc_13 => ?_)
  ·refine J_seq ?_
   refine J_region ?_
   refine JL_op rfl (op_read rfl rfl (r_assign (v := .bool false) rfl) ?_)
   refine JL_nil ?_
   refine J_then ?_
   refine J_ret ?_
   refine J_then_ret ?_
   exact J_returnV1 (PV' := [.row O11 45 v_1 x_2, .cell a_4 [v_5, v_7, v_9, .i Used_11], .row (tBool).o 4 v_5 x_6, .row ((tInt .i64)).o 2 v_7 x_8, .row (T6).o 85 v_9 x_10]) rfl rv_tmp [0, 1, 2, 3, 4] (by decide) rfl ⟨rfl, rfl, rfl⟩
  ·refine J_skip ?_
   refine J_then ?_
   refine J_seq ?_
   refine J_region ?_
   refine JL_op rfl (op_read rfl rfl (r_assign (v := .i 0) rfl) ?_)
   refine JL_nil ?_
   refine J_then ?_
   refine J_seq ?_
   refine J_seq ?_
   refine J_region ?_
   refine JL_op rfl (op_read rfl rfl (r_move (v := v_1) rfl) ?_)
   refine JL_op rfl (op_read rfl rfl (r_len_row (v := v_1) 0 pu41 rfl rfl) ?_)
   refine JL_op rfl (op_read rfl rfl (r_move (v := .i 0) rfl) ?_)
   refine JL_nil ?_
   refine J_then ?_
   refine J_block ?_
   refine J_select (PV' := [.cell a_4 [v_5, v_7, v_9, .i Used_11], .row (tBool).o 4 v_5 x_6, .row ((tInt .i64)).o 2 v_7 x_8, .row (T6).o 85 v_9 x_10, .row O11 45 v_1 x_2]) [1, 2, 3, 4, 0] (by decide) rfl ?_
   refine J_loop (fun (y : Int × Int) L τ PV => σ = τ ∧ L = [(2, .pointer (some (Addr.add a_4 0))), (7, .i y.1), (28, v_1), (29, .i x_2.len), (30, .i y.2)] ∧ PV = [.cell a_4 [v_5, v_7, v_9, .i Used_11], .row (tBool).o 4 v_5 x_6, .row ((tInt .i64)).o 2 v_7 x_8, .row (T6).o 85 v_9 x_10, .row O11 45 v_1 x_2]) (fun (y : W2 Unit Unit) e L τ PV => match y, e with | .a y, e => e = .exit 0 ∧ (σ = τ ∧ L = [] ∧ PV = [.row O11 45 v_1 x_2, .cell a_4 [v_5, v_7, v_9, .i Used_11], .row (tBool).o 4 v_5 x_6, .row ((tInt .i64)).o 2 v_7 x_8, .row (T6).o 85 v_9 x_10]) | .b y, e => e = .ret ∧ (σ = τ ∧ L = [(6, .bool false)] ∧ PV = [.row O11 45 v_1 x_2, .cell a_4 [v_5, v_7, v_9, .i Used_11], .row (tBool).o 4 v_5 x_6, .row ((tInt .i64)).o 2 v_7 x_8, .row (T6).o 85 v_9 x_10])) _ ?_ ⟨rfl, rfl, rfl⟩ ?_ ?_
   ·exact ⟨rfl, rfl, rfl, rfl, rfl, trivial⟩
   ·rintro x_14 _ b s_17 _ ⟨rfl, rfl, rfl⟩
    unfold lychgatelaw06_sameMemory_L2
    refine J_seq ?_
    refine J_region ?_
    refine JL_op rfl (op_read rfl rfl (r_lss rfl rfl) ?_)
    refine JL_nil ?_
    refine J_then ?_
    refine J_seq ?_
    refine J_cond rfl (fun hc_18 => ?_) (fun hc_18 => ?_)
    ·refine J_skip ?_
     refine J_then ?_
     refine J_seq ?_
     refine J_block ?_
     refine J_seq ?_
     refine J_region ?_
     refine JL_op rfl (op_read rfl rfl (r_move (v := .i x_14.2) rfl) ?_)
     refine J_bind fun x_19 hx_20 => ?_
     refine JL_op rfl (op_read rfl rfl (r_index_row (v := v_1) (T := O11) (q := x_19) 4 pu41 pi45 rfl rfl rfl rfl hx_20) ?_)
     refine J_select (PV' := [.row O11 45 v_1 x_2, .cell a_4 [v_5, v_7, v_9, .i Used_11], .row (tBool).o 4 v_5 x_6, .row ((tInt .i64)).o 2 v_7 x_8, .row (T6).o 85 v_9 x_10]) [4, 0, 1, 2, 3] (by decide) rfl ?_
     refine J_take (T := O11) (i := x_14.2) hx_20 fun u_22 hu_21 => ?_
     obtain ⟨_, v_24, v_26, v_28⟩ := u_22
     change J _ _ _ _ _ _ _ _ [.hole (fun x => .elem O11 (elemAddr v_1 ((x_14.2).toNat * (O11).size)) x) (fun x => .row O11 45 v_1 (Sl.set x_2 x_14.2 x)), .cell (elemAddr v_1 ((x_14.2).toNat * (O11).size)) [.bool x_19.Live, v_24, v_26, v_28], .row (T13).o 29 v_24 x_19.Cells, .row ((tInt .i64)).o 3 v_26 x_19.Readers, .row (tBool).o 4 v_28 x_19.Writer, .cell a_4 [v_5, v_7, v_9, .i Used_11], .row (tBool).o 4 v_5 x_6, .row ((tInt .i64)).o 2 v_7 x_8, .row (T6).o 85 v_9 x_10]
     refine JL_op rfl (op_read rfl rfl (r_load_priv (a := (elemAddr v_1 ((x_14.2).toNat * (O11).size))) (off := 0) (cs' := [.bool x_19.Live, v_24, v_26, v_28]) (v := .agg #[.bool x_19.Live, v_24, v_26, v_28]) 1 pu45 pi45 (pe_add v_1 ((x_14.2).toNat * (O11).size) 0) rfl rfl rfl (by decide) rfl) ?_)
     refine JL_op rfl (op_alloc (cs := [.bool false, .slice none 0 0, .slice none 0 0, .slice none 0 0]) rfl pi45 rfl rfl ?_)
     intro c_30
     refine JL_op rfl (op_read rfl rfl (r_assign (v := .i x_14.2) rfl) ?_)
     refine J_row_one 3 rfl fun h_32 => ?_
     refine J_row_one 4 rfl fun h_33 => ?_
     refine J_row_one 5 rfl fun h_34 => ?_
     refine JL_op rfl (op_store_priv (a := c_30) (off := 0) (vs := [.bool x_19.Live, v_24, v_26, v_28]) (cs' := [.bool x_19.Live, v_24, v_26, v_28]) (PV' := [.cell c_30 [.bool x_19.Live, v_24, v_26, v_28], .hole (fun x => .elem O11 (elemAddr v_1 ((x_14.2).toNat * (O11).size)) x) (fun x => .row O11 45 v_1 (Sl.set x_2 x_14.2 x)), .cell (elemAddr v_1 ((x_14.2).toNat * (O11).size)) [.bool x_19.Live, v_24, v_26, v_28], .row (T13).o 29 v_24 x_19.Cells, .row ((tInt .i64)).o 3 v_26 x_19.Readers, .row (tBool).o 4 v_28 x_19.Writer, .cell a_4 [v_5, v_7, v_9, .i Used_11], .row (tBool).o 4 v_5 x_6, .row ((tInt .i64)).o 2 v_7 x_8, .row (T6).o 85 v_9 x_10]) 0 pi45 rfl rfl rfl ⟨rfl, h_32, h_33, h_34, trivial⟩ rfl rfl rfl rfl rfl ?_)
     refine JL_nil ?_
     refine J_then ?_
     refine J_seq ?_
     refine J_seq ?_
     refine J_region_any 41 [.cell c_30 [.bool x_19.Live, v_24, v_26, v_28], .cell (elemAddr v_1 ((x_14.2).toNat * (O11).size)) [.bool x_19.Live, v_24, v_26, v_28], .row (T13).o 29 v_24 x_19.Cells, .row ((tInt .i64)).o 3 v_26 x_19.Readers, .row (tBool).o 4 v_28 x_19.Writer, .cell a_4 [v_5, v_7, v_9, .i Used_11], .row (tBool).o 4 v_5 x_6, .row ((tInt .i64)).o 2 v_7 x_8, .row (T6).o 85 v_9 x_10] Try.mixed (by kernel_rfl) fun hns => ?_
     have hS_35 : HeldOK σ [.cell c_30 [.bool x_19.Live, v_24, v_26, v_28], .cell (elemAddr v_1 ((x_14.2).toNat * (O11).size)) [.bool x_19.Live, v_24, v_26, v_28], .row (T13).o 29 v_24 x_19.Cells, .row ((tInt .i64)).o 3 v_26 x_19.Readers, .row (tBool).o 4 v_28 x_19.Writer, .cell a_4 [v_5, v_7, v_9, .i Used_11], .row (tBool).o 4 v_5 x_6, .row ((tInt .i64)).o 2 v_7 x_8, .row (T6).o 85 v_9 x_10] σ [.cell c_30 [.bool x_19.Live, v_24, v_26, v_28], .hole (fun x => .elem O11 (elemAddr v_1 ((x_14.2).toNat * (O11).size)) x) (fun x => .row O11 45 v_1 (Sl.set x_2 x_14.2 x)), .cell (elemAddr v_1 ((x_14.2).toNat * (O11).size)) [.bool x_19.Live, v_24, v_26, v_28], .row (T13).o 29 v_24 x_19.Cells, .row ((tInt .i64)).o 3 v_26 x_19.Readers, .row (tBool).o 4 v_28 x_19.Writer, .cell a_4 [v_5, v_7, v_9, .i Used_11], .row (tBool).o 4 v_5 x_6, .row ((tInt .i64)).o 2 v_7 x_8, .row (T6).o 85 v_9 x_10] := HeldOK.same [0, 2, 3, 4, 5, 6, 7, 8, 9] (by decide) rfl
     refine JA_takep 0 rfl hns (by kernel_rfl) (by kernel_rfl) rfl (.inr hS_35) rfl rfl rfl (r_fieldAddr (r := Addr.add c_30 0) pu45 (f := Try.pf45.getD 0 default) rfl pi4 (by decide) rfl (Addr.add_add _ _ _)) ?_
     refine JA_take 1 rfl hns (by kernel_rfl) (by kernel_rfl) (by kernel_rfl) rfl (by kernel_rfl) hS_35 rfl rfl rfl (r_load_priv (a := c_30) (off := 0) (cs' := [.bool x_19.Live]) (v := .bool x_19.Live) 0 pu4 pi4 rfl rfl rfl rfl (by decide) rfl) ?_
     refine JA_takep 2 rfl hns (by kernel_rfl) (by kernel_rfl) rfl (.inr hS_35) rfl rfl rfl (r_move (v := .pointer (some (Addr.add a_4 0))) rfl) ?_
     refine JA_takep 3 rfl hns (by kernel_rfl) (by kernel_rfl) rfl (.inr hS_35) rfl rfl rfl (r_nilCheck (a := (Addr.add a_4 0)) rfl) ?_
     refine JA_takep 4 rfl hns (by kernel_rfl) (by kernel_rfl) rfl (.inr hS_35) rfl rfl rfl (r_fieldAddr (r := Addr.add a_4 0) pu56 (f := Try.pf56.getD 0 default) rfl pi23 (by decide) rfl (Addr.add_add _ _ _)) ?_
     refine JA_take 5 rfl hns (by kernel_rfl) (by kernel_rfl) (by kernel_rfl) rfl (by kernel_rfl) hS_35 rfl rfl rfl (r_load_priv (a := a_4) (off := 0) (cs' := [v_5]) (v := v_5) 5 pu23 pi23 rfl rfl rfl rfl (by decide) rfl) ?_
     refine JA_takep 6 rfl hns (by kernel_rfl) (by kernel_rfl) rfl (.inr hS_35) rfl rfl rfl (r_move (v := .i x_14.2) rfl) ?_
     refine J_bind fun x_36 hx_37 => ?_
     refine JA_take 7 rfl hns (by kernel_rfl) (by kernel_rfl) (by kernel_rfl) rfl (by kernel_rfl) hS_35 rfl rfl rfl (r_index_row (v := v_5) (T := (tBool).o) (q := x_36) 6 pu23 pi4 rfl rfl rfl rfl hx_37) ?_
     refine JA_takes 8 rfl hns (by kernel_rfl) (by kernel_rfl) (by kernel_rfl) rfl (by kernel_rfl) hS_35 rfl rfl rfl (l_elem_orow (v := v_5) (T := (tBool).o) (Tf := tBool) (q := x_36) (i := x_14.2) (off := 0) 6 pu4 pi4 rfl rfl rfl rfl hx_37 (OFieldAt.self (T := (tBool).o)) (by decide)) ?_
     intro v_38 h_39
     obtain rfl := tBool_v.1 h_39
     refine JA_takep 9 rfl hns (by kernel_rfl) (by kernel_rfl) rfl (.inr hS_35) rfl rfl rfl (r_bneq pu4 rfl rfl) ?_
     refine JA_takep 10 rfl hns (by kernel_rfl) (by kernel_rfl) rfl (.inr hS_35) rfl rfl rfl (r_move (v := .bool (x_19.Live != x_36)) rfl) ?_
     refine J_forkAB (e := (x_19.Live != x_36)) 18 #[true, true, true, true, true, true, true, true, true, true, true, true, true, true, true, true, true, true, true, true, true, true, true, false, false, false, false, false, false, false, false, false, false, false, false, false, false, false, false, false, false] (fun (y : Bool) L τ PV => σ = τ ∧ L = [(2, .pointer (some (Addr.add a_4 0))), (7, .i x_14.1), (9, .pointer (some (Addr.add c_30 0))), (28, v_1), (29, .i x_2.len), (30, .i x_14.2), (57, .bool y)] ∧ PV = [.cell a_4 [v_5, v_7, v_9, .i Used_11], .row (tBool).o 4 v_5 x_6, .row ((tInt .i64)).o 2 v_7 x_8, .row (T6).o 85 v_9 x_10, .cell c_30 [.bool x_19.Live, v_24, v_26, v_28], .row (T13).o 29 v_24 x_19.Cells, .row ((tInt .i64)).o 3 v_26 x_19.Readers, .row (tBool).o 4 v_28 x_19.Writer, .cell (elemAddr v_1 ((x_14.2).toNat * (O11).size)) [.bool x_19.Live, v_24, v_26, v_28], .hole (fun x => .elem O11 (elemAddr v_1 ((x_14.2).toNat * (O11).size)) x) (fun x => .row O11 45 v_1 (Sl.set x_2 x_14.2 x))]) (fun hc_40 hk => ?_) (fun hc_40 hk => ?_) ?_
     ·refine JA_skip (y := some (x_19.Live != x_36)) 11 rfl hns (by kernel_rfl) (by kernel_rfl) rfl (.inr hS_35) rfl rfl (by rw [hc_40]; decide) rfl rfl ?_
      refine JA_skip (y := some (x_19.Live != x_36)) 12 rfl hns (by kernel_rfl) (by kernel_rfl) rfl (.inr hS_35) rfl rfl (by rw [hc_40]; decide) rfl rfl ?_
      refine JA_skip (y := some (x_19.Live != x_36)) 13 rfl hns (by kernel_rfl) (by kernel_rfl) rfl (.inr hS_35) rfl rfl (by rw [hc_40]; decide) rfl rfl ?_
      refine JA_skip (y := some (x_19.Live != x_36)) 14 rfl hns (by kernel_rfl) (by kernel_rfl) rfl (.inr hS_35) rfl rfl (by rw [hc_40]; decide) rfl rfl ?_
      refine JA_skip (y := some (x_19.Live != x_36)) 15 rfl hns (by kernel_rfl) (by kernel_rfl) rfl (.inr hS_35) rfl rfl (by rw [hc_40]; decide) rfl rfl ?_
      refine JA_skip (y := some (x_19.Live != x_36)) 16 rfl hns (by kernel_rfl) (by kernel_rfl) rfl (.inr hS_35) rfl rfl (by rw [hc_40]; decide) rfl rfl ?_
      refine JA_skip (y := some (x_19.Live != x_36)) 17 rfl hns (by kernel_rfl) (by kernel_rfl) rfl (.inr hS_35) rfl rfl (by rw [hc_40]; decide) rfl rfl ?_
      refine JA_skip (y := some (x_19.Live != x_36)) 18 rfl hns (by kernel_rfl) (by kernel_rfl) rfl (.inr hS_35) rfl rfl (by rw [hc_40]; decide) rfl rfl ?_
      refine JA_skip (y := some (x_19.Live != x_36)) 19 rfl hns (by kernel_rfl) (by kernel_rfl) rfl (.inr hS_35) rfl rfl (by rw [hc_40]; decide) rfl rfl ?_
      refine JA_skip (y := some (x_19.Live != x_36)) 20 rfl hns (by kernel_rfl) (by kernel_rfl) rfl (.inr hS_35) rfl rfl (by rw [hc_40]; decide) rfl rfl ?_
      refine JA_skip (y := some (x_19.Live != x_36)) 21 rfl hns (by kernel_rfl) (by kernel_rfl) rfl (.inr hS_35) rfl rfl (by rw [hc_40]; decide) rfl rfl ?_
      refine JA_takep 22 rfl hns (by kernel_rfl) (by kernel_rfl) rfl (.inr hS_35) rfl rfl rfl (r_pick_t (v := .bool true) rfl hc_40 rfl) ?_
      refine J_select (PV' := [.cell a_4 [v_5, v_7, v_9, .i Used_11], .row (tBool).o 4 v_5 x_6, .row ((tInt .i64)).o 2 v_7 x_8, .row (T6).o 85 v_9 x_10, .cell c_30 [.bool x_19.Live, v_24, v_26, v_28], .row (T13).o 29 v_24 x_19.Cells, .row ((tInt .i64)).o 3 v_26 x_19.Readers, .row (tBool).o 4 v_28 x_19.Writer, .cell (elemAddr v_1 ((x_14.2).toNat * (O11).size)) [.bool x_19.Live, v_24, v_26, v_28], .hole (fun x => .elem O11 (elemAddr v_1 ((x_14.2).toNat * (O11).size)) x) (fun x => .row O11 45 v_1 (Sl.set x_2 x_14.2 x))]) [6, 7, 8, 9, 0, 3, 4, 5, 2, 1] (by decide) rfl ?_
      refine J_prune _ ?_ fun b => hk true _ b _ _ ⟨rfl, rfl, rfl⟩
      exact ⟨rfl, rfl, rfl, rfl, rfl, rfl, rfl, trivial⟩
     ·refine JA_takepg 11 rfl hns (by kernel_rfl) (by kernel_rfl) rfl (.inr hS_35) rfl rfl hc_40 rfl rfl (r_fieldAddr (r := Addr.add c_30 1) pu45 (f := Try.pf45.getD 1 default) rfl pi43 (by decide) rfl (Addr.add_add _ _ _)) ?_
      refine JA_takeg 12 rfl hns (by kernel_rfl) (by kernel_rfl) (by kernel_rfl) rfl (by kernel_rfl) hS_35 rfl rfl hc_40 rfl rfl (r_load_priv (a := c_30) (off := 1) (cs' := [v_24]) (v := v_24) 0 pu43 pi43 rfl rfl rfl rfl (by decide) rfl) ?_
      refine JA_takeg 13 rfl hns (by kernel_rfl) (by kernel_rfl) (by kernel_rfl) rfl (by kernel_rfl) hS_35 rfl rfl hc_40 rfl rfl (r_len_row (v := v_24) 2 pu43 rfl rfl) ?_
      refine JA_takepg 14 rfl hns (by kernel_rfl) (by kernel_rfl) rfl (.inr hS_35) rfl rfl hc_40 rfl rfl (r_move (v := .pointer (some (Addr.add a_4 0))) rfl) ?_
      refine JA_takepg 15 rfl hns (by kernel_rfl) (by kernel_rfl) rfl (.inr hS_35) rfl rfl hc_40 rfl rfl (r_nilCheck (a := (Addr.add a_4 0)) rfl) ?_
      refine JA_takepg 16 rfl hns (by kernel_rfl) (by kernel_rfl) rfl (.inr hS_35) rfl rfl hc_40 rfl rfl (r_fieldAddr (r := Addr.add a_4 1) pu56 (f := Try.pf56.getD 1 default) rfl pi22 (by decide) rfl (Addr.add_add _ _ _)) ?_
      refine JA_takeg 17 rfl hns (by kernel_rfl) (by kernel_rfl) (by kernel_rfl) rfl (by kernel_rfl) hS_35 rfl rfl hc_40 rfl rfl (r_load_priv (a := a_4) (off := 1) (cs' := [v_7]) (v := v_7) 5 pu22 pi22 rfl rfl rfl rfl (by decide) rfl) ?_
      refine JA_takepg 18 rfl hns (by kernel_rfl) (by kernel_rfl) rfl (.inr hS_35) rfl rfl hc_40 rfl rfl (r_move (v := .i x_14.2) rfl) ?_
      refine J_assoc ?_
      refine J_bind fun x_42 hx_43 => ?_
      refine JA_takeg 19 rfl hns (by kernel_rfl) (by kernel_rfl) (by kernel_rfl) rfl (by kernel_rfl) hS_35 rfl rfl hc_40 rfl rfl (r_index_row (v := v_7) (T := ((tInt .i64)).o) (q := x_42) 7 pu22 pi2 rfl rfl rfl rfl hx_43) ?_
      refine JA_takesg 20 rfl hns (by kernel_rfl) (by kernel_rfl) (by kernel_rfl) rfl (by kernel_rfl) hS_35 rfl rfl hc_40 rfl rfl (l_elem_orow (v := v_7) (T := ((tInt .i64)).o) (Tf := (tInt .i64)) (q := x_42) (i := x_14.2) (off := 0) 7 pu2 pi2 rfl rfl rfl rfl hx_43 (OFieldAt.self (T := ((tInt .i64)).o)) (by decide)) ?_
      intro v_44 h_45
      obtain rfl := tInt_v.1 h_45
      refine JA_takepg 21 rfl hns (by kernel_rfl) (by kernel_rfl) rfl (.inr hS_35) rfl rfl hc_40 rfl rfl (r_neq rfl rfl) ?_
      refine JA_takep 22 rfl hns (by kernel_rfl) (by kernel_rfl) rfl (.inr hS_35) rfl rfl rfl (r_pick_f (v := .bool (decide (x_19.Cells.len ≠ x_42))) rfl hc_40 rfl) ?_
      refine J_select (PV' := [.cell a_4 [v_5, v_7, v_9, .i Used_11], .row (tBool).o 4 v_5 x_6, .row ((tInt .i64)).o 2 v_7 x_8, .row (T6).o 85 v_9 x_10, .cell c_30 [.bool x_19.Live, v_24, v_26, v_28], .row (T13).o 29 v_24 x_19.Cells, .row ((tInt .i64)).o 3 v_26 x_19.Readers, .row (tBool).o 4 v_28 x_19.Writer, .cell (elemAddr v_1 ((x_14.2).toNat * (O11).size)) [.bool x_19.Live, v_24, v_26, v_28], .hole (fun x => .elem O11 (elemAddr v_1 ((x_14.2).toNat * (O11).size)) x) (fun x => .row O11 45 v_1 (Sl.set x_2 x_14.2 x))]) [6, 7, 8, 9, 0, 3, 4, 5, 2, 1] (by decide) rfl ?_
      refine J_prune _ ?_ fun b => hk (decide (x_19.Cells.len ≠ x_42)) _ b _ _ ⟨rfl, rfl, rfl⟩
      exact ⟨rfl, rfl, rfl, rfl, rfl, rfl, rfl, trivial⟩
     ·rintro y_41 _ b s_48 _ ⟨rfl, rfl, rfl⟩
      have hS_49 : HeldOK σ [.cell c_30 [.bool x_19.Live, v_24, v_26, v_28], .cell (elemAddr v_1 ((x_14.2).toNat * (O11).size)) [.bool x_19.Live, v_24, v_26, v_28], .row (T13).o 29 v_24 x_19.Cells, .row ((tInt .i64)).o 3 v_26 x_19.Readers, .row (tBool).o 4 v_28 x_19.Writer, .cell a_4 [v_5, v_7, v_9, .i Used_11], .row (tBool).o 4 v_5 x_6, .row ((tInt .i64)).o 2 v_7 x_8, .row (T6).o 85 v_9 x_10] σ [.cell a_4 [v_5, v_7, v_9, .i Used_11], .row (tBool).o 4 v_5 x_6, .row ((tInt .i64)).o 2 v_7 x_8, .row (T6).o 85 v_9 x_10, .cell c_30 [.bool x_19.Live, v_24, v_26, v_28], .row (T13).o 29 v_24 x_19.Cells, .row ((tInt .i64)).o 3 v_26 x_19.Readers, .row (tBool).o 4 v_28 x_19.Writer, .cell (elemAddr v_1 ((x_14.2).toNat * (O11).size)) [.bool x_19.Live, v_24, v_26, v_28], .hole (fun x => .elem O11 (elemAddr v_1 ((x_14.2).toNat * (O11).size)) x) (fun x => .row O11 45 v_1 (Sl.set x_2 x_14.2 x))] := HeldOK.same [4, 8, 5, 6, 7, 0, 1, 2, 3] (by decide) rfl
      refine JA_takep 23 rfl hns (by kernel_rfl) (by kernel_rfl) rfl (.inr hS_49) rfl rfl rfl (r_move (v := .bool y_41) rfl) ?_
      refine J_forkA (e := y_41) 9 #[true, true, true, true, true, true, true, true, true, true, true, true, true, true, true, true, true, true, true, true, true, true, true, true, true, true, true, true, true, true, true, true, false, false, false, false, false, false, false, false, false] [(2, .pointer (some (Addr.add a_4 0))), (7, .i x_14.1), (9, .pointer (some (Addr.add c_30 0))), (28, v_1), (29, .i x_2.len), (30, .i x_14.2), (66, .bool (y_41 || decide (x_19.Readers.len ≠ x_19.Cells.len)))] (fun hc_50 hk => ?_) (fun hc_50 hk => ?_) (fun b => ?_)
      ·refine JA_skip (y := some y_41) 24 rfl hns (by kernel_rfl) (by kernel_rfl) rfl (.inr hS_49) rfl rfl (by rw [hc_50]; decide) rfl rfl ?_
       refine JA_skip (y := some y_41) 25 rfl hns (by kernel_rfl) (by kernel_rfl) rfl (.inr hS_49) rfl rfl (by rw [hc_50]; decide) rfl rfl ?_
       refine JA_skip (y := some y_41) 26 rfl hns (by kernel_rfl) (by kernel_rfl) rfl (.inr hS_49) rfl rfl (by rw [hc_50]; decide) rfl rfl ?_
       refine JA_skip (y := some y_41) 27 rfl hns (by kernel_rfl) (by kernel_rfl) rfl (.inr hS_49) rfl rfl (by rw [hc_50]; decide) rfl rfl ?_
       refine JA_skip (y := some y_41) 28 rfl hns (by kernel_rfl) (by kernel_rfl) rfl (.inr hS_49) rfl rfl (by rw [hc_50]; decide) rfl rfl ?_
       refine JA_skip (y := some y_41) 29 rfl hns (by kernel_rfl) (by kernel_rfl) rfl (.inr hS_49) rfl rfl (by rw [hc_50]; decide) rfl rfl ?_
       refine JA_skip (y := some y_41) 30 rfl hns (by kernel_rfl) (by kernel_rfl) rfl (.inr hS_49) rfl rfl (by rw [hc_50]; decide) rfl rfl ?_
       refine JA_takep 31 rfl hns (by kernel_rfl) (by kernel_rfl) rfl (.inr hS_49) rfl rfl rfl (r_pick_t (v := .bool true) rfl hc_50 rfl) ?_
       refine J_prune [(2, .pointer (some (Addr.add a_4 0))), (7, .i x_14.1), (9, .pointer (some (Addr.add c_30 0))), (28, v_1), (29, .i x_2.len), (30, .i x_14.2), (66, .bool (y_41 || decide (x_19.Readers.len ≠ x_19.Cells.len)))] ⟨rfl, rfl, rfl, rfl, rfl, rfl, (by show Value.bool _ = Value.bool _; rw [hc_50]; rfl), trivial⟩ hk
      ·refine JA_takepg 24 rfl hns (by kernel_rfl) (by kernel_rfl) rfl (.inr hS_49) rfl rfl hc_50 rfl rfl (r_fieldAddr (r := Addr.add c_30 2) pu45 (f := Try.pf45.getD 2 default) rfl pi36 (by decide) rfl (Addr.add_add _ _ _)) ?_
       refine JA_takeg 25 rfl hns (by kernel_rfl) (by kernel_rfl) (by kernel_rfl) rfl (by kernel_rfl) hS_49 rfl rfl hc_50 rfl rfl (r_load_priv (a := c_30) (off := 2) (cs' := [v_26]) (v := v_26) 0 pu36 pi36 rfl rfl rfl rfl (by decide) rfl) ?_
       refine JA_takeg 26 rfl hns (by kernel_rfl) (by kernel_rfl) (by kernel_rfl) rfl (by kernel_rfl) hS_49 rfl rfl hc_50 rfl rfl (r_len_row (v := v_26) 3 pu36 rfl rfl) ?_
       refine JA_takepg 27 rfl hns (by kernel_rfl) (by kernel_rfl) rfl (.inr hS_49) rfl rfl hc_50 rfl rfl (r_fieldAddr (r := Addr.add c_30 1) pu45 (f := Try.pf45.getD 1 default) rfl pi43 (by decide) rfl (Addr.add_add _ _ _)) ?_
       refine JA_takeg 28 rfl hns (by kernel_rfl) (by kernel_rfl) (by kernel_rfl) rfl (by kernel_rfl) hS_49 rfl rfl hc_50 rfl rfl (r_load_priv (a := c_30) (off := 1) (cs' := [v_24]) (v := v_24) 0 pu43 pi43 rfl rfl rfl rfl (by decide) rfl) ?_
       refine JA_takeg 29 rfl hns (by kernel_rfl) (by kernel_rfl) (by kernel_rfl) rfl (by kernel_rfl) hS_49 rfl rfl hc_50 rfl rfl (r_len_row (v := v_24) 2 pu43 rfl rfl) ?_
       refine JA_takepg 30 rfl hns (by kernel_rfl) (by kernel_rfl) rfl (.inr hS_49) rfl rfl hc_50 rfl rfl (r_neq rfl rfl) ?_
       refine JA_takep 31 rfl hns (by kernel_rfl) (by kernel_rfl) rfl (.inr hS_49) rfl rfl rfl (r_pick_f (v := .bool (decide (x_19.Readers.len ≠ x_19.Cells.len))) rfl hc_50 rfl) ?_
       refine J_prune [(2, .pointer (some (Addr.add a_4 0))), (7, .i x_14.1), (9, .pointer (some (Addr.add c_30 0))), (28, v_1), (29, .i x_2.len), (30, .i x_14.2), (66, .bool (y_41 || decide (x_19.Readers.len ≠ x_19.Cells.len)))] ⟨rfl, rfl, rfl, rfl, rfl, rfl, (by show Value.bool _ = Value.bool _; rw [hc_50]; rfl), trivial⟩ hk
      ·refine JA_takep 32 rfl hns (by kernel_rfl) (by kernel_rfl) rfl (.inr hS_49) rfl rfl rfl (r_move (v := .bool (y_41 || decide (x_19.Readers.len ≠ x_19.Cells.len))) rfl) ?_
       refine J_forkA (e := (y_41 || decide (x_19.Readers.len ≠ x_19.Cells.len))) 0 #[true, true, true, true, true, true, true, true, true, true, true, true, true, true, true, true, true, true, true, true, true, true, true, true, true, true, true, true, true, true, true, true, true, true, true, true, true, true, true, true, true] [(2, .pointer (some (Addr.add a_4 0))), (7, .i x_14.1), (9, .pointer (some (Addr.add c_30 0))), (28, v_1), (29, .i x_2.len), (30, .i x_14.2), (75, .bool ((y_41 || decide (x_19.Readers.len ≠ x_19.Cells.len)) || decide (x_19.Writer.len ≠ x_19.Cells.len)))] (fun hc_51 hk => ?_) (fun hc_51 hk => ?_) (fun b => ?_)
       ·refine JA_skip (y := some (y_41 || decide (x_19.Readers.len ≠ x_19.Cells.len))) 33 rfl hns (by kernel_rfl) (by kernel_rfl) rfl (.inr hS_49) rfl rfl (by rw [hc_51]; decide) rfl rfl ?_
        refine JA_skip (y := some (y_41 || decide (x_19.Readers.len ≠ x_19.Cells.len))) 34 rfl hns (by kernel_rfl) (by kernel_rfl) rfl (.inr hS_49) rfl rfl (by rw [hc_51]; decide) rfl rfl ?_
        refine JA_skip (y := some (y_41 || decide (x_19.Readers.len ≠ x_19.Cells.len))) 35 rfl hns (by kernel_rfl) (by kernel_rfl) rfl (.inr hS_49) rfl rfl (by rw [hc_51]; decide) rfl rfl ?_
        refine JA_skip (y := some (y_41 || decide (x_19.Readers.len ≠ x_19.Cells.len))) 36 rfl hns (by kernel_rfl) (by kernel_rfl) rfl (.inr hS_49) rfl rfl (by rw [hc_51]; decide) rfl rfl ?_
        refine JA_skip (y := some (y_41 || decide (x_19.Readers.len ≠ x_19.Cells.len))) 37 rfl hns (by kernel_rfl) (by kernel_rfl) rfl (.inr hS_49) rfl rfl (by rw [hc_51]; decide) rfl rfl ?_
        refine JA_skip (y := some (y_41 || decide (x_19.Readers.len ≠ x_19.Cells.len))) 38 rfl hns (by kernel_rfl) (by kernel_rfl) rfl (.inr hS_49) rfl rfl (by rw [hc_51]; decide) rfl rfl ?_
        refine JA_skip (y := some (y_41 || decide (x_19.Readers.len ≠ x_19.Cells.len))) 39 rfl hns (by kernel_rfl) (by kernel_rfl) rfl (.inr hS_49) rfl rfl (by rw [hc_51]; decide) rfl rfl ?_
        refine JA_takep 40 rfl hns (by kernel_rfl) (by kernel_rfl) rfl (.inr hS_49) rfl rfl rfl (r_pick_t (v := .bool true) rfl hc_51 rfl) ?_
        refine J_prune [(2, .pointer (some (Addr.add a_4 0))), (7, .i x_14.1), (9, .pointer (some (Addr.add c_30 0))), (28, v_1), (29, .i x_2.len), (30, .i x_14.2), (75, .bool ((y_41 || decide (x_19.Readers.len ≠ x_19.Cells.len)) || decide (x_19.Writer.len ≠ x_19.Cells.len)))] ⟨rfl, rfl, rfl, rfl, rfl, rfl, (by show Value.bool _ = Value.bool _; rw [hc_51]; rfl), trivial⟩ hk
       ·refine JA_takepg 33 rfl hns (by kernel_rfl) (by kernel_rfl) rfl (.inr hS_49) rfl rfl hc_51 rfl rfl (r_fieldAddr (r := Addr.add c_30 3) pu45 (f := Try.pf45.getD 3 default) rfl pi23 (by decide) rfl (Addr.add_add _ _ _)) ?_
        refine JA_takeg 34 rfl hns (by kernel_rfl) (by kernel_rfl) (by kernel_rfl) rfl (by kernel_rfl) hS_49 rfl rfl hc_51 rfl rfl (r_load_priv (a := c_30) (off := 3) (cs' := [v_28]) (v := v_28) 0 pu23 pi23 rfl rfl rfl rfl (by decide) rfl) ?_
        refine JA_takeg 35 rfl hns (by kernel_rfl) (by kernel_rfl) (by kernel_rfl) rfl (by kernel_rfl) hS_49 rfl rfl hc_51 rfl rfl (r_len_row (v := v_28) 4 pu23 rfl rfl) ?_
        refine JA_takepg 36 rfl hns (by kernel_rfl) (by kernel_rfl) rfl (.inr hS_49) rfl rfl hc_51 rfl rfl (r_fieldAddr (r := Addr.add c_30 1) pu45 (f := Try.pf45.getD 1 default) rfl pi43 (by decide) rfl (Addr.add_add _ _ _)) ?_
        refine JA_takeg 37 rfl hns (by kernel_rfl) (by kernel_rfl) (by kernel_rfl) rfl (by kernel_rfl) hS_49 rfl rfl hc_51 rfl rfl (r_load_priv (a := c_30) (off := 1) (cs' := [v_24]) (v := v_24) 0 pu43 pi43 rfl rfl rfl rfl (by decide) rfl) ?_
        refine JA_takeg 38 rfl hns (by kernel_rfl) (by kernel_rfl) (by kernel_rfl) rfl (by kernel_rfl) hS_49 rfl rfl hc_51 rfl rfl (r_len_row (v := v_24) 2 pu43 rfl rfl) ?_
        refine JA_takepg 39 rfl hns (by kernel_rfl) (by kernel_rfl) rfl (.inr hS_49) rfl rfl hc_51 rfl rfl (r_neq rfl rfl) ?_
        refine JA_takep 40 rfl hns (by kernel_rfl) (by kernel_rfl) rfl (.inr hS_49) rfl rfl rfl (r_pick_f (v := .bool (decide (x_19.Writer.len ≠ x_19.Cells.len))) rfl hc_51 rfl) ?_
        refine J_prune [(2, .pointer (some (Addr.add a_4 0))), (7, .i x_14.1), (9, .pointer (some (Addr.add c_30 0))), (28, v_1), (29, .i x_2.len), (30, .i x_14.2), (75, .bool ((y_41 || decide (x_19.Readers.len ≠ x_19.Cells.len)) || decide (x_19.Writer.len ≠ x_19.Cells.len)))] ⟨rfl, rfl, rfl, rfl, rfl, rfl, (by show Value.bool _ = Value.bool _; rw [hc_51]; rfl), trivial⟩ hk
       ·refine JA_done (by kernel_rfl) ?_
        refine J_then ?_
        refine J_cond rfl (fun hc_52 => ?_) (fun hc_52 => ?_)
        ·refine J_seq ?_
         refine J_region ?_
         refine JL_op rfl (op_read rfl rfl (r_assign (v := .bool false) rfl) ?_)
         refine JL_nil ?_
         refine J_then ?_
         refine J_ret ?_
         refine J_then_ret ?_
         refine J_in_ret ?_
         refine J_then_ret ?_
         refine J_select (PV' := [.hole (fun x => .elem O11 (elemAddr v_1 ((x_14.2).toNat * (O11).size)) x) (fun x => .row O11 45 v_1 (Sl.set x_2 x_14.2 x)), .cell (elemAddr v_1 ((x_14.2).toNat * (O11).size)) [.bool x_19.Live, v_24, v_26, v_28], .row (T13).o 29 v_24 x_19.Cells, .row ((tInt .i64)).o 3 v_26 x_19.Readers, .row (tBool).o 4 v_28 x_19.Writer, .cell a_4 [v_5, v_7, v_9, .i Used_11], .row (tBool).o 4 v_5 x_6, .row ((tInt .i64)).o 2 v_7 x_8, .row (T6).o 85 v_9 x_10, .cell c_30 [.bool x_19.Live, v_24, v_26, v_28]]) [9, 8, 5, 6, 7, 0, 1, 2, 3, 4] (by decide) rfl ?_
         refine J_put (T := O11) (i := x_14.2) (s := x_2) (s' := x_2) (A := [.row (T13).o 29 v_24 x_19.Cells, .row ((tInt .i64)).o 3 v_26 x_19.Readers, .row (tBool).o 4 v_28 x_19.Writer]) (C := [.cell a_4 [v_5, v_7, v_9, .i Used_11], .row (tBool).o 4 v_5 x_6, .row ((tInt .i64)).o 2 v_7 x_8, .row (T6).o 85 v_9 x_10, .cell c_30 [.bool x_19.Live, v_24, v_26, v_28]]) x_19 ((), v_24, v_26, v_28) ⟨trivial, trivial, trivial, trivial⟩ rfl rfl (Sl.set_same hx_20) ?_
         refine J_select (PV' := [.row O11 45 v_1 x_2, .cell a_4 [v_5, v_7, v_9, .i Used_11], .row (tBool).o 4 v_5 x_6, .row ((tInt .i64)).o 2 v_7 x_8, .row (T6).o 85 v_9 x_10]) [0, 1, 2, 3, 4] (by decide) rfl ?_
         refine J_done trivial _ ?_ ⟨rfl, rfl, rfl, rfl⟩
         exact ⟨rfl, trivial⟩
        ·refine J_skip ?_
         refine J_then ?_
         refine J_seq ?_
         refine J_region ?_
         refine JL_op rfl (op_read rfl rfl (r_fieldAddr (r := Addr.add c_30 1) pu45 (f := Try.pf45.getD 1 default) rfl pi43 (by decide) rfl (Addr.add_add _ _ _)) ?_)
         refine JL_op rfl (op_read rfl rfl (r_load_priv (a := c_30) (off := 1) (cs' := [v_24]) (v := v_24) 4 pu43 pi43 rfl rfl rfl rfl (by decide) rfl) ?_)
         refine JL_op rfl (op_read rfl rfl (r_len_row (v := v_24) 5 pu43 rfl rfl) ?_)
         refine JL_op rfl (op_read rfl rfl (r_move (v := .i 0) rfl) ?_)
         refine JL_nil ?_
         refine J_then ?_
         refine J_block ?_
         refine J_select (PV' := [.cell a_4 [v_5, v_7, v_9, .i Used_11], .row (tBool).o 4 v_5 x_6, .row ((tInt .i64)).o 2 v_7 x_8, .row (T6).o 85 v_9 x_10, .cell c_30 [.bool x_19.Live, v_24, v_26, v_28], .row (T13).o 29 v_24 x_19.Cells, .row ((tInt .i64)).o 3 v_26 x_19.Readers, .row (tBool).o 4 v_28 x_19.Writer, .hole (fun x => .elem O11 (elemAddr v_1 ((x_14.2).toNat * (O11).size)) x) (fun x => .row O11 45 v_1 (Sl.set x_2 x_14.2 x)), .cell (elemAddr v_1 ((x_14.2).toNat * (O11).size)) [.bool x_19.Live, v_24, v_26, v_28]]) [0, 1, 2, 3, 4, 5, 6, 7, 9, 8] (by decide) rfl ?_
         refine J_loop (fun (y : Int × Int) L τ PV => σ = τ ∧ L = [(2, .pointer (some (Addr.add a_4 0))), (7, .i y.1), (9, .pointer (some (Addr.add c_30 0))), (28, v_1), (29, .i x_2.len), (30, .i x_14.2), (78, .i x_19.Cells.len), (79, .i y.2)] ∧ PV = [.cell a_4 [v_5, v_7, v_9, .i Used_11], .row (tBool).o 4 v_5 x_6, .row ((tInt .i64)).o 2 v_7 x_8, .row (T6).o 85 v_9 x_10, .cell c_30 [.bool x_19.Live, v_24, v_26, v_28], .row (T13).o 29 v_24 x_19.Cells, .row ((tInt .i64)).o 3 v_26 x_19.Readers, .row (tBool).o 4 v_28 x_19.Writer, .hole (fun x => .elem O11 (elemAddr v_1 ((x_14.2).toNat * (O11).size)) x) (fun x => .row O11 45 v_1 (Sl.set x_2 x_14.2 x)), .cell (elemAddr v_1 ((x_14.2).toNat * (O11).size)) [.bool x_19.Live, v_24, v_26, v_28]]) (fun (y : W2 Int Unit) e L τ PV => match y, e with | .a y, e => e = .exit 2 ∧ (σ = τ ∧ L = [(2, .pointer (some (Addr.add a_4 0))), (7, .i y), (28, v_1), (29, .i x_2.len), (30, .i x_14.2)] ∧ PV = [.cell a_4 [v_5, v_7, v_9, .i Used_11], .row (tBool).o 4 v_5 x_6, .row ((tInt .i64)).o 2 v_7 x_8, .row (T6).o 85 v_9 x_10, .row O11 45 v_1 x_2]) | .b y, e => e = .ret ∧ (σ = τ ∧ L = [(6, .bool false)] ∧ PV = [.row O11 45 v_1 x_2, .cell a_4 [v_5, v_7, v_9, .i Used_11], .row (tBool).o 4 v_5 x_6, .row ((tInt .i64)).o 2 v_7 x_8, .row (T6).o 85 v_9 x_10])) _ ?_ ⟨rfl, rfl, rfl⟩ ?_ ?_
         ·exact ⟨rfl, rfl, rfl, rfl, rfl, rfl, rfl, rfl, trivial⟩
         ·rintro x_53 _ b s_56 _ ⟨rfl, rfl, rfl⟩
          unfold lychgatelaw06_sameMemory_L1
          refine J_seq ?_
          refine J_region ?_
          refine JL_op rfl (op_read rfl rfl (r_lss rfl rfl) ?_)
          refine JL_nil ?_
          refine J_then ?_
          refine J_seq ?_
          refine J_cond rfl (fun hc_57 => ?_) (fun hc_57 => ?_)
          ·refine J_skip ?_
           refine J_then ?_
           refine J_seq ?_
           refine J_block ?_
           refine J_seq ?_
           refine J_region ?_
           refine JL_op rfl (op_read rfl rfl (r_move (v := .i x_53.2) rfl) ?_)
           refine JL_op rfl (op_read rfl rfl (r_assign (v := .i x_53.2) rfl) ?_)
           refine JL_nil ?_
           refine J_then ?_
           refine J_seq ?_
           refine J_region ?_
           refine JL_op rfl (op_read rfl rfl (r_move (v := .pointer (some (Addr.add a_4 0))) rfl) ?_)
           refine JL_op rfl (op_read rfl rfl (r_nilCheck (a := (Addr.add a_4 0)) rfl) ?_)
           refine JL_op rfl (op_read rfl rfl (r_fieldAddr (r := Addr.add a_4 2) pu56 (f := Try.pf56.getD 2 default) rfl pi54 (by decide) rfl (Addr.add_add _ _ _)) ?_)
           refine JL_op rfl (op_read rfl rfl (r_load_priv (a := a_4) (off := 2) (cs' := [v_9]) (v := v_9) 0 pu54 pi54 rfl rfl rfl rfl (by decide) rfl) ?_)
           refine JL_op rfl (op_read rfl rfl (r_move (v := .i x_53.1) rfl) ?_)
           refine J_bind fun x_58 hx_59 => ?_
           refine JL_op rfl (op_read rfl rfl (r_index_row (v := v_9) (T := (T6).o) (q := x_58) 3 pu54 pi85 rfl rfl rfl rfl hx_59) ?_)
           refine JL_op rfl (op_reads rfl rfl (l_elem_orow (v := v_9) (T := (T6).o) (Tf := T6) (q := x_58) (i := x_53.1) (off := 0) 3 pu85 pi85 rfl rfl rfl rfl hx_59 (OFieldAt.self (T := (T6).o)) (by decide)) ?_)
           intro v_60 h_61
           obtain rfl := T6_v.1 h_61
           refine JL_op rfl (op_alloc (cs := [.i 0, .i 0, .i 0, .i 0, .i 0, .i 0, .bool false]) rfl pi85 rfl rfl ?_)
           intro c_62
           refine JL_op rfl (op_store_priv (a := c_62) (off := 0) (vs := [.i x_58.Block, .i x_58.Number, .i x_58.V.Kind, .i x_58.V.N, .i x_58.V.Block, .i x_58.Readers, .bool x_58.Writer]) (cs' := [.i x_58.Block, .i x_58.Number, .i x_58.V.Kind, .i x_58.V.N, .i x_58.V.Block, .i x_58.Readers, .bool x_58.Writer]) (PV' := [.cell c_62 [.i x_58.Block, .i x_58.Number, .i x_58.V.Kind, .i x_58.V.N, .i x_58.V.Block, .i x_58.Readers, .bool x_58.Writer], .cell a_4 [v_5, v_7, v_9, .i Used_11], .row (tBool).o 4 v_5 x_6, .row ((tInt .i64)).o 2 v_7 x_8, .row (T6).o 85 v_9 x_10, .cell c_30 [.bool x_19.Live, v_24, v_26, v_28], .row (T13).o 29 v_24 x_19.Cells, .row ((tInt .i64)).o 3 v_26 x_19.Readers, .row (tBool).o 4 v_28 x_19.Writer, .hole (fun x => .elem O11 (elemAddr v_1 ((x_14.2).toNat * (O11).size)) x) (fun x => .row O11 45 v_1 (Sl.set x_2 x_14.2 x)), .cell (elemAddr v_1 ((x_14.2).toNat * (O11).size)) [.bool x_19.Live, v_24, v_26, v_28]]) 0 pi85 rfl rfl rfl ⟨rfl, rfl, rfl, rfl, rfl, rfl, rfl, trivial⟩ rfl rfl rfl rfl rfl ?_)
           refine JL_nil ?_
           refine J_then ?_
           refine J_seq ?_
           refine J_region ?_
           refine JL_op rfl (op_read rfl rfl (r_move (v := .i x_53.1) rfl) ?_)
           refine JL_op rfl (op_read rfl rfl (r_add rfl rfl) ?_)
           refine JL_op rfl (op_read rfl rfl (r_assign (v := .i (IntKind.i64.wrap (x_53.1 + 1))) rfl) ?_)
           refine JL_nil ?_
           refine J_then ?_
           refine J_seq ?_
           refine J_region_any 29 [.cell c_62 [.i x_58.Block, .i x_58.Number, .i x_58.V.Kind, .i x_58.V.N, .i x_58.V.Block, .i x_58.Readers, .bool x_58.Writer], .cell a_4 [v_5, v_7, v_9, .i Used_11], .row (tBool).o 4 v_5 x_6, .row ((tInt .i64)).o 2 v_7 x_8, .row (T6).o 85 v_9 x_10, .cell c_30 [.bool x_19.Live, v_24, v_26, v_28], .row (T13).o 29 v_24 x_19.Cells, .row ((tInt .i64)).o 3 v_26 x_19.Readers, .row (tBool).o 4 v_28 x_19.Writer, .cell (elemAddr v_1 ((x_14.2).toNat * (O11).size)) [.bool x_19.Live, v_24, v_26, v_28]] Try.mixed (by kernel_rfl) fun hns => ?_
           have hS_64 : HeldOK σ [.cell c_62 [.i x_58.Block, .i x_58.Number, .i x_58.V.Kind, .i x_58.V.N, .i x_58.V.Block, .i x_58.Readers, .bool x_58.Writer], .cell a_4 [v_5, v_7, v_9, .i Used_11], .row (tBool).o 4 v_5 x_6, .row ((tInt .i64)).o 2 v_7 x_8, .row (T6).o 85 v_9 x_10, .cell c_30 [.bool x_19.Live, v_24, v_26, v_28], .row (T13).o 29 v_24 x_19.Cells, .row ((tInt .i64)).o 3 v_26 x_19.Readers, .row (tBool).o 4 v_28 x_19.Writer, .cell (elemAddr v_1 ((x_14.2).toNat * (O11).size)) [.bool x_19.Live, v_24, v_26, v_28]] σ [.cell c_62 [.i x_58.Block, .i x_58.Number, .i x_58.V.Kind, .i x_58.V.N, .i x_58.V.Block, .i x_58.Readers, .bool x_58.Writer], .cell a_4 [v_5, v_7, v_9, .i Used_11], .row (tBool).o 4 v_5 x_6, .row ((tInt .i64)).o 2 v_7 x_8, .row (T6).o 85 v_9 x_10, .cell c_30 [.bool x_19.Live, v_24, v_26, v_28], .row (T13).o 29 v_24 x_19.Cells, .row ((tInt .i64)).o 3 v_26 x_19.Readers, .row (tBool).o 4 v_28 x_19.Writer, .hole (fun x => .elem O11 (elemAddr v_1 ((x_14.2).toNat * (O11).size)) x) (fun x => .row O11 45 v_1 (Sl.set x_2 x_14.2 x)), .cell (elemAddr v_1 ((x_14.2).toNat * (O11).size)) [.bool x_19.Live, v_24, v_26, v_28]] := HeldOK.same [0, 1, 2, 3, 4, 5, 6, 7, 8, 10] (by decide) rfl
           refine JA_takep 0 rfl hns (by kernel_rfl) (by kernel_rfl) rfl (.inr hS_64) rfl rfl rfl (r_fieldAddr (r := Addr.add c_30 1) pu45 (f := Try.pf45.getD 1 default) rfl pi43 (by decide) rfl (Addr.add_add _ _ _)) ?_
           refine JA_take 1 rfl hns (by kernel_rfl) (by kernel_rfl) (by kernel_rfl) rfl (by kernel_rfl) hS_64 rfl rfl rfl (r_load_priv (a := c_30) (off := 1) (cs' := [v_24]) (v := v_24) 5 pu43 pi43 rfl rfl rfl rfl (by decide) rfl) ?_
           refine JA_takep 2 rfl hns (by kernel_rfl) (by kernel_rfl) rfl (.inr hS_64) rfl rfl rfl (r_move (v := .i x_53.2) rfl) ?_
           refine J_bind fun x_65 hx_66 => ?_
           refine JA_take 3 rfl hns (by kernel_rfl) (by kernel_rfl) (by kernel_rfl) rfl (by kernel_rfl) hS_64 rfl rfl rfl (r_index_row (v := v_24) (T := (T13).o) (q := x_65) 6 pu43 pi29 rfl rfl rfl rfl hx_66) ?_
           refine JA_takes 4 rfl hns (by kernel_rfl) (by kernel_rfl) (by kernel_rfl) rfl (by kernel_rfl) hS_64 rfl rfl rfl (l_elem_orow (v := v_24) (T := (T13).o) (Tf := T13) (q := x_65) (i := x_53.2) (off := 0) 6 pu29 pi29 rfl rfl rfl rfl hx_66 (OFieldAt.self (T := (T13).o)) (by decide)) ?_
           intro v_67 h_68
           obtain rfl := T13_v.1 h_68
           refine JA_takep 6 rfl hns (by kernel_rfl) (by kernel_rfl) rfl (.inr hS_64) rfl rfl rfl (r_fieldAddr (r := Addr.add c_62 2) pu85 (f := Try.pf85.getD 2 default) rfl pi74 (by decide) rfl (Addr.add_add _ _ _)) ?_
           refine JA_take 7 rfl hns (by kernel_rfl) (by kernel_rfl) (by kernel_rfl) rfl (by kernel_rfl) hS_64 rfl rfl rfl (r_load_priv (a := c_62) (off := 2) (cs' := [.i x_58.V.Kind, .i x_58.V.N, .i x_58.V.Block]) (v := .agg #[.i x_58.V.Kind, .i x_58.V.N, .i x_58.V.Block]) 0 pu74 pi74 rfl rfl rfl rfl (by decide) rfl) ?_
           refine JA_op (i := 5) (by kernel_rfl) rfl rfl (op_call (f := 30) (fn := Try.f30) (args := [.agg #[.i x_65.Kind, .i x_65.N, .i x_65.Block]]) (post := lychgatelaw06_val_post σ (.agg #[.i x_65.Kind, .i x_65.N, .i x_65.Block]) x_65) [] [.cell c_62 [.i x_58.Block, .i x_58.Number, .i x_58.V.Kind, .i x_58.V.N, .i x_58.V.Block, .i x_58.Readers, .bool x_58.Writer], .cell a_4 [v_5, v_7, v_9, .i Used_11], .row (tBool).o 4 v_5 x_6, .row ((tInt .i64)).o 2 v_7 x_8, .row (T6).o 85 v_9 x_10, .cell c_30 [.bool x_19.Live, v_24, v_26, v_28], .row (T13).o 29 v_24 x_19.Cells, .row ((tInt .i64)).o 3 v_26 x_19.Readers, .row (tBool).o 4 v_28 x_19.Writer, .hole (fun x => .elem O11 (elemAddr v_1 ((x_14.2).toNat * (O11).size)) x) (fun x => .row O11 45 v_1 (Sl.set x_2 x_14.2 x)), .cell (elemAddr v_1 ((x_14.2).toNat * (O11).size)) [.bool x_19.Live, v_24, v_26, v_28]] rfl rfl rfl Try.func30 pn30 rfl rfl (fun y st hy hpre => lychgatelaw06_val_ref st σ (.agg #[.i x_65.Kind, .i x_65.N, .i x_65.Block]) x_65 (T13_v.2 rfl) hpre y hy) ?_)
           intro r_69 v_71 s_74 PV_72 hr_70 hle_75 hp_73
           obtain ⟨rfl, rfl, rfl⟩ := hp_73
           have hS_76 : HeldOK σ [.cell c_62 [.i x_58.Block, .i x_58.Number, .i x_58.V.Kind, .i x_58.V.N, .i x_58.V.Block, .i x_58.Readers, .bool x_58.Writer], .cell a_4 [v_5, v_7, v_9, .i Used_11], .row (tBool).o 4 v_5 x_6, .row ((tInt .i64)).o 2 v_7 x_8, .row (T6).o 85 v_9 x_10, .cell c_30 [.bool x_19.Live, v_24, v_26, v_28], .row (T13).o 29 v_24 x_19.Cells, .row ((tInt .i64)).o 3 v_26 x_19.Readers, .row (tBool).o 4 v_28 x_19.Writer, .cell (elemAddr v_1 ((x_14.2).toNat * (O11).size)) [.bool x_19.Live, v_24, v_26, v_28]] σ [.cell c_62 [.i x_58.Block, .i x_58.Number, .i x_58.V.Kind, .i x_58.V.N, .i x_58.V.Block, .i x_58.Readers, .bool x_58.Writer], .cell a_4 [v_5, v_7, v_9, .i Used_11], .row (tBool).o 4 v_5 x_6, .row ((tInt .i64)).o 2 v_7 x_8, .row (T6).o 85 v_9 x_10, .cell c_30 [.bool x_19.Live, v_24, v_26, v_28], .row (T13).o 29 v_24 x_19.Cells, .row ((tInt .i64)).o 3 v_26 x_19.Readers, .row (tBool).o 4 v_28 x_19.Writer, .hole (fun x => .elem O11 (elemAddr v_1 ((x_14.2).toNat * (O11).size)) x) (fun x => .row O11 45 v_1 (Sl.set x_2 x_14.2 x)), .cell (elemAddr v_1 ((x_14.2).toNat * (O11).size)) [.bool x_19.Live, v_24, v_26, v_28]] := HeldOK.same [0, 1, 2, 3, 4, 5, 6, 7, 8, 10] (by decide) rfl
           refine ⟨.inr hS_76, ?_⟩
           refine JA_takep 8 rfl hns (by kernel_rfl) (by kernel_rfl) rfl (.inr hS_76) rfl rfl rfl (r_neq_struct (by kernel_rfl) rfl rfl (by decide) (eq_Glychgateref06_Value (x := (⟨x_65.Kind, x_65.N, x_65.Block⟩ : Glychgateref06_Value)) (y := x_58.V))) ?_
           refine JA_takep 9 rfl hns (by kernel_rfl) (by kernel_rfl) rfl (.inr hS_76) rfl rfl rfl (r_move (v := .bool (!(decide ((⟨x_65.Kind, x_65.N, x_65.Block⟩ : Glychgateref06_Value) = x_58.V)))) rfl) ?_
           refine J_forkAB (e := (!(decide ((⟨x_65.Kind, x_65.N, x_65.Block⟩ : Glychgateref06_Value) = x_58.V)))) 10 #[true, true, true, true, true, true, true, true, true, true, true, true, true, true, true, true, true, true, true, false, false, false, false, false, false, false, false, false, false] (fun (y : Bool) L τ PV => σ = τ ∧ L = [(2, .pointer (some (Addr.add a_4 0))), (7, .i (IntKind.i64.wrap (x_53.1 + 1))), (9, .pointer (some (Addr.add c_30 0))), (10, .i x_53.2), (11, .pointer (some (Addr.add c_62 0))), (28, v_1), (29, .i x_2.len), (30, .i x_14.2), (78, .i x_19.Cells.len), (79, .i x_53.2), (109, .bool y)] ∧ PV = [.cell a_4 [v_5, v_7, v_9, .i Used_11], .row (tBool).o 4 v_5 x_6, .row ((tInt .i64)).o 2 v_7 x_8, .row (T6).o 85 v_9 x_10, .cell c_30 [.bool x_19.Live, v_24, v_26, v_28], .row (T13).o 29 v_24 x_19.Cells, .row ((tInt .i64)).o 3 v_26 x_19.Readers, .row (tBool).o 4 v_28 x_19.Writer, .cell c_62 [.i x_58.Block, .i x_58.Number, .i x_58.V.Kind, .i x_58.V.N, .i x_58.V.Block, .i x_58.Readers, .bool x_58.Writer], .cell (elemAddr v_1 ((x_14.2).toNat * (O11).size)) [.bool x_19.Live, v_24, v_26, v_28], .hole (fun x => .elem O11 (elemAddr v_1 ((x_14.2).toNat * (O11).size)) x) (fun x => .row O11 45 v_1 (Sl.set x_2 x_14.2 x))]) (fun hc_77 hk => ?_) (fun hc_77 hk => ?_) ?_
           ·refine JA_skip (y := some (!(decide ((⟨x_65.Kind, x_65.N, x_65.Block⟩ : Glychgateref06_Value) = x_58.V)))) 10 rfl hns (by kernel_rfl) (by kernel_rfl) rfl (.inr hS_76) rfl rfl (by rw [hc_77]; decide) rfl rfl ?_
            refine JA_skip (y := some (!(decide ((⟨x_65.Kind, x_65.N, x_65.Block⟩ : Glychgateref06_Value) = x_58.V)))) 11 rfl hns (by kernel_rfl) (by kernel_rfl) rfl (.inr hS_76) rfl rfl (by rw [hc_77]; decide) rfl rfl ?_
            refine JA_skip (y := some (!(decide ((⟨x_65.Kind, x_65.N, x_65.Block⟩ : Glychgateref06_Value) = x_58.V)))) 12 rfl hns (by kernel_rfl) (by kernel_rfl) rfl (.inr hS_76) rfl rfl (by rw [hc_77]; decide) rfl rfl ?_
            refine JA_skip (y := some (!(decide ((⟨x_65.Kind, x_65.N, x_65.Block⟩ : Glychgateref06_Value) = x_58.V)))) 13 rfl hns (by kernel_rfl) (by kernel_rfl) rfl (.inr hS_76) rfl rfl (by rw [hc_77]; decide) rfl rfl ?_
            refine JA_skip (y := some (!(decide ((⟨x_65.Kind, x_65.N, x_65.Block⟩ : Glychgateref06_Value) = x_58.V)))) 14 rfl hns (by kernel_rfl) (by kernel_rfl) rfl (.inr hS_76) rfl rfl (by rw [hc_77]; decide) rfl rfl ?_
            refine JA_skip (y := some (!(decide ((⟨x_65.Kind, x_65.N, x_65.Block⟩ : Glychgateref06_Value) = x_58.V)))) 15 rfl hns (by kernel_rfl) (by kernel_rfl) rfl (.inr hS_76) rfl rfl (by rw [hc_77]; decide) rfl rfl ?_
            refine JA_skip (y := some (!(decide ((⟨x_65.Kind, x_65.N, x_65.Block⟩ : Glychgateref06_Value) = x_58.V)))) 16 rfl hns (by kernel_rfl) (by kernel_rfl) rfl (.inr hS_76) rfl rfl (by rw [hc_77]; decide) rfl rfl ?_
            refine JA_skip (y := some (!(decide ((⟨x_65.Kind, x_65.N, x_65.Block⟩ : Glychgateref06_Value) = x_58.V)))) 17 rfl hns (by kernel_rfl) (by kernel_rfl) rfl (.inr hS_76) rfl rfl (by rw [hc_77]; decide) rfl rfl ?_
            refine JA_takep 18 rfl hns (by kernel_rfl) (by kernel_rfl) rfl (.inr hS_76) rfl rfl rfl (r_pick_t (v := .bool true) rfl hc_77 rfl) ?_
            refine J_select (PV' := [.cell a_4 [v_5, v_7, v_9, .i Used_11], .row (tBool).o 4 v_5 x_6, .row ((tInt .i64)).o 2 v_7 x_8, .row (T6).o 85 v_9 x_10, .cell c_30 [.bool x_19.Live, v_24, v_26, v_28], .row (T13).o 29 v_24 x_19.Cells, .row ((tInt .i64)).o 3 v_26 x_19.Readers, .row (tBool).o 4 v_28 x_19.Writer, .cell c_62 [.i x_58.Block, .i x_58.Number, .i x_58.V.Kind, .i x_58.V.N, .i x_58.V.Block, .i x_58.Readers, .bool x_58.Writer], .cell (elemAddr v_1 ((x_14.2).toNat * (O11).size)) [.bool x_19.Live, v_24, v_26, v_28], .hole (fun x => .elem O11 (elemAddr v_1 ((x_14.2).toNat * (O11).size)) x) (fun x => .row O11 45 v_1 (Sl.set x_2 x_14.2 x))]) [1, 2, 3, 4, 5, 6, 7, 8, 0, 10, 9] (by decide) rfl ?_
            refine J_prune _ ?_ fun b => hk true _ b _ _ ⟨rfl, rfl, rfl⟩
            exact ⟨rfl, rfl, rfl, rfl, rfl, rfl, rfl, rfl, rfl, rfl, rfl, trivial⟩
           ·refine JA_takepg 10 rfl hns (by kernel_rfl) (by kernel_rfl) rfl (.inr hS_76) rfl rfl hc_77 rfl rfl (r_fieldAddr (r := Addr.add c_30 2) pu45 (f := Try.pf45.getD 2 default) rfl pi36 (by decide) rfl (Addr.add_add _ _ _)) ?_
            refine JA_takeg 11 rfl hns (by kernel_rfl) (by kernel_rfl) (by kernel_rfl) rfl (by kernel_rfl) hS_76 rfl rfl hc_77 rfl rfl (r_load_priv (a := c_30) (off := 2) (cs' := [v_26]) (v := v_26) 5 pu36 pi36 rfl rfl rfl rfl (by decide) rfl) ?_
            refine JA_takepg 12 rfl hns (by kernel_rfl) (by kernel_rfl) rfl (.inr hS_76) rfl rfl hc_77 rfl rfl (r_move (v := .i x_53.2) rfl) ?_
            refine J_assoc ?_
            refine J_bind fun x_79 hx_80 => ?_
            refine JA_takeg 13 rfl hns (by kernel_rfl) (by kernel_rfl) (by kernel_rfl) rfl (by kernel_rfl) hS_76 rfl rfl hc_77 rfl rfl (r_index_row (v := v_26) (T := ((tInt .i64)).o) (q := x_79) 7 pu36 pi3 rfl rfl rfl rfl hx_80) ?_
            refine JA_takesg 14 rfl hns (by kernel_rfl) (by kernel_rfl) (by kernel_rfl) rfl (by kernel_rfl) hS_76 rfl rfl hc_77 rfl rfl (l_elem_orow (v := v_26) (T := ((tInt .i64)).o) (Tf := (tInt .i64)) (q := x_79) (i := x_53.2) (off := 0) 7 pu3 pi3 rfl rfl rfl rfl hx_80 (OFieldAt.self (T := ((tInt .i64)).o)) (by decide)) ?_
            intro v_81 h_82
            obtain rfl := tInt_v.1 h_82
            refine JA_takepg 15 rfl hns (by kernel_rfl) (by kernel_rfl) rfl (.inr hS_76) rfl rfl hc_77 rfl rfl (r_fieldAddr (r := Addr.add c_62 5) pu85 (f := Try.pf85.getD 3 default) rfl pi3 (by decide) rfl (Addr.add_add _ _ _)) ?_
            refine JA_takeg 16 rfl hns (by kernel_rfl) (by kernel_rfl) (by kernel_rfl) rfl (by kernel_rfl) hS_76 rfl rfl hc_77 rfl rfl (r_load_priv (a := c_62) (off := 5) (cs' := [.i x_58.Readers]) (v := .i x_58.Readers) 0 pu3 pi3 rfl rfl rfl rfl (by decide) rfl) ?_
            refine JA_takepg 17 rfl hns (by kernel_rfl) (by kernel_rfl) rfl (.inr hS_76) rfl rfl hc_77 rfl rfl (r_neq rfl rfl) ?_
            refine JA_takep 18 rfl hns (by kernel_rfl) (by kernel_rfl) rfl (.inr hS_76) rfl rfl rfl (r_pick_f (v := .bool (decide (x_79 ≠ x_58.Readers))) rfl hc_77 rfl) ?_
            refine J_select (PV' := [.cell a_4 [v_5, v_7, v_9, .i Used_11], .row (tBool).o 4 v_5 x_6, .row ((tInt .i64)).o 2 v_7 x_8, .row (T6).o 85 v_9 x_10, .cell c_30 [.bool x_19.Live, v_24, v_26, v_28], .row (T13).o 29 v_24 x_19.Cells, .row ((tInt .i64)).o 3 v_26 x_19.Readers, .row (tBool).o 4 v_28 x_19.Writer, .cell c_62 [.i x_58.Block, .i x_58.Number, .i x_58.V.Kind, .i x_58.V.N, .i x_58.V.Block, .i x_58.Readers, .bool x_58.Writer], .cell (elemAddr v_1 ((x_14.2).toNat * (O11).size)) [.bool x_19.Live, v_24, v_26, v_28], .hole (fun x => .elem O11 (elemAddr v_1 ((x_14.2).toNat * (O11).size)) x) (fun x => .row O11 45 v_1 (Sl.set x_2 x_14.2 x))]) [1, 2, 3, 4, 5, 6, 7, 8, 0, 10, 9] (by decide) rfl ?_
            refine J_prune _ ?_ fun b => hk (decide (x_79 ≠ x_58.Readers)) _ b _ _ ⟨rfl, rfl, rfl⟩
            exact ⟨rfl, rfl, rfl, rfl, rfl, rfl, rfl, rfl, rfl, rfl, rfl, trivial⟩
           ·rintro y_78 _ b s_85 _ ⟨rfl, rfl, rfl⟩
            have hS_86 : HeldOK σ [.cell c_62 [.i x_58.Block, .i x_58.Number, .i x_58.V.Kind, .i x_58.V.N, .i x_58.V.Block, .i x_58.Readers, .bool x_58.Writer], .cell a_4 [v_5, v_7, v_9, .i Used_11], .row (tBool).o 4 v_5 x_6, .row ((tInt .i64)).o 2 v_7 x_8, .row (T6).o 85 v_9 x_10, .cell c_30 [.bool x_19.Live, v_24, v_26, v_28], .row (T13).o 29 v_24 x_19.Cells, .row ((tInt .i64)).o 3 v_26 x_19.Readers, .row (tBool).o 4 v_28 x_19.Writer, .cell (elemAddr v_1 ((x_14.2).toNat * (O11).size)) [.bool x_19.Live, v_24, v_26, v_28]] σ [.cell a_4 [v_5, v_7, v_9, .i Used_11], .row (tBool).o 4 v_5 x_6, .row ((tInt .i64)).o 2 v_7 x_8, .row (T6).o 85 v_9 x_10, .cell c_30 [.bool x_19.Live, v_24, v_26, v_28], .row (T13).o 29 v_24 x_19.Cells, .row ((tInt .i64)).o 3 v_26 x_19.Readers, .row (tBool).o 4 v_28 x_19.Writer, .cell c_62 [.i x_58.Block, .i x_58.Number, .i x_58.V.Kind, .i x_58.V.N, .i x_58.V.Block, .i x_58.Readers, .bool x_58.Writer], .cell (elemAddr v_1 ((x_14.2).toNat * (O11).size)) [.bool x_19.Live, v_24, v_26, v_28], .hole (fun x => .elem O11 (elemAddr v_1 ((x_14.2).toNat * (O11).size)) x) (fun x => .row O11 45 v_1 (Sl.set x_2 x_14.2 x))] := HeldOK.same [8, 0, 1, 2, 3, 4, 5, 6, 7, 9] (by decide) rfl
            refine JA_takep 19 rfl hns (by kernel_rfl) (by kernel_rfl) rfl (.inr hS_86) rfl rfl rfl (r_move (v := .bool y_78) rfl) ?_
            refine J_forkAB (e := y_78) 0 #[true, true, true, true, true, true, true, true, true, true, true, true, true, true, true, true, true, true, true, true, true, true, true, true, true, true, true, true, true] (fun (y : Bool) L τ PV => σ = τ ∧ L = [(2, .pointer (some (Addr.add a_4 0))), (7, .i (IntKind.i64.wrap (x_53.1 + 1))), (9, .pointer (some (Addr.add c_30 0))), (28, v_1), (29, .i x_2.len), (30, .i x_14.2), (78, .i x_19.Cells.len), (79, .i x_53.2), (119, .bool y)] ∧ PV = [.cell a_4 [v_5, v_7, v_9, .i Used_11], .row (tBool).o 4 v_5 x_6, .row ((tInt .i64)).o 2 v_7 x_8, .row (T6).o 85 v_9 x_10, .cell c_30 [.bool x_19.Live, v_24, v_26, v_28], .row (T13).o 29 v_24 x_19.Cells, .row ((tInt .i64)).o 3 v_26 x_19.Readers, .row (tBool).o 4 v_28 x_19.Writer, .cell c_62 [.i x_58.Block, .i x_58.Number, .i x_58.V.Kind, .i x_58.V.N, .i x_58.V.Block, .i x_58.Readers, .bool x_58.Writer], .cell (elemAddr v_1 ((x_14.2).toNat * (O11).size)) [.bool x_19.Live, v_24, v_26, v_28], .hole (fun x => .elem O11 (elemAddr v_1 ((x_14.2).toNat * (O11).size)) x) (fun x => .row O11 45 v_1 (Sl.set x_2 x_14.2 x))]) (fun hc_87 hk => ?_) (fun hc_87 hk => ?_) ?_
            ·refine JA_skip (y := some y_78) 20 rfl hns (by kernel_rfl) (by kernel_rfl) rfl (.inr hS_86) rfl rfl (by rw [hc_87]; decide) rfl rfl ?_
             refine JA_skip (y := some y_78) 21 rfl hns (by kernel_rfl) (by kernel_rfl) rfl (.inr hS_86) rfl rfl (by rw [hc_87]; decide) rfl rfl ?_
             refine JA_skip (y := some y_78) 22 rfl hns (by kernel_rfl) (by kernel_rfl) rfl (.inr hS_86) rfl rfl (by rw [hc_87]; decide) rfl rfl ?_
             refine JA_skip (y := some y_78) 23 rfl hns (by kernel_rfl) (by kernel_rfl) rfl (.inr hS_86) rfl rfl (by rw [hc_87]; decide) rfl rfl ?_
             refine JA_skip (y := some y_78) 24 rfl hns (by kernel_rfl) (by kernel_rfl) rfl (.inr hS_86) rfl rfl (by rw [hc_87]; decide) rfl rfl ?_
             refine JA_skip (y := some y_78) 25 rfl hns (by kernel_rfl) (by kernel_rfl) rfl (.inr hS_86) rfl rfl (by rw [hc_87]; decide) rfl rfl ?_
             refine JA_skip (y := some y_78) 26 rfl hns (by kernel_rfl) (by kernel_rfl) rfl (.inr hS_86) rfl rfl (by rw [hc_87]; decide) rfl rfl ?_
             refine JA_skip (y := some y_78) 27 rfl hns (by kernel_rfl) (by kernel_rfl) rfl (.inr hS_86) rfl rfl (by rw [hc_87]; decide) rfl rfl ?_
             refine JA_takep 28 rfl hns (by kernel_rfl) (by kernel_rfl) rfl (.inr hS_86) rfl rfl rfl (r_pick_t (v := .bool true) rfl hc_87 rfl) ?_
             refine J_prune _ ?_ fun b => hk true _ b _ _ ⟨rfl, rfl, rfl⟩
             exact ⟨rfl, rfl, rfl, rfl, rfl, rfl, rfl, rfl, rfl, trivial⟩
            ·refine JA_takepg 20 rfl hns (by kernel_rfl) (by kernel_rfl) rfl (.inr hS_86) rfl rfl hc_87 rfl rfl (r_fieldAddr (r := Addr.add c_30 3) pu45 (f := Try.pf45.getD 3 default) rfl pi23 (by decide) rfl (Addr.add_add _ _ _)) ?_
             refine JA_takeg 21 rfl hns (by kernel_rfl) (by kernel_rfl) (by kernel_rfl) rfl (by kernel_rfl) hS_86 rfl rfl hc_87 rfl rfl (r_load_priv (a := c_30) (off := 3) (cs' := [v_28]) (v := v_28) 5 pu23 pi23 rfl rfl rfl rfl (by decide) rfl) ?_
             refine JA_takepg 22 rfl hns (by kernel_rfl) (by kernel_rfl) rfl (.inr hS_86) rfl rfl hc_87 rfl rfl (r_move (v := .i x_53.2) rfl) ?_
             refine J_assoc ?_
             refine J_bind fun x_89 hx_90 => ?_
             refine JA_takeg 23 rfl hns (by kernel_rfl) (by kernel_rfl) (by kernel_rfl) rfl (by kernel_rfl) hS_86 rfl rfl hc_87 rfl rfl (r_index_row (v := v_28) (T := (tBool).o) (q := x_89) 8 pu23 pi4 rfl rfl rfl rfl hx_90) ?_
             refine JA_takesg 24 rfl hns (by kernel_rfl) (by kernel_rfl) (by kernel_rfl) rfl (by kernel_rfl) hS_86 rfl rfl hc_87 rfl rfl (l_elem_orow (v := v_28) (T := (tBool).o) (Tf := tBool) (q := x_89) (i := x_53.2) (off := 0) 8 pu4 pi4 rfl rfl rfl rfl hx_90 (OFieldAt.self (T := (tBool).o)) (by decide)) ?_
             intro v_91 h_92
             obtain rfl := tBool_v.1 h_92
             refine JA_takepg 25 rfl hns (by kernel_rfl) (by kernel_rfl) rfl (.inr hS_86) rfl rfl hc_87 rfl rfl (r_fieldAddr (r := Addr.add c_62 6) pu85 (f := Try.pf85.getD 4 default) rfl pi4 (by decide) rfl (Addr.add_add _ _ _)) ?_
             refine JA_takeg 26 rfl hns (by kernel_rfl) (by kernel_rfl) (by kernel_rfl) rfl (by kernel_rfl) hS_86 rfl rfl hc_87 rfl rfl (r_load_priv (a := c_62) (off := 6) (cs' := [.bool x_58.Writer]) (v := .bool x_58.Writer) 0 pu4 pi4 rfl rfl rfl rfl (by decide) rfl) ?_
             refine JA_takepg 27 rfl hns (by kernel_rfl) (by kernel_rfl) rfl (.inr hS_86) rfl rfl hc_87 rfl rfl (r_bneq pu4 rfl rfl) ?_
             refine JA_takep 28 rfl hns (by kernel_rfl) (by kernel_rfl) rfl (.inr hS_86) rfl rfl rfl (r_pick_f (v := .bool (x_89 != x_58.Writer)) rfl hc_87 rfl) ?_
             refine J_prune _ ?_ fun b => hk (x_89 != x_58.Writer) _ b _ _ ⟨rfl, rfl, rfl⟩
             exact ⟨rfl, rfl, rfl, rfl, rfl, rfl, rfl, rfl, rfl, trivial⟩
            ·rintro y_88 _ b s_95 _ ⟨rfl, rfl, rfl⟩
             have hS_96 : HeldOK σ [.cell c_62 [.i x_58.Block, .i x_58.Number, .i x_58.V.Kind, .i x_58.V.N, .i x_58.V.Block, .i x_58.Readers, .bool x_58.Writer], .cell a_4 [v_5, v_7, v_9, .i Used_11], .row (tBool).o 4 v_5 x_6, .row ((tInt .i64)).o 2 v_7 x_8, .row (T6).o 85 v_9 x_10, .cell c_30 [.bool x_19.Live, v_24, v_26, v_28], .row (T13).o 29 v_24 x_19.Cells, .row ((tInt .i64)).o 3 v_26 x_19.Readers, .row (tBool).o 4 v_28 x_19.Writer, .cell (elemAddr v_1 ((x_14.2).toNat * (O11).size)) [.bool x_19.Live, v_24, v_26, v_28]] σ [.cell a_4 [v_5, v_7, v_9, .i Used_11], .row (tBool).o 4 v_5 x_6, .row ((tInt .i64)).o 2 v_7 x_8, .row (T6).o 85 v_9 x_10, .cell c_30 [.bool x_19.Live, v_24, v_26, v_28], .row (T13).o 29 v_24 x_19.Cells, .row ((tInt .i64)).o 3 v_26 x_19.Readers, .row (tBool).o 4 v_28 x_19.Writer, .cell c_62 [.i x_58.Block, .i x_58.Number, .i x_58.V.Kind, .i x_58.V.N, .i x_58.V.Block, .i x_58.Readers, .bool x_58.Writer], .cell (elemAddr v_1 ((x_14.2).toNat * (O11).size)) [.bool x_19.Live, v_24, v_26, v_28], .hole (fun x => .elem O11 (elemAddr v_1 ((x_14.2).toNat * (O11).size)) x) (fun x => .row O11 45 v_1 (Sl.set x_2 x_14.2 x))] := HeldOK.same [8, 0, 1, 2, 3, 4, 5, 6, 7, 9] (by decide) rfl
             refine JA_done (by kernel_rfl) ?_
             refine J_then ?_
             refine J_cond rfl (fun hc_97 => ?_) (fun hc_97 => ?_)
             ·refine J_seq ?_
              refine J_region ?_
              refine JL_op rfl (op_read rfl rfl (r_assign (v := .bool false) rfl) ?_)
              refine JL_nil ?_
              refine J_then ?_
              refine J_ret ?_
              refine J_in_ret ?_
              refine J_then_ret ?_
              refine J_select (PV' := [.hole (fun x => .elem O11 (elemAddr v_1 ((x_14.2).toNat * (O11).size)) x) (fun x => .row O11 45 v_1 (Sl.set x_2 x_14.2 x)), .cell (elemAddr v_1 ((x_14.2).toNat * (O11).size)) [.bool x_19.Live, v_24, v_26, v_28], .row (T13).o 29 v_24 x_19.Cells, .row ((tInt .i64)).o 3 v_26 x_19.Readers, .row (tBool).o 4 v_28 x_19.Writer, .cell a_4 [v_5, v_7, v_9, .i Used_11], .row (tBool).o 4 v_5 x_6, .row ((tInt .i64)).o 2 v_7 x_8, .row (T6).o 85 v_9 x_10, .cell c_30 [.bool x_19.Live, v_24, v_26, v_28], .cell c_62 [.i x_58.Block, .i x_58.Number, .i x_58.V.Kind, .i x_58.V.N, .i x_58.V.Block, .i x_58.Readers, .bool x_58.Writer]]) [10, 9, 5, 6, 7, 0, 1, 2, 3, 4, 8] (by decide) rfl ?_
              refine J_put (T := O11) (i := x_14.2) (s := x_2) (s' := x_2) (A := [.row (T13).o 29 v_24 x_19.Cells, .row ((tInt .i64)).o 3 v_26 x_19.Readers, .row (tBool).o 4 v_28 x_19.Writer]) (C := [.cell a_4 [v_5, v_7, v_9, .i Used_11], .row (tBool).o 4 v_5 x_6, .row ((tInt .i64)).o 2 v_7 x_8, .row (T6).o 85 v_9 x_10, .cell c_30 [.bool x_19.Live, v_24, v_26, v_28], .cell c_62 [.i x_58.Block, .i x_58.Number, .i x_58.V.Kind, .i x_58.V.N, .i x_58.V.Block, .i x_58.Readers, .bool x_58.Writer]]) x_19 ((), v_24, v_26, v_28) ⟨trivial, trivial, trivial, trivial⟩ rfl rfl (Sl.set_same hx_20) ?_
              refine J_select (PV' := [.row O11 45 v_1 x_2, .cell a_4 [v_5, v_7, v_9, .i Used_11], .row (tBool).o 4 v_5 x_6, .row ((tInt .i64)).o 2 v_7 x_8, .row (T6).o 85 v_9 x_10]) [0, 1, 2, 3, 4] (by decide) rfl ?_
              refine J_done trivial _ ?_ ⟨rfl, rfl, rfl, rfl⟩
              exact ⟨rfl, trivial⟩
             ·refine J_skip ?_
              refine J_in_normal ?_
              refine J_then ?_
              refine J_region ?_
              refine JL_op rfl (op_read rfl rfl (r_add rfl rfl) ?_)
              refine JL_op rfl (op_read rfl rfl (r_move (v := .i (IntKind.i64.wrap (x_53.2 + 1))) rfl) ?_)
              refine JL_nil ?_
              refine J_select (PV' := [.cell a_4 [v_5, v_7, v_9, .i Used_11], .row (tBool).o 4 v_5 x_6, .row ((tInt .i64)).o 2 v_7 x_8, .row (T6).o 85 v_9 x_10, .cell c_30 [.bool x_19.Live, v_24, v_26, v_28], .row (T13).o 29 v_24 x_19.Cells, .row ((tInt .i64)).o 3 v_26 x_19.Readers, .row (tBool).o 4 v_28 x_19.Writer, .hole (fun x => .elem O11 (elemAddr v_1 ((x_14.2).toNat * (O11).size)) x) (fun x => .row O11 45 v_1 (Sl.set x_2 x_14.2 x)), .cell (elemAddr v_1 ((x_14.2).toNat * (O11).size)) [.bool x_19.Live, v_24, v_26, v_28]]) [0, 1, 2, 3, 4, 5, 6, 7, 10, 9] (by decide) rfl ?_
              refine J_next _ ?_ ⟨rfl, rfl, rfl⟩
              exact ⟨rfl, rfl, rfl, rfl, rfl, rfl, rfl, rfl, trivial⟩
          ·refine J_exit ?_
           refine J_then_exit ?_
           refine J_select (PV' := [.hole (fun x => .elem O11 (elemAddr v_1 ((x_14.2).toNat * (O11).size)) x) (fun x => .row O11 45 v_1 (Sl.set x_2 x_14.2 x)), .cell (elemAddr v_1 ((x_14.2).toNat * (O11).size)) [.bool x_19.Live, v_24, v_26, v_28], .row (T13).o 29 v_24 x_19.Cells, .row ((tInt .i64)).o 3 v_26 x_19.Readers, .row (tBool).o 4 v_28 x_19.Writer, .cell a_4 [v_5, v_7, v_9, .i Used_11], .row (tBool).o 4 v_5 x_6, .row ((tInt .i64)).o 2 v_7 x_8, .row (T6).o 85 v_9 x_10, .cell c_30 [.bool x_19.Live, v_24, v_26, v_28]]) [8, 9, 5, 6, 7, 0, 1, 2, 3, 4] (by decide) rfl ?_
           refine J_put (T := O11) (i := x_14.2) (s := x_2) (s' := x_2) (A := [.row (T13).o 29 v_24 x_19.Cells, .row ((tInt .i64)).o 3 v_26 x_19.Readers, .row (tBool).o 4 v_28 x_19.Writer]) (C := [.cell a_4 [v_5, v_7, v_9, .i Used_11], .row (tBool).o 4 v_5 x_6, .row ((tInt .i64)).o 2 v_7 x_8, .row (T6).o 85 v_9 x_10, .cell c_30 [.bool x_19.Live, v_24, v_26, v_28]]) x_19 ((), v_24, v_26, v_28) ⟨trivial, trivial, trivial, trivial⟩ rfl rfl (Sl.set_same hx_20) ?_
           refine J_select (PV' := [.cell a_4 [v_5, v_7, v_9, .i Used_11], .row (tBool).o 4 v_5 x_6, .row ((tInt .i64)).o 2 v_7 x_8, .row (T6).o 85 v_9 x_10, .row O11 45 v_1 x_2]) [1, 2, 3, 4, 0] (by decide) rfl ?_
           refine J_done trivial _ ?_ ⟨rfl, rfl, rfl, rfl⟩
           exact ⟨rfl, rfl, rfl, rfl, rfl, trivial⟩
         ·rintro (y_99 | y_103) e L b τ PV ht
          ·obtain ⟨rfl, ht⟩ := ht
           revert ht; revert PV; revert τ; revert b; revert L
           rintro _ b s_102 _ ⟨rfl, rfl, rfl⟩
           refine J_in_exit ?_
           refine J_in_normal ?_
           refine J_then ?_
           refine J_region ?_
           refine JL_op rfl (op_read rfl rfl (r_add rfl rfl) ?_)
           refine JL_op rfl (op_read rfl rfl (r_move (v := .i (IntKind.i64.wrap (x_14.2 + 1))) rfl) ?_)
           refine JL_nil ?_
           refine J_next _ ?_ ⟨rfl, rfl, rfl⟩
           exact ⟨rfl, rfl, rfl, rfl, rfl, trivial⟩
          ·obtain ⟨rfl, ht⟩ := ht
           revert ht; revert PV; revert τ; revert b; revert L
           rintro _ b s_106 _ ⟨rfl, rfl, rfl⟩
           refine J_in_ret ?_
           refine J_in_ret ?_
           refine J_then_ret ?_
           refine J_done trivial _ ?_ ⟨rfl, rfl, rfl, rfl⟩
           exact ⟨rfl, trivial⟩
    ·refine J_exit ?_
     refine J_then_exit ?_
     refine J_select (PV' := [.row O11 45 v_1 x_2, .cell a_4 [v_5, v_7, v_9, .i Used_11], .row (tBool).o 4 v_5 x_6, .row ((tInt .i64)).o 2 v_7 x_8, .row (T6).o 85 v_9 x_10]) [4, 0, 1, 2, 3] (by decide) rfl ?_
     refine J_done trivial _ ?_ ⟨rfl, rfl, rfl, rfl⟩
     exact trivial
   ·rintro (y_108 | y_112) e L b τ PV ht
    ·obtain ⟨rfl, ht⟩ := ht
     revert ht; revert PV; revert τ; revert b; revert L
     rintro _ b s_111 _ ⟨rfl, rfl, rfl⟩
     refine J_in_exit ?_
     refine J_then ?_
     refine J_seq ?_
     refine J_region ?_
     refine JL_op rfl (op_read rfl rfl (r_assign (v := .bool true) rfl) ?_)
     refine JL_nil ?_
     refine J_then ?_
     refine J_ret ?_
     exact J_returnV1 (PV' := [.row O11 45 v_1 x_2, .cell a_4 [v_5, v_7, v_9, .i Used_11], .row (tBool).o 4 v_5 x_6, .row ((tInt .i64)).o 2 v_7 x_8, .row (T6).o 85 v_9 x_10]) rfl rv_tmp [0, 1, 2, 3, 4] (by decide) rfl ⟨rfl, rfl, rfl⟩
    ·obtain ⟨rfl, ht⟩ := ht
     revert ht; revert PV; revert τ; revert b; revert L
     rintro _ b s_115 _ ⟨rfl, rfl, rfl⟩
     refine J_in_ret ?_
     refine J_then_ret ?_
     exact J_returnV1 (PV' := [.row O11 45 v_1 x_2, .cell a_4 [v_5, v_7, v_9, .i Used_11], .row (tBool).o 4 v_5 x_6, .row ((tInt .i64)).o 2 v_7 x_8, .row (T6).o 85 v_9 x_10]) rfl rv_tmp [0, 1, 2, 3, 4] (by decide) rfl ⟨rfl, rfl, rfl⟩
end Go.Px
