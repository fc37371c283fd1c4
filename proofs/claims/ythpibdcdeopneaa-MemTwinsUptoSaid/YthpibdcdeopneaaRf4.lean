/- The calls do what the models say, part 4. -/
import Derived.Test.YthpibdcdeopneaaMd
import Derived.Test.YthpibdcdeopneaaRf1
import Derived.Test.YthpibdcdeopneaaRf2
namespace Go.Px
open Go.Proofs
set_option linter.unusedVariables false
def mem_Memory_whole_post (σ0 : FS) (a_1 : Addr) (v_2 : Value) (x_3 : Sl Gmem_Block) (used_4 : Int) (v_5 : Value) (p_6 : Gmem_Value) (r : (Option Int) × Int) (σ : FS) (PV : List Priv) (v : Value) : Prop :=
 σ0 = σ ∧ .tuple #[peOpt v_2 (O11).size r.1, .i r.2] = v ∧ PV = [.row O11 45 v_2 x_3, .cell a_1 [v_2, .i used_4]]
set_option maxRecDepth 100000 in
theorem mem_Memory_whole_ref (s : Start) (σ : FS) (a_1 : Addr) (v_2 : Value) (x_3 : Sl Gmem_Block) (used_4 : Int) (v_5 : Value) (p_6 : Gmem_Value) (h_7 : T13.vrel σ v_5 p_6) (hs : Pre s σ [.cell a_1 [v_2, .i used_4], .row O11 45 v_2 x_3]) (r : (Option Int) × Int) (hr : mem_Memory_whole x_3 used_4 p_6 = some r) : Does Try.prog 29 [.pointer (some (Addr.add a_1 0)), v_5] s σ (mem_Memory_whole_post σ a_1 v_2 x_3 used_4 v_5 p_6 r) := by
 unfold mem_Memory_whole at hr
 obtain rfl := T13_v.1 h_7
 refine does_of_J Try.func29 rfl (n := 46) rfl rfl hs hr ?_
 refine J_seq ?_
 refine J_region ?_
 refine JL_op rfl (op_box (cs := [.i p_6.Kind, .i p_6.N, .i p_6.Block]) rfl rfl ?_)
 intro c_8
 refine JL_op rfl (op_read rfl rfl (r_assign (v := .pointer none) rfl) ?_)
 refine JL_op rfl (op_read rfl rfl (r_assign (v := .i 0) rfl) ?_)
 refine JL_nil ?_
 refine J_then ?_
 refine J_seq ?_
 refine J_region ?_
 refine JL_op rfl (op_read rfl rfl (r_move (v := .pointer (some (Addr.add a_1 0))) rfl) ?_)
 refine JL_op rfl (op_read rfl rfl (r_load_priv (a := c_8) (off := 0) (cs' := [.i p_6.Kind, .i p_6.N, .i p_6.Block]) (v := .agg #[.i p_6.Kind, .i p_6.N, .i p_6.Block]) 0 pu29 pi29 rfl rfl rfl rfl (by decide) rfl) ?_)
 refine J_select (PV' := [.cell a_1 [v_2, .i used_4], .row O11 45 v_2 x_3, .cell c_8 [.i p_6.Kind, .i p_6.N, .i p_6.Block]]) [1, 2, 0] (by decide) rfl ?_
 refine JL_op rfl (op_call (f := 24) (fn := Try.f24) (args := [.pointer (some (Addr.add a_1 0)), .agg #[.i p_6.Kind, .i p_6.N, .i p_6.Block]]) (post := mem_Memory_cell_post σ a_1 v_2 x_3 used_4 (.agg #[.i p_6.Kind, .i p_6.N, .i p_6.Block]) p_6) [.cell a_1 [v_2, .i used_4], .row O11 45 v_2 x_3] [.cell c_8 [.i p_6.Kind, .i p_6.N, .i p_6.Block]] rfl rfl rfl Try.func24 pn24 rfl rfl (fun y st hy hpre => mem_Memory_cell_ref st σ a_1 v_2 x_3 used_4 (.agg #[.i p_6.Kind, .i p_6.N, .i p_6.Block]) p_6 (T13_v.2 rfl) hpre y hy) ?_)
 intro r_10 v_12 s_15 PV_13 hr_11 hle_16 hp_14
 obtain ⟨rfl, rfl, rfl⟩ := hp_14
 refine JL_op rfl (op_read rfl rfl (r_move (v := .tuple #[peOpt v_2 (O11).size r_10.1, .i r_10.2]) rfl) ?_)
 refine JL_op rfl (op_read rfl rfl (r_extract (v := peOpt v_2 (O11).size r_10.1) rfl rfl) ?_)
 refine JL_op rfl (op_read rfl rfl (r_extract (v := .i r_10.2) rfl rfl) ?_)
 refine JL_op rfl (op_read rfl rfl (r_assign (v := peOpt v_2 (O11).size r_10.1) rfl) ?_)
 refine JL_op rfl (op_read rfl rfl (r_assign (v := .i r_10.2) rfl) ?_)
 refine JL_nil ?_
 refine J_then ?_
 refine J_seq ?_
 refine J_block ?_
 refine J_seq ?_
 refine J_region ?_
 refine JL_op rfl (op_read rfl rfl (r_move (v := .i r_10.2) rfl) ?_)
 refine JL_op rfl (op_read rfl rfl (r_neq rfl rfl) ?_)
 refine JL_op rfl (op_read rfl rfl (r_assign (v := .bool (decide (r_10.2 ≠ 0))) rfl) ?_)
 refine JL_nil ?_
 refine J_then ?_
 refine J_cond rfl (fun hc_17 => ?_) (fun hc_17 => ?_)
 ·refine J_seq ?_
  refine J_region ?_
  refine JL_op rfl (op_read rfl rfl (r_move (v := .i r_10.2) rfl) ?_)
  refine JL_op rfl (op_read rfl rfl (r_assign (v := .pointer none) rfl) ?_)
  refine JL_op rfl (op_read rfl rfl (r_assign (v := .i r_10.2) rfl) ?_)
  refine JL_nil ?_
  refine J_then ?_
  refine J_ret ?_
  refine J_in_ret ?_
  refine J_then_ret ?_
  exact J_returnV2 (PV' := [.row O11 45 v_2 x_3, .cell a_1 [v_2, .i used_4]]) rfl rv_tmp rv_tmp [0, 1] (by decide) rfl ⟨rfl, rfl, rfl⟩
 ·refine J_seq ?_
  refine J_region ?_
  refine JL_op rfl (op_read rfl rfl (r_move (v := peOpt v_2 (O11).size r_10.1) rfl) ?_)
  refine JL_op rfl (op_read rfl rfl (r_fieldAddr (r := Addr.add c_8 1) pu29 (f := Try.pf29.getD 1 default) rfl pi2 (by decide) rfl (Addr.add_add _ _ _)) ?_)
  refine JL_op rfl (op_read rfl rfl (r_load_priv (a := c_8) (off := 1) (cs' := [.i p_6.N]) (v := .i p_6.N) 2 pu2 pi2 rfl rfl rfl rfl (by decide) rfl) ?_)
  refine J_bind fun i_18 hi_19 => ?_
  refine J_prune [(0, .pointer (some (Addr.add a_1 0))), (1, .agg #[.i p_6.Kind, .i p_6.N, .i p_6.Block]), (3, .pointer (some (Addr.add c_8 0))), (4, .pointer none), (5, .i 0), (6, .pointer (some (elemAddr v_2 ((i_18).toNat * (O11).size + 0)))), (7, .i r_10.2), (8, .tuple #[peOpt v_2 (O11).size r_10.1, .i r_10.2]), (9, .pointer (some (Addr.add a_1 0))), (10, .agg #[.i p_6.Kind, .i p_6.N, .i p_6.Block]), (11, .tuple #[peOpt v_2 (O11).size r_10.1, .i r_10.2]), (12, .pointer (some (elemAddr v_2 ((i_18).toNat * (O11).size + 0)))), (13, .i r_10.2), (14, .bool (decide (r_10.2 ≠ 0))), (15, .i r_10.2), (16, .bool (decide (r_10.2 ≠ 0))), (19, .pointer (some (elemAddr v_2 ((i_18).toNat * (O11).size + 0)))), (20, .pointer (some (Addr.add c_8 1))), (21, .i p_6.N)] ⟨rfl, rfl, rfl, rfl, rfl, (by show peOpt _ _ _ = _; rw [hi_19]; rfl), rfl, rfl, rfl, rfl, rfl, (by show peOpt _ _ _ = _; rw [hi_19]; rfl), rfl, rfl, rfl, rfl, (by show peOpt _ _ _ = _; rw [hi_19]; rfl), rfl, rfl, trivial⟩ fun b => ?_
  refine J_bind fun x_20 hx_21 => ?_
  refine J_take (T := O11) (i := i_18) hx_21 fun u_23 hu_22 => ?_
  obtain ⟨_, v_25, v_27, v_29⟩ := u_23
  change J _ _ _ _ _ _ _ _ [.hole (fun x => .elem O11 (elemAddr v_2 ((i_18).toNat * (O11).size)) x) (fun x => .row O11 45 v_2 (Sl.set x_3 i_18 x)), .cell (elemAddr v_2 ((i_18).toNat * (O11).size)) [.bool x_20.Live, v_25, v_27, v_29], .row (T13).o 29 v_25 x_20.Cells, .row ((tInt .i64)).o 3 v_27 x_20.Readers, .row (tBool).o 4 v_29 x_20.Writer, .cell a_1 [v_2, .i used_4], .cell c_8 [.i p_6.Kind, .i p_6.N, .i p_6.Block]]
  refine J_select (PV' := [.cell (elemAddr v_2 ((i_18).toNat * (O11).size)) [.bool x_20.Live, v_25, v_27, v_29], .row (T13).o 29 v_25 x_20.Cells, .row ((tInt .i64)).o 3 v_27 x_20.Readers, .row (tBool).o 4 v_29 x_20.Writer, .hole (fun x => .elem O11 (elemAddr v_2 ((i_18).toNat * (O11).size)) x) (fun x => .row O11 45 v_2 (Sl.set x_3 i_18 x)), .cell a_1 [v_2, .i used_4], .cell c_8 [.i p_6.Kind, .i p_6.N, .i p_6.Block]]) [1, 2, 3, 4, 0, 5, 6] (by decide) rfl ?_
  refine JL_op rfl (op_call (f := 23) (fn := Try.f23) (args := [.pointer (some (elemAddr v_2 ((i_18).toNat * (O11).size + 0))), .i p_6.N]) (post := mem_Block_busy_post σ (elemAddr v_2 ((i_18).toNat * (O11).size)) x_20.Live v_25 x_20.Cells v_27 x_20.Readers v_29 x_20.Writer p_6.N) [.cell (elemAddr v_2 ((i_18).toNat * (O11).size)) [.bool x_20.Live, v_25, v_27, v_29], .row (T13).o 29 v_25 x_20.Cells, .row ((tInt .i64)).o 3 v_27 x_20.Readers, .row (tBool).o 4 v_29 x_20.Writer] [.hole (fun x => .elem O11 (elemAddr v_2 ((i_18).toNat * (O11).size)) x) (fun x => .row O11 45 v_2 (Sl.set x_3 i_18 x)), .cell a_1 [v_2, .i used_4], .cell c_8 [.i p_6.Kind, .i p_6.N, .i p_6.Block]] rfl rfl rfl Try.func23 pn23 rfl rfl (fun y st hy hpre => mem_Block_busy_ref st σ (elemAddr v_2 ((i_18).toNat * (O11).size)) x_20.Live v_25 x_20.Cells v_27 x_20.Readers v_29 x_20.Writer p_6.N hpre y hy) ?_)
  intro r_31 v_33 s_36 PV_34 hr_32 hle_37 hp_35
  obtain ⟨rfl, rfl, rfl⟩ := hp_35
  refine JL_op rfl (op_read rfl rfl (r_assign (v := .bool r_31) rfl) ?_)
  refine JL_nil ?_
  refine J_then ?_
  refine J_cond rfl (fun hc_38 => ?_) (fun hc_38 => ?_)
  ·refine J_seq ?_
   refine J_region ?_
   refine JL_op rfl (op_read rfl rfl (r_assign (v := .pointer none) rfl) ?_)
   refine JL_op rfl (op_read rfl rfl (r_assign (v := .i 6) rfl) ?_)
   refine JL_nil ?_
   refine J_then ?_
   refine J_ret ?_
   refine J_in_ret ?_
   refine J_then_ret ?_
   refine J_select (PV' := [.hole (fun x => .elem O11 (elemAddr v_2 ((i_18).toNat * (O11).size)) x) (fun x => .row O11 45 v_2 (Sl.set x_3 i_18 x)), .cell (elemAddr v_2 ((i_18).toNat * (O11).size)) [.bool x_20.Live, v_25, v_27, v_29], .row (T13).o 29 v_25 x_20.Cells, .row ((tInt .i64)).o 3 v_27 x_20.Readers, .row (tBool).o 4 v_29 x_20.Writer, .cell a_1 [v_2, .i used_4], .cell c_8 [.i p_6.Kind, .i p_6.N, .i p_6.Block]]) [4, 0, 1, 2, 3, 5, 6] (by decide) rfl ?_
   refine J_put (T := O11) (i := i_18) (s := x_3) (s' := x_3) (A := [.row (T13).o 29 v_25 x_20.Cells, .row ((tInt .i64)).o 3 v_27 x_20.Readers, .row (tBool).o 4 v_29 x_20.Writer]) (C := [.cell a_1 [v_2, .i used_4], .cell c_8 [.i p_6.Kind, .i p_6.N, .i p_6.Block]]) x_20 ((), v_25, v_27, v_29) ⟨trivial, trivial, trivial, trivial⟩ rfl rfl (Sl.set_same hx_21) ?_
   exact J_returnV2 (PV' := [.row O11 45 v_2 x_3, .cell a_1 [v_2, .i used_4]]) rfl rv_tmp rv_tmp [0, 1] (by decide) rfl ⟨rfl, rfl, rfl⟩
  ·refine J_seq ?_
   refine J_select (PV' := [.hole (fun x => .elem O11 (elemAddr v_2 ((i_18).toNat * (O11).size)) x) (fun x => .row O11 45 v_2 (Sl.set x_3 i_18 x)), .cell (elemAddr v_2 ((i_18).toNat * (O11).size)) [.bool x_20.Live, v_25, v_27, v_29], .row (T13).o 29 v_25 x_20.Cells, .row ((tInt .i64)).o 3 v_27 x_20.Readers, .row (tBool).o 4 v_29 x_20.Writer, .cell a_1 [v_2, .i used_4], .cell c_8 [.i p_6.Kind, .i p_6.N, .i p_6.Block]]) [4, 0, 1, 2, 3, 5, 6] (by decide) rfl ?_
   refine J_put (T := O11) (i := i_18) (s := x_3) (s' := x_3) (A := [.row (T13).o 29 v_25 x_20.Cells, .row ((tInt .i64)).o 3 v_27 x_20.Readers, .row (tBool).o 4 v_29 x_20.Writer]) (C := [.cell a_1 [v_2, .i used_4], .cell c_8 [.i p_6.Kind, .i p_6.N, .i p_6.Block]]) x_20 ((), v_25, v_27, v_29) ⟨trivial, trivial, trivial, trivial⟩ rfl rfl (Sl.set_same hx_21) ?_
   refine J_region_any 11 [.row O11 45 v_2 x_3, .cell a_1 [v_2, .i used_4], .cell c_8 [.i p_6.Kind, .i p_6.N, .i p_6.Block]] Try.mixed (by kernel_rfl) fun hns => ?_
   have hS_39 : HeldOK σ [.row O11 45 v_2 x_3, .cell a_1 [v_2, .i used_4], .cell c_8 [.i p_6.Kind, .i p_6.N, .i p_6.Block]] σ [.row O11 45 v_2 x_3, .cell a_1 [v_2, .i used_4], .cell c_8 [.i p_6.Kind, .i p_6.N, .i p_6.Block]] := HeldOK.same [0, 1, 2] (by decide) rfl
   refine JA_takep 0 rfl hns (by kernel_rfl) (by kernel_rfl) rfl (.inr hS_39) rfl rfl rfl (r_move (v := .pointer (some (elemAddr v_2 ((i_18).toNat * (O11).size + 0)))) rfl) ?_
   refine JA_takep 1 rfl hns (by kernel_rfl) (by kernel_rfl) rfl (.inr hS_39) rfl rfl rfl (r_nilCheck (a := (elemAddr v_2 ((i_18).toNat * (O11).size + 0))) rfl) ?_
   refine JA_takep 2 rfl hns (by kernel_rfl) (by kernel_rfl) rfl (.inr hS_39) rfl rfl rfl (r_fieldAddr (r := elemAddr v_2 ((i_18).toNat * (O11).size + 1)) pu45 (f := Try.pf45.getD 1 default) rfl pi43 (by decide) rfl (elemAddr_add _ _ _)) ?_
   refine JA_takep 4 rfl hns (by kernel_rfl) (by kernel_rfl) rfl (.inr hS_39) rfl rfl rfl (r_fieldAddr (r := Addr.add c_8 1) pu29 (f := Try.pf29.getD 1 default) rfl pi2 (by decide) rfl (Addr.add_add _ _ _)) ?_
   refine JA_take 5 rfl hns (by kernel_rfl) (by kernel_rfl) (by kernel_rfl) rfl (by kernel_rfl) hS_39 rfl rfl rfl (r_load_priv (a := c_8) (off := 1) (cs' := [.i p_6.N]) (v := .i p_6.N) 2 pu2 pi2 rfl rfl rfl rfl (by decide) rfl) ?_
   refine J_take (T := O11) (i := i_18) hx_21 fun u_41 hu_40 => ?_
   obtain ⟨_, v_43, v_45, v_47⟩ := u_41
   change J _ _ _ _ _ _ _ _ [.hole (fun x => .elem O11 (elemAddr v_2 ((i_18).toNat * (O11).size)) x) (fun x => .row O11 45 v_2 (Sl.set x_3 i_18 x)), .cell (elemAddr v_2 ((i_18).toNat * (O11).size)) [.bool x_20.Live, v_43, v_45, v_47], .row (T13).o 29 v_43 x_20.Cells, .row ((tInt .i64)).o 3 v_45 x_20.Readers, .row (tBool).o 4 v_47 x_20.Writer, .cell a_1 [v_2, .i used_4], .cell c_8 [.i p_6.Kind, .i p_6.N, .i p_6.Block]]
   have hS_49 : HeldOK σ [.row O11 45 v_2 x_3, .cell a_1 [v_2, .i used_4], .cell c_8 [.i p_6.Kind, .i p_6.N, .i p_6.Block]] σ [.hole (fun x => .elem O11 (elemAddr v_2 ((i_18).toNat * (O11).size)) x) (fun x => .row O11 45 v_2 (Sl.set x_3 i_18 x)), .cell (elemAddr v_2 ((i_18).toNat * (O11).size)) [.bool x_20.Live, v_43, v_45, v_47], .row (T13).o 29 v_43 x_20.Cells, .row ((tInt .i64)).o 3 v_45 x_20.Readers, .row (tBool).o 4 v_47 x_20.Writer, .cell a_1 [v_2, .i used_4], .cell c_8 [.i p_6.Kind, .i p_6.N, .i p_6.Block]] := HeldOK.view (PV := [.row O11 45 v_2 x_3, .cell a_1 [v_2, .i used_4], .cell c_8 [.i p_6.Kind, .i p_6.N, .i p_6.Block]]) (HeldOK.same [0, 1, 2] (by decide) rfl) (fun _ k => (take_back (T := O11) (i := i_18) (s := x_3) (e := 45) (v := v_2) (q := x_20) (C := [.cell a_1 [v_2, .i used_4], .cell c_8 [.i p_6.Kind, .i p_6.N, .i p_6.Block]]) ((), v_43, v_45, v_47) ⟨trivial, trivial, trivial, trivial⟩ hx_21 (Sep.select (PV' := [.hole (fun x => .elem O11 (elemAddr v_2 ((i_18).toNat * (O11).size)) x) (fun x => .row O11 45 v_2 (Sl.set x_3 i_18 x)), .cell (elemAddr v_2 ((i_18).toNat * (O11).size)) [.bool x_20.Live, v_43, v_45, v_47], .row (T13).o 29 v_43 x_20.Cells, .row ((tInt .i64)).o 3 v_45 x_20.Readers, .row (tBool).o 4 v_47 x_20.Writer, .cell a_1 [v_2, .i used_4], .cell c_8 [.i p_6.Kind, .i p_6.N, .i p_6.Block]]) k [0, 1, 2, 3, 4, 5, 6] (by decide) rfl)))
   refine JA_op (i := 3) (by kernel_rfl) rfl rfl (op_read rfl rfl (r_load_priv (a := (elemAddr v_2 ((i_18).toNat * (O11).size))) (off := 1) (cs' := [v_43]) (v := v_43) 1 pu43 pi43 (pe_add v_2 ((i_18).toNat * (O11).size) 1) rfl rfl rfl (by decide) rfl) ?_)
   have hS_50 : HeldOK σ [.row O11 45 v_2 x_3, .cell a_1 [v_2, .i used_4], .cell c_8 [.i p_6.Kind, .i p_6.N, .i p_6.Block]] σ [.hole (fun x => .elem O11 (elemAddr v_2 ((i_18).toNat * (O11).size)) x) (fun x => .row O11 45 v_2 (Sl.set x_3 i_18 x)), .cell (elemAddr v_2 ((i_18).toNat * (O11).size)) [.bool x_20.Live, v_43, v_45, v_47], .row (T13).o 29 v_43 x_20.Cells, .row ((tInt .i64)).o 3 v_45 x_20.Readers, .row (tBool).o 4 v_47 x_20.Writer, .cell a_1 [v_2, .i used_4], .cell c_8 [.i p_6.Kind, .i p_6.N, .i p_6.Block]] := HeldOK.view (PV := [.row O11 45 v_2 x_3, .cell a_1 [v_2, .i used_4], .cell c_8 [.i p_6.Kind, .i p_6.N, .i p_6.Block]]) (HeldOK.same [0, 1, 2] (by decide) rfl) (fun _ k => (take_back (T := O11) (i := i_18) (s := x_3) (e := 45) (v := v_2) (q := x_20) (C := [.cell a_1 [v_2, .i used_4], .cell c_8 [.i p_6.Kind, .i p_6.N, .i p_6.Block]]) ((), v_43, v_45, v_47) ⟨trivial, trivial, trivial, trivial⟩ hx_21 (Sep.select (PV' := [.hole (fun x => .elem O11 (elemAddr v_2 ((i_18).toNat * (O11).size)) x) (fun x => .row O11 45 v_2 (Sl.set x_3 i_18 x)), .cell (elemAddr v_2 ((i_18).toNat * (O11).size)) [.bool x_20.Live, v_43, v_45, v_47], .row (T13).o 29 v_43 x_20.Cells, .row ((tInt .i64)).o 3 v_45 x_20.Readers, .row (tBool).o 4 v_47 x_20.Writer, .cell a_1 [v_2, .i used_4], .cell c_8 [.i p_6.Kind, .i p_6.N, .i p_6.Block]]) k [0, 1, 2, 3, 4, 5, 6] (by decide) rfl)))
   refine ⟨.inr hS_50, ?_⟩
   refine J_bind fun x_51 hx_52 => ?_
   refine JA_op (i := 6) (by kernel_rfl) rfl rfl (op_read rfl rfl (r_index_row (v := v_43) (T := (T13).o) (q := x_51) 2 pu43 pi29 rfl rfl rfl rfl hx_52) ?_)
   have hS_53 : HeldOK σ [.row O11 45 v_2 x_3, .cell a_1 [v_2, .i used_4], .cell c_8 [.i p_6.Kind, .i p_6.N, .i p_6.Block]] σ [.hole (fun x => .elem O11 (elemAddr v_2 ((i_18).toNat * (O11).size)) x) (fun x => .row O11 45 v_2 (Sl.set x_3 i_18 x)), .cell (elemAddr v_2 ((i_18).toNat * (O11).size)) [.bool x_20.Live, v_43, v_45, v_47], .row (T13).o 29 v_43 x_20.Cells, .row ((tInt .i64)).o 3 v_45 x_20.Readers, .row (tBool).o 4 v_47 x_20.Writer, .cell a_1 [v_2, .i used_4], .cell c_8 [.i p_6.Kind, .i p_6.N, .i p_6.Block]] := HeldOK.view (PV := [.row O11 45 v_2 x_3, .cell a_1 [v_2, .i used_4], .cell c_8 [.i p_6.Kind, .i p_6.N, .i p_6.Block]]) (HeldOK.same [0, 1, 2] (by decide) rfl) (fun _ k => (take_back (T := O11) (i := i_18) (s := x_3) (e := 45) (v := v_2) (q := x_20) (C := [.cell a_1 [v_2, .i used_4], .cell c_8 [.i p_6.Kind, .i p_6.N, .i p_6.Block]]) ((), v_43, v_45, v_47) ⟨trivial, trivial, trivial, trivial⟩ hx_21 (Sep.select (PV' := [.hole (fun x => .elem O11 (elemAddr v_2 ((i_18).toNat * (O11).size)) x) (fun x => .row O11 45 v_2 (Sl.set x_3 i_18 x)), .cell (elemAddr v_2 ((i_18).toNat * (O11).size)) [.bool x_20.Live, v_43, v_45, v_47], .row (T13).o 29 v_43 x_20.Cells, .row ((tInt .i64)).o 3 v_45 x_20.Readers, .row (tBool).o 4 v_47 x_20.Writer, .cell a_1 [v_2, .i used_4], .cell c_8 [.i p_6.Kind, .i p_6.N, .i p_6.Block]]) k [0, 1, 2, 3, 4, 5, 6] (by decide) rfl)))
   refine ⟨.inr hS_53, ?_⟩
   refine JA_takep 7 rfl hns (by kernel_rfl) (by kernel_rfl) rfl (.inr hS_53) rfl rfl rfl (r_fieldAddr (r := elemAddr v_43 ((p_6.N).toNat * ((T13).o).size + 0)) pu29 (f := Try.pf29.getD 0 default) rfl pi27 (by decide) rfl (elemAddr_add _ _ _)) ?_
   refine JA_op (i := 8) (by kernel_rfl) rfl rfl (op_reads rfl rfl (l_elem_orow (v := v_43) (T := (T13).o) (Tf := (tInt .i64)) (q := x_51) (i := p_6.N) (off := 0) 2 pu27 pi27 rfl rfl rfl rfl hx_52 (OFieldAt.of f_Gmem_Value_Kind) (by decide)) ?_)
   intro v_54 h_55
   obtain rfl := tInt_v.1 h_55
   have hS_56 : HeldOK σ [.row O11 45 v_2 x_3, .cell a_1 [v_2, .i used_4], .cell c_8 [.i p_6.Kind, .i p_6.N, .i p_6.Block]] σ [.hole (fun x => .elem O11 (elemAddr v_2 ((i_18).toNat * (O11).size)) x) (fun x => .row O11 45 v_2 (Sl.set x_3 i_18 x)), .cell (elemAddr v_2 ((i_18).toNat * (O11).size)) [.bool x_20.Live, v_43, v_45, v_47], .row (T13).o 29 v_43 x_20.Cells, .row ((tInt .i64)).o 3 v_45 x_20.Readers, .row (tBool).o 4 v_47 x_20.Writer, .cell a_1 [v_2, .i used_4], .cell c_8 [.i p_6.Kind, .i p_6.N, .i p_6.Block]] := HeldOK.view (PV := [.row O11 45 v_2 x_3, .cell a_1 [v_2, .i used_4], .cell c_8 [.i p_6.Kind, .i p_6.N, .i p_6.Block]]) (HeldOK.same [0, 1, 2] (by decide) rfl) (fun _ k => (take_back (T := O11) (i := i_18) (s := x_3) (e := 45) (v := v_2) (q := x_20) (C := [.cell a_1 [v_2, .i used_4], .cell c_8 [.i p_6.Kind, .i p_6.N, .i p_6.Block]]) ((), v_43, v_45, v_47) ⟨trivial, trivial, trivial, trivial⟩ hx_21 (Sep.select (PV' := [.hole (fun x => .elem O11 (elemAddr v_2 ((i_18).toNat * (O11).size)) x) (fun x => .row O11 45 v_2 (Sl.set x_3 i_18 x)), .cell (elemAddr v_2 ((i_18).toNat * (O11).size)) [.bool x_20.Live, v_43, v_45, v_47], .row (T13).o 29 v_43 x_20.Cells, .row ((tInt .i64)).o 3 v_45 x_20.Readers, .row (tBool).o 4 v_47 x_20.Writer, .cell a_1 [v_2, .i used_4], .cell c_8 [.i p_6.Kind, .i p_6.N, .i p_6.Block]]) k [0, 1, 2, 3, 4, 5, 6] (by decide) rfl)))
   refine ⟨.inr hS_56, ?_⟩
   refine JA_takep 9 rfl hns (by kernel_rfl) (by kernel_rfl) rfl (.inr hS_56) rfl rfl rfl (r_eql rfl rfl) ?_
   refine JA_takep 10 rfl hns (by kernel_rfl) (by kernel_rfl) rfl (.inr hS_56) rfl rfl rfl (r_assign (v := .bool (decide (x_51.Kind = 0))) rfl) ?_
   refine JA_done (by kernel_rfl) ?_
   refine J_then ?_
   refine J_cond rfl (fun hc_57 => ?_) (fun hc_57 => ?_)
   ·refine J_seq ?_
    refine J_region ?_
    refine JL_op rfl (op_read rfl rfl (r_assign (v := .pointer none) rfl) ?_)
    refine JL_op rfl (op_read rfl rfl (r_assign (v := .i 4) rfl) ?_)
    refine JL_nil ?_
    refine J_then ?_
    refine J_ret ?_
    refine J_in_ret ?_
    refine J_then_ret ?_
    refine J_put (T := O11) (i := i_18) (s := x_3) (s' := x_3) (A := [.row (T13).o 29 v_43 x_20.Cells, .row ((tInt .i64)).o 3 v_45 x_20.Readers, .row (tBool).o 4 v_47 x_20.Writer]) (C := [.cell a_1 [v_2, .i used_4], .cell c_8 [.i p_6.Kind, .i p_6.N, .i p_6.Block]]) x_20 ((), v_43, v_45, v_47) ⟨trivial, trivial, trivial, trivial⟩ rfl rfl (Sl.set_same hx_21) ?_
    exact J_returnV2 (PV' := [.row O11 45 v_2 x_3, .cell a_1 [v_2, .i used_4]]) rfl rv_tmp rv_tmp [0, 1] (by decide) rfl ⟨rfl, rfl, rfl⟩
   ·refine J_seq ?_
    refine J_put (T := O11) (i := i_18) (s := x_3) (s' := x_3) (A := [.row (T13).o 29 v_43 x_20.Cells, .row ((tInt .i64)).o 3 v_45 x_20.Readers, .row (tBool).o 4 v_47 x_20.Writer]) (C := [.cell a_1 [v_2, .i used_4], .cell c_8 [.i p_6.Kind, .i p_6.N, .i p_6.Block]]) x_20 ((), v_43, v_45, v_47) ⟨trivial, trivial, trivial, trivial⟩ rfl rfl (Sl.set_same hx_21) ?_
    refine J_region_any 11 [.row O11 45 v_2 x_3, .cell a_1 [v_2, .i used_4], .cell c_8 [.i p_6.Kind, .i p_6.N, .i p_6.Block]] Try.mixed (by kernel_rfl) fun hns => ?_
    have hS_58 : HeldOK σ [.row O11 45 v_2 x_3, .cell a_1 [v_2, .i used_4], .cell c_8 [.i p_6.Kind, .i p_6.N, .i p_6.Block]] σ [.row O11 45 v_2 x_3, .cell a_1 [v_2, .i used_4], .cell c_8 [.i p_6.Kind, .i p_6.N, .i p_6.Block]] := HeldOK.same [0, 1, 2] (by decide) rfl
    refine JA_takep 0 rfl hns (by kernel_rfl) (by kernel_rfl) rfl (.inr hS_58) rfl rfl rfl (r_move (v := .pointer (some (elemAddr v_2 ((i_18).toNat * (O11).size + 0)))) rfl) ?_
    refine JA_takep 1 rfl hns (by kernel_rfl) (by kernel_rfl) rfl (.inr hS_58) rfl rfl rfl (r_nilCheck (a := (elemAddr v_2 ((i_18).toNat * (O11).size + 0))) rfl) ?_
    refine JA_takep 2 rfl hns (by kernel_rfl) (by kernel_rfl) rfl (.inr hS_58) rfl rfl rfl (r_fieldAddr (r := elemAddr v_2 ((i_18).toNat * (O11).size + 1)) pu45 (f := Try.pf45.getD 1 default) rfl pi43 (by decide) rfl (elemAddr_add _ _ _)) ?_
    refine JA_takep 4 rfl hns (by kernel_rfl) (by kernel_rfl) rfl (.inr hS_58) rfl rfl rfl (r_fieldAddr (r := Addr.add c_8 1) pu29 (f := Try.pf29.getD 1 default) rfl pi2 (by decide) rfl (Addr.add_add _ _ _)) ?_
    refine JA_take 5 rfl hns (by kernel_rfl) (by kernel_rfl) (by kernel_rfl) rfl (by kernel_rfl) hS_58 rfl rfl rfl (r_load_priv (a := c_8) (off := 1) (cs' := [.i p_6.N]) (v := .i p_6.N) 2 pu2 pi2 rfl rfl rfl rfl (by decide) rfl) ?_
    refine J_take (T := O11) (i := i_18) hx_21 fun u_60 hu_59 => ?_
    obtain ⟨_, v_62, v_64, v_66⟩ := u_60
    change J _ _ _ _ _ _ _ _ [.hole (fun x => .elem O11 (elemAddr v_2 ((i_18).toNat * (O11).size)) x) (fun x => .row O11 45 v_2 (Sl.set x_3 i_18 x)), .cell (elemAddr v_2 ((i_18).toNat * (O11).size)) [.bool x_20.Live, v_62, v_64, v_66], .row (T13).o 29 v_62 x_20.Cells, .row ((tInt .i64)).o 3 v_64 x_20.Readers, .row (tBool).o 4 v_66 x_20.Writer, .cell a_1 [v_2, .i used_4], .cell c_8 [.i p_6.Kind, .i p_6.N, .i p_6.Block]]
    have hS_68 : HeldOK σ [.row O11 45 v_2 x_3, .cell a_1 [v_2, .i used_4], .cell c_8 [.i p_6.Kind, .i p_6.N, .i p_6.Block]] σ [.hole (fun x => .elem O11 (elemAddr v_2 ((i_18).toNat * (O11).size)) x) (fun x => .row O11 45 v_2 (Sl.set x_3 i_18 x)), .cell (elemAddr v_2 ((i_18).toNat * (O11).size)) [.bool x_20.Live, v_62, v_64, v_66], .row (T13).o 29 v_62 x_20.Cells, .row ((tInt .i64)).o 3 v_64 x_20.Readers, .row (tBool).o 4 v_66 x_20.Writer, .cell a_1 [v_2, .i used_4], .cell c_8 [.i p_6.Kind, .i p_6.N, .i p_6.Block]] := HeldOK.view (PV := [.row O11 45 v_2 x_3, .cell a_1 [v_2, .i used_4], .cell c_8 [.i p_6.Kind, .i p_6.N, .i p_6.Block]]) (HeldOK.same [0, 1, 2] (by decide) rfl) (fun _ k => (take_back (T := O11) (i := i_18) (s := x_3) (e := 45) (v := v_2) (q := x_20) (C := [.cell a_1 [v_2, .i used_4], .cell c_8 [.i p_6.Kind, .i p_6.N, .i p_6.Block]]) ((), v_62, v_64, v_66) ⟨trivial, trivial, trivial, trivial⟩ hx_21 (Sep.select (PV' := [.hole (fun x => .elem O11 (elemAddr v_2 ((i_18).toNat * (O11).size)) x) (fun x => .row O11 45 v_2 (Sl.set x_3 i_18 x)), .cell (elemAddr v_2 ((i_18).toNat * (O11).size)) [.bool x_20.Live, v_62, v_64, v_66], .row (T13).o 29 v_62 x_20.Cells, .row ((tInt .i64)).o 3 v_64 x_20.Readers, .row (tBool).o 4 v_66 x_20.Writer, .cell a_1 [v_2, .i used_4], .cell c_8 [.i p_6.Kind, .i p_6.N, .i p_6.Block]]) k [0, 1, 2, 3, 4, 5, 6] (by decide) rfl)))
    refine JA_op (i := 3) (by kernel_rfl) rfl rfl (op_read rfl rfl (r_load_priv (a := (elemAddr v_2 ((i_18).toNat * (O11).size))) (off := 1) (cs' := [v_62]) (v := v_62) 1 pu43 pi43 (pe_add v_2 ((i_18).toNat * (O11).size) 1) rfl rfl rfl (by decide) rfl) ?_)
    have hS_69 : HeldOK σ [.row O11 45 v_2 x_3, .cell a_1 [v_2, .i used_4], .cell c_8 [.i p_6.Kind, .i p_6.N, .i p_6.Block]] σ [.hole (fun x => .elem O11 (elemAddr v_2 ((i_18).toNat * (O11).size)) x) (fun x => .row O11 45 v_2 (Sl.set x_3 i_18 x)), .cell (elemAddr v_2 ((i_18).toNat * (O11).size)) [.bool x_20.Live, v_62, v_64, v_66], .row (T13).o 29 v_62 x_20.Cells, .row ((tInt .i64)).o 3 v_64 x_20.Readers, .row (tBool).o 4 v_66 x_20.Writer, .cell a_1 [v_2, .i used_4], .cell c_8 [.i p_6.Kind, .i p_6.N, .i p_6.Block]] := HeldOK.view (PV := [.row O11 45 v_2 x_3, .cell a_1 [v_2, .i used_4], .cell c_8 [.i p_6.Kind, .i p_6.N, .i p_6.Block]]) (HeldOK.same [0, 1, 2] (by decide) rfl) (fun _ k => (take_back (T := O11) (i := i_18) (s := x_3) (e := 45) (v := v_2) (q := x_20) (C := [.cell a_1 [v_2, .i used_4], .cell c_8 [.i p_6.Kind, .i p_6.N, .i p_6.Block]]) ((), v_62, v_64, v_66) ⟨trivial, trivial, trivial, trivial⟩ hx_21 (Sep.select (PV' := [.hole (fun x => .elem O11 (elemAddr v_2 ((i_18).toNat * (O11).size)) x) (fun x => .row O11 45 v_2 (Sl.set x_3 i_18 x)), .cell (elemAddr v_2 ((i_18).toNat * (O11).size)) [.bool x_20.Live, v_62, v_64, v_66], .row (T13).o 29 v_62 x_20.Cells, .row ((tInt .i64)).o 3 v_64 x_20.Readers, .row (tBool).o 4 v_66 x_20.Writer, .cell a_1 [v_2, .i used_4], .cell c_8 [.i p_6.Kind, .i p_6.N, .i p_6.Block]]) k [0, 1, 2, 3, 4, 5, 6] (by decide) rfl)))
    refine ⟨.inr hS_69, ?_⟩
    refine JA_op (i := 6) (by kernel_rfl) rfl rfl (op_read rfl rfl (r_index_row (v := v_62) (T := (T13).o) (q := x_51) 2 pu43 pi29 rfl rfl rfl rfl hx_52) ?_)
    have hS_70 : HeldOK σ [.row O11 45 v_2 x_3, .cell a_1 [v_2, .i used_4], .cell c_8 [.i p_6.Kind, .i p_6.N, .i p_6.Block]] σ [.hole (fun x => .elem O11 (elemAddr v_2 ((i_18).toNat * (O11).size)) x) (fun x => .row O11 45 v_2 (Sl.set x_3 i_18 x)), .cell (elemAddr v_2 ((i_18).toNat * (O11).size)) [.bool x_20.Live, v_62, v_64, v_66], .row (T13).o 29 v_62 x_20.Cells, .row ((tInt .i64)).o 3 v_64 x_20.Readers, .row (tBool).o 4 v_66 x_20.Writer, .cell a_1 [v_2, .i used_4], .cell c_8 [.i p_6.Kind, .i p_6.N, .i p_6.Block]] := HeldOK.view (PV := [.row O11 45 v_2 x_3, .cell a_1 [v_2, .i used_4], .cell c_8 [.i p_6.Kind, .i p_6.N, .i p_6.Block]]) (HeldOK.same [0, 1, 2] (by decide) rfl) (fun _ k => (take_back (T := O11) (i := i_18) (s := x_3) (e := 45) (v := v_2) (q := x_20) (C := [.cell a_1 [v_2, .i used_4], .cell c_8 [.i p_6.Kind, .i p_6.N, .i p_6.Block]]) ((), v_62, v_64, v_66) ⟨trivial, trivial, trivial, trivial⟩ hx_21 (Sep.select (PV' := [.hole (fun x => .elem O11 (elemAddr v_2 ((i_18).toNat * (O11).size)) x) (fun x => .row O11 45 v_2 (Sl.set x_3 i_18 x)), .cell (elemAddr v_2 ((i_18).toNat * (O11).size)) [.bool x_20.Live, v_62, v_64, v_66], .row (T13).o 29 v_62 x_20.Cells, .row ((tInt .i64)).o 3 v_64 x_20.Readers, .row (tBool).o 4 v_66 x_20.Writer, .cell a_1 [v_2, .i used_4], .cell c_8 [.i p_6.Kind, .i p_6.N, .i p_6.Block]]) k [0, 1, 2, 3, 4, 5, 6] (by decide) rfl)))
    refine ⟨.inr hS_70, ?_⟩
    refine JA_takep 7 rfl hns (by kernel_rfl) (by kernel_rfl) rfl (.inr hS_70) rfl rfl rfl (r_fieldAddr (r := elemAddr v_62 ((p_6.N).toNat * ((T13).o).size + 0)) pu29 (f := Try.pf29.getD 0 default) rfl pi27 (by decide) rfl (elemAddr_add _ _ _)) ?_
    refine JA_op (i := 8) (by kernel_rfl) rfl rfl (op_reads rfl rfl (l_elem_orow (v := v_62) (T := (T13).o) (Tf := (tInt .i64)) (q := x_51) (i := p_6.N) (off := 0) 2 pu27 pi27 rfl rfl rfl rfl hx_52 (OFieldAt.of f_Gmem_Value_Kind) (by decide)) ?_)
    intro v_71 h_72
    obtain rfl := tInt_v.1 h_72
    have hS_73 : HeldOK σ [.row O11 45 v_2 x_3, .cell a_1 [v_2, .i used_4], .cell c_8 [.i p_6.Kind, .i p_6.N, .i p_6.Block]] σ [.hole (fun x => .elem O11 (elemAddr v_2 ((i_18).toNat * (O11).size)) x) (fun x => .row O11 45 v_2 (Sl.set x_3 i_18 x)), .cell (elemAddr v_2 ((i_18).toNat * (O11).size)) [.bool x_20.Live, v_62, v_64, v_66], .row (T13).o 29 v_62 x_20.Cells, .row ((tInt .i64)).o 3 v_64 x_20.Readers, .row (tBool).o 4 v_66 x_20.Writer, .cell a_1 [v_2, .i used_4], .cell c_8 [.i p_6.Kind, .i p_6.N, .i p_6.Block]] := HeldOK.view (PV := [.row O11 45 v_2 x_3, .cell a_1 [v_2, .i used_4], .cell c_8 [.i p_6.Kind, .i p_6.N, .i p_6.Block]]) (HeldOK.same [0, 1, 2] (by decide) rfl) (fun _ k => (take_back (T := O11) (i := i_18) (s := x_3) (e := 45) (v := v_2) (q := x_20) (C := [.cell a_1 [v_2, .i used_4], .cell c_8 [.i p_6.Kind, .i p_6.N, .i p_6.Block]]) ((), v_62, v_64, v_66) ⟨trivial, trivial, trivial, trivial⟩ hx_21 (Sep.select (PV' := [.hole (fun x => .elem O11 (elemAddr v_2 ((i_18).toNat * (O11).size)) x) (fun x => .row O11 45 v_2 (Sl.set x_3 i_18 x)), .cell (elemAddr v_2 ((i_18).toNat * (O11).size)) [.bool x_20.Live, v_62, v_64, v_66], .row (T13).o 29 v_62 x_20.Cells, .row ((tInt .i64)).o 3 v_64 x_20.Readers, .row (tBool).o 4 v_66 x_20.Writer, .cell a_1 [v_2, .i used_4], .cell c_8 [.i p_6.Kind, .i p_6.N, .i p_6.Block]]) k [0, 1, 2, 3, 4, 5, 6] (by decide) rfl)))
    refine ⟨.inr hS_73, ?_⟩
    refine JA_takep 9 rfl hns (by kernel_rfl) (by kernel_rfl) rfl (.inr hS_73) rfl rfl rfl (r_neq rfl rfl) ?_
    refine JA_takep 10 rfl hns (by kernel_rfl) (by kernel_rfl) rfl (.inr hS_73) rfl rfl rfl (r_assign (v := .bool (decide (x_51.Kind ≠ 1))) rfl) ?_
    refine JA_done (by kernel_rfl) ?_
    refine J_then ?_
    refine J_cond rfl (fun hc_74 => ?_) (fun hc_74 => ?_)
    ·refine J_seq ?_
     refine J_region ?_
     refine JL_op rfl (op_read rfl rfl (r_assign (v := .pointer none) rfl) ?_)
     refine JL_op rfl (op_read rfl rfl (r_assign (v := .i 1) rfl) ?_)
     refine JL_nil ?_
     refine J_then ?_
     refine J_ret ?_
     refine J_in_ret ?_
     refine J_then_ret ?_
     refine J_put (T := O11) (i := i_18) (s := x_3) (s' := x_3) (A := [.row (T13).o 29 v_62 x_20.Cells, .row ((tInt .i64)).o 3 v_64 x_20.Readers, .row (tBool).o 4 v_66 x_20.Writer]) (C := [.cell a_1 [v_2, .i used_4], .cell c_8 [.i p_6.Kind, .i p_6.N, .i p_6.Block]]) x_20 ((), v_62, v_64, v_66) ⟨trivial, trivial, trivial, trivial⟩ rfl rfl (Sl.set_same hx_21) ?_
     exact J_returnV2 (PV' := [.row O11 45 v_2 x_3, .cell a_1 [v_2, .i used_4]]) rfl rv_tmp rv_tmp [0, 1] (by decide) rfl ⟨rfl, rfl, rfl⟩
    ·refine J_skip ?_
     refine J_in_normal ?_
     refine J_then ?_
     refine J_seq ?_
     refine J_region ?_
     refine JL_op rfl (op_read rfl rfl (r_move (v := .pointer (some (elemAddr v_2 ((i_18).toNat * (O11).size + 0)))) rfl) ?_)
     refine JL_op rfl (op_read rfl rfl (r_assign (v := .pointer (some (elemAddr v_2 ((i_18).toNat * (O11).size + 0)))) rfl) ?_)
     refine JL_op rfl (op_read rfl rfl (r_assign (v := .i 0) rfl) ?_)
     refine JL_nil ?_
     refine J_then ?_
     refine J_ret ?_
     refine J_put (T := O11) (i := i_18) (s := x_3) (s' := x_3) (A := [.row (T13).o 29 v_62 x_20.Cells, .row ((tInt .i64)).o 3 v_64 x_20.Readers, .row (tBool).o 4 v_66 x_20.Writer]) (C := [.cell a_1 [v_2, .i used_4], .cell c_8 [.i p_6.Kind, .i p_6.N, .i p_6.Block]]) x_20 ((), v_62, v_64, v_66) ⟨trivial, trivial, trivial, trivial⟩ rfl rfl (Sl.set_same hx_21) ?_
     exact J_returnV2 (PV' := [.row O11 45 v_2 x_3, .cell a_1 [v_2, .i used_4]]) rfl rv_tmp rv_tmp [0, 1] (by decide) rfl ⟨rfl, rfl, rfl⟩
def mem_Memory_Lock_post (σ0 : FS) (a_1 : Addr) (v_2 : Value) (x_3 : Sl Gmem_Block) (used_4 : Int) (v_5 : Value) (p_6 : Gmem_Value) (r : Bool × Int × (Sl Gmem_Block)) (σ : FS) (PV : List Priv) (v : Value) : Prop :=
 σ0 = σ ∧ .tuple #[.bool r.1, .i r.2.1] = v ∧ PV = [.cell a_1 [v_2, .i used_4], .row O11 45 v_2 r.2.2]
set_option maxRecDepth 100000 in
theorem mem_Memory_Lock_ref (s : Start) (σ : FS) (a_1 : Addr) (v_2 : Value) (x_3 : Sl Gmem_Block) (used_4 : Int) (v_5 : Value) (p_6 : Gmem_Value) (h_7 : T13.vrel σ v_5 p_6) (hs : Pre s σ [.cell a_1 [v_2, .i used_4], .row O11 45 v_2 x_3]) (r : Bool × Int × (Sl Gmem_Block)) (hr : mem_Memory_Lock x_3 used_4 p_6 = some r) : Does Try.prog 18 [.pointer (some (Addr.add a_1 0)), v_5] s σ (mem_Memory_Lock_post σ a_1 v_2 x_3 used_4 v_5 p_6 r) := by
 unfold mem_Memory_Lock at hr
 obtain rfl := T13_v.1 h_7
 refine does_of_J Try.func18 rfl (n := 37) rfl rfl hs hr ?_
 refine J_seq ?_
 refine J_region ?_
 refine JL_op rfl (op_box (cs := [.i p_6.Kind, .i p_6.N, .i p_6.Block]) rfl rfl ?_)
 intro c_8
 refine JL_op rfl (op_read rfl rfl (r_assign (v := .bool false) rfl) ?_)
 refine JL_op rfl (op_read rfl rfl (r_assign (v := .i 0) rfl) ?_)
 refine JL_nil ?_
 refine J_then ?_
 refine J_seq ?_
 refine J_region ?_
 refine JL_op rfl (op_read rfl rfl (r_move (v := .pointer (some (Addr.add a_1 0))) rfl) ?_)
 refine JL_op rfl (op_read rfl rfl (r_load_priv (a := c_8) (off := 0) (cs' := [.i p_6.Kind, .i p_6.N, .i p_6.Block]) (v := .agg #[.i p_6.Kind, .i p_6.N, .i p_6.Block]) 0 pu29 pi29 rfl rfl rfl rfl (by decide) rfl) ?_)
 refine J_select (PV' := [.cell a_1 [v_2, .i used_4], .row O11 45 v_2 x_3, .cell c_8 [.i p_6.Kind, .i p_6.N, .i p_6.Block]]) [1, 2, 0] (by decide) rfl ?_
 refine JL_op rfl (op_call (f := 29) (fn := Try.f29) (args := [.pointer (some (Addr.add a_1 0)), .agg #[.i p_6.Kind, .i p_6.N, .i p_6.Block]]) (post := mem_Memory_whole_post σ a_1 v_2 x_3 used_4 (.agg #[.i p_6.Kind, .i p_6.N, .i p_6.Block]) p_6) [.cell a_1 [v_2, .i used_4], .row O11 45 v_2 x_3] [.cell c_8 [.i p_6.Kind, .i p_6.N, .i p_6.Block]] rfl rfl rfl Try.func29 pn29 rfl rfl (fun y st hy hpre => mem_Memory_whole_ref st σ a_1 v_2 x_3 used_4 (.agg #[.i p_6.Kind, .i p_6.N, .i p_6.Block]) p_6 (T13_v.2 rfl) hpre y hy) ?_)
 intro r_10 v_12 s_15 PV_13 hr_11 hle_16 hp_14
 obtain ⟨rfl, rfl, rfl⟩ := hp_14
 refine JL_op rfl (op_read rfl rfl (r_move (v := .tuple #[peOpt v_2 (O11).size r_10.1, .i r_10.2]) rfl) ?_)
 refine JL_op rfl (op_read rfl rfl (r_extract (v := peOpt v_2 (O11).size r_10.1) rfl rfl) ?_)
 refine JL_op rfl (op_read rfl rfl (r_extract (v := .i r_10.2) rfl rfl) ?_)
 refine JL_op rfl (op_read rfl rfl (r_assign (v := peOpt v_2 (O11).size r_10.1) rfl) ?_)
 refine JL_op rfl (op_read rfl rfl (r_assign (v := .i r_10.2) rfl) ?_)
 refine JL_nil ?_
 refine J_then ?_
 refine J_seq ?_
 refine J_seq ?_
 refine J_region_any 14 [.row O11 45 v_2 x_3, .cell a_1 [v_2, .i used_4], .cell c_8 [.i p_6.Kind, .i p_6.N, .i p_6.Block]] Try.mixed (by kernel_rfl) fun hns => ?_
 have hS_17 : HeldOK σ [.row O11 45 v_2 x_3, .cell a_1 [v_2, .i used_4], .cell c_8 [.i p_6.Kind, .i p_6.N, .i p_6.Block]] σ [.row O11 45 v_2 x_3, .cell a_1 [v_2, .i used_4], .cell c_8 [.i p_6.Kind, .i p_6.N, .i p_6.Block]] := HeldOK.same [0, 1, 2] (by decide) rfl
 refine JA_takep 0 rfl hns (by kernel_rfl) (by kernel_rfl) rfl (.inr hS_17) rfl rfl rfl (r_move (v := .i r_10.2) rfl) ?_
 refine JA_takep 1 rfl hns (by kernel_rfl) (by kernel_rfl) rfl (.inr hS_17) rfl rfl rfl (r_neq rfl rfl) ?_
 refine JA_takep 2 rfl hns (by kernel_rfl) (by kernel_rfl) rfl (.inr hS_17) rfl rfl rfl (r_move (v := .bool (decide (r_10.2 ≠ 0))) rfl) ?_
 refine J_forkAB (e := (decide (r_10.2 ≠ 0))) 0 #[true, true, true, true, true, true, true, true, true, true, true, true, true, true] (fun (y : Bool) L τ PV => σ = τ ∧ L = [(3, .pointer (some (Addr.add c_8 0))), (6, peOpt v_2 (O11).size r_10.1), (7, .i r_10.2), (27, .bool y)] ∧ PV = [.cell c_8 [.i p_6.Kind, .i p_6.N, .i p_6.Block], .row O11 45 v_2 x_3, .cell a_1 [v_2, .i used_4]]) (fun hc_18 hk => ?_) (fun hc_18 hk => ?_) ?_
 ·refine JA_skip (y := some (decide (r_10.2 ≠ 0))) 3 rfl hns (by kernel_rfl) (by kernel_rfl) rfl (.inr hS_17) rfl rfl (by rw [hc_18]; decide) rfl rfl ?_
  refine JA_skip (y := some (decide (r_10.2 ≠ 0))) 4 rfl hns (by kernel_rfl) (by kernel_rfl) rfl (.inr hS_17) rfl rfl (by rw [hc_18]; decide) rfl rfl ?_
  refine JA_skip (y := some (decide (r_10.2 ≠ 0))) 5 rfl hns (by kernel_rfl) (by kernel_rfl) rfl (.inr hS_17) rfl rfl (by rw [hc_18]; decide) rfl rfl ?_
  refine JA_skip (y := some (decide (r_10.2 ≠ 0))) 6 rfl hns (by kernel_rfl) (by kernel_rfl) rfl (.inr hS_17) rfl rfl (by rw [hc_18]; decide) rfl rfl ?_
  refine JA_skip (y := some (decide (r_10.2 ≠ 0))) 7 rfl hns (by kernel_rfl) (by kernel_rfl) rfl (.inr hS_17) rfl rfl (by rw [hc_18]; decide) rfl rfl ?_
  refine JA_skip (y := some (decide (r_10.2 ≠ 0))) 8 rfl hns (by kernel_rfl) (by kernel_rfl) rfl (.inr hS_17) rfl rfl (by rw [hc_18]; decide) rfl rfl ?_
  refine JA_skip (y := some (decide (r_10.2 ≠ 0))) 9 rfl hns (by kernel_rfl) (by kernel_rfl) rfl (.inr hS_17) rfl rfl (by rw [hc_18]; decide) rfl rfl ?_
  refine JA_skip (y := some (decide (r_10.2 ≠ 0))) 10 rfl hns (by kernel_rfl) (by kernel_rfl) rfl (.inr hS_17) rfl rfl (by rw [hc_18]; decide) rfl rfl ?_
  refine JA_skip (y := some (decide (r_10.2 ≠ 0))) 11 rfl hns (by kernel_rfl) (by kernel_rfl) rfl (.inr hS_17) rfl rfl (by rw [hc_18]; decide) rfl rfl ?_
  refine JA_skip (y := some (decide (r_10.2 ≠ 0))) 12 rfl hns (by kernel_rfl) (by kernel_rfl) rfl (.inr hS_17) rfl rfl (by rw [hc_18]; decide) rfl rfl ?_
  refine JA_takep 13 rfl hns (by kernel_rfl) (by kernel_rfl) rfl (.inr hS_17) rfl rfl rfl (r_pick_t (v := .bool true) rfl hc_18 rfl) ?_
  refine J_select (PV' := [.cell c_8 [.i p_6.Kind, .i p_6.N, .i p_6.Block], .row O11 45 v_2 x_3, .cell a_1 [v_2, .i used_4]]) [2, 0, 1] (by decide) rfl ?_
  refine J_prune _ ?_ fun b => hk true _ b _ _ ⟨rfl, rfl, rfl⟩
  exact ⟨rfl, rfl, rfl, rfl, trivial⟩
 ·refine JA_takepg 3 rfl hns (by kernel_rfl) (by kernel_rfl) rfl (.inr hS_17) rfl rfl hc_18 rfl rfl (r_move (v := peOpt v_2 (O11).size r_10.1) rfl) ?_
  refine J_assoc ?_
  refine J_bind fun i_20 hi_21 => ?_
  refine JA_takepg 4 rfl hns (by kernel_rfl) (by kernel_rfl) rfl (.inr hS_17) rfl rfl hc_18 rfl rfl (r_nilCheck_opt (i := i_20) rfl hi_21) ?_
  refine JA_takepg 5 rfl hns (by kernel_rfl) (by kernel_rfl) rfl (.inr hS_17) rfl rfl hc_18 rfl rfl (r_fieldAddr (r := elemAddr v_2 ((i_20).toNat * (O11).size + 1)) pu45 (f := Try.pf45.getD 1 default) rfl pi43 (by decide) rfl (elemAddr_add _ _ _)) ?_
  refine JA_takepg 7 rfl hns (by kernel_rfl) (by kernel_rfl) rfl (.inr hS_17) rfl rfl hc_18 rfl rfl (r_fieldAddr (r := Addr.add c_8 1) pu29 (f := Try.pf29.getD 1 default) rfl pi2 (by decide) rfl (Addr.add_add _ _ _)) ?_
  refine JA_takeg 8 rfl hns (by kernel_rfl) (by kernel_rfl) (by kernel_rfl) rfl (by kernel_rfl) hS_17 rfl rfl hc_18 rfl rfl (r_load_priv (a := c_8) (off := 1) (cs' := [.i p_6.N]) (v := .i p_6.N) 2 pu2 pi2 rfl rfl rfl rfl (by decide) rfl) ?_
  refine J_assoc ?_
  refine J_bind fun x_22 hx_23 => ?_
  refine J_take (T := O11) (i := i_20) hx_23 fun u_25 hu_24 => ?_
  obtain ⟨_, v_27, v_29, v_31⟩ := u_25
  change J _ _ _ _ _ _ _ _ [.hole (fun x => .elem O11 (elemAddr v_2 ((i_20).toNat * (O11).size)) x) (fun x => .row O11 45 v_2 (Sl.set x_3 i_20 x)), .cell (elemAddr v_2 ((i_20).toNat * (O11).size)) [.bool x_22.Live, v_27, v_29, v_31], .row (T13).o 29 v_27 x_22.Cells, .row ((tInt .i64)).o 3 v_29 x_22.Readers, .row (tBool).o 4 v_31 x_22.Writer, .cell a_1 [v_2, .i used_4], .cell c_8 [.i p_6.Kind, .i p_6.N, .i p_6.Block]]
  have hS_33 : HeldOK σ [.row O11 45 v_2 x_3, .cell a_1 [v_2, .i used_4], .cell c_8 [.i p_6.Kind, .i p_6.N, .i p_6.Block]] σ [.hole (fun x => .elem O11 (elemAddr v_2 ((i_20).toNat * (O11).size)) x) (fun x => .row O11 45 v_2 (Sl.set x_3 i_20 x)), .cell (elemAddr v_2 ((i_20).toNat * (O11).size)) [.bool x_22.Live, v_27, v_29, v_31], .row (T13).o 29 v_27 x_22.Cells, .row ((tInt .i64)).o 3 v_29 x_22.Readers, .row (tBool).o 4 v_31 x_22.Writer, .cell a_1 [v_2, .i used_4], .cell c_8 [.i p_6.Kind, .i p_6.N, .i p_6.Block]] := HeldOK.view (PV := [.row O11 45 v_2 x_3, .cell a_1 [v_2, .i used_4], .cell c_8 [.i p_6.Kind, .i p_6.N, .i p_6.Block]]) (HeldOK.same [0, 1, 2] (by decide) rfl) (fun _ k => (take_back (T := O11) (i := i_20) (s := x_3) (e := 45) (v := v_2) (q := x_22) (C := [.cell a_1 [v_2, .i used_4], .cell c_8 [.i p_6.Kind, .i p_6.N, .i p_6.Block]]) ((), v_27, v_29, v_31) ⟨trivial, trivial, trivial, trivial⟩ hx_23 (Sep.select (PV' := [.hole (fun x => .elem O11 (elemAddr v_2 ((i_20).toNat * (O11).size)) x) (fun x => .row O11 45 v_2 (Sl.set x_3 i_20 x)), .cell (elemAddr v_2 ((i_20).toNat * (O11).size)) [.bool x_22.Live, v_27, v_29, v_31], .row (T13).o 29 v_27 x_22.Cells, .row ((tInt .i64)).o 3 v_29 x_22.Readers, .row (tBool).o 4 v_31 x_22.Writer, .cell a_1 [v_2, .i used_4], .cell c_8 [.i p_6.Kind, .i p_6.N, .i p_6.Block]]) k [0, 1, 2, 3, 4, 5, 6] (by decide) rfl)))
  refine JA_opg (i := 6) (by kernel_rfl) rfl rfl rfl hc_18 (op_read rfl rfl (r_load_priv (a := (elemAddr v_2 ((i_20).toNat * (O11).size))) (off := 1) (cs' := [v_27]) (v := v_27) 1 pu43 pi43 (pe_add v_2 ((i_20).toNat * (O11).size) 1) rfl rfl rfl (by decide) rfl) ?_)
  have hS_34 : HeldOK σ [.row O11 45 v_2 x_3, .cell a_1 [v_2, .i used_4], .cell c_8 [.i p_6.Kind, .i p_6.N, .i p_6.Block]] σ [.hole (fun x => .elem O11 (elemAddr v_2 ((i_20).toNat * (O11).size)) x) (fun x => .row O11 45 v_2 (Sl.set x_3 i_20 x)), .cell (elemAddr v_2 ((i_20).toNat * (O11).size)) [.bool x_22.Live, v_27, v_29, v_31], .row (T13).o 29 v_27 x_22.Cells, .row ((tInt .i64)).o 3 v_29 x_22.Readers, .row (tBool).o 4 v_31 x_22.Writer, .cell a_1 [v_2, .i used_4], .cell c_8 [.i p_6.Kind, .i p_6.N, .i p_6.Block]] := HeldOK.view (PV := [.row O11 45 v_2 x_3, .cell a_1 [v_2, .i used_4], .cell c_8 [.i p_6.Kind, .i p_6.N, .i p_6.Block]]) (HeldOK.same [0, 1, 2] (by decide) rfl) (fun _ k => (take_back (T := O11) (i := i_20) (s := x_3) (e := 45) (v := v_2) (q := x_22) (C := [.cell a_1 [v_2, .i used_4], .cell c_8 [.i p_6.Kind, .i p_6.N, .i p_6.Block]]) ((), v_27, v_29, v_31) ⟨trivial, trivial, trivial, trivial⟩ hx_23 (Sep.select (PV' := [.hole (fun x => .elem O11 (elemAddr v_2 ((i_20).toNat * (O11).size)) x) (fun x => .row O11 45 v_2 (Sl.set x_3 i_20 x)), .cell (elemAddr v_2 ((i_20).toNat * (O11).size)) [.bool x_22.Live, v_27, v_29, v_31], .row (T13).o 29 v_27 x_22.Cells, .row ((tInt .i64)).o 3 v_29 x_22.Readers, .row (tBool).o 4 v_31 x_22.Writer, .cell a_1 [v_2, .i used_4], .cell c_8 [.i p_6.Kind, .i p_6.N, .i p_6.Block]]) k [0, 1, 2, 3, 4, 5, 6] (by decide) rfl)))
  refine ⟨.inr hS_34, ?_⟩
  refine J_assoc ?_
  refine J_bind fun x_35 hx_36 => ?_
  refine JA_opg (i := 9) (by kernel_rfl) rfl rfl rfl hc_18 (op_read rfl rfl (r_index_row (v := v_27) (T := (T13).o) (q := x_35) 2 pu43 pi29 rfl rfl rfl rfl hx_36) ?_)
  have hS_37 : HeldOK σ [.row O11 45 v_2 x_3, .cell a_1 [v_2, .i used_4], .cell c_8 [.i p_6.Kind, .i p_6.N, .i p_6.Block]] σ [.hole (fun x => .elem O11 (elemAddr v_2 ((i_20).toNat * (O11).size)) x) (fun x => .row O11 45 v_2 (Sl.set x_3 i_20 x)), .cell (elemAddr v_2 ((i_20).toNat * (O11).size)) [.bool x_22.Live, v_27, v_29, v_31], .row (T13).o 29 v_27 x_22.Cells, .row ((tInt .i64)).o 3 v_29 x_22.Readers, .row (tBool).o 4 v_31 x_22.Writer, .cell a_1 [v_2, .i used_4], .cell c_8 [.i p_6.Kind, .i p_6.N, .i p_6.Block]] := HeldOK.view (PV := [.row O11 45 v_2 x_3, .cell a_1 [v_2, .i used_4], .cell c_8 [.i p_6.Kind, .i p_6.N, .i p_6.Block]]) (HeldOK.same [0, 1, 2] (by decide) rfl) (fun _ k => (take_back (T := O11) (i := i_20) (s := x_3) (e := 45) (v := v_2) (q := x_22) (C := [.cell a_1 [v_2, .i used_4], .cell c_8 [.i p_6.Kind, .i p_6.N, .i p_6.Block]]) ((), v_27, v_29, v_31) ⟨trivial, trivial, trivial, trivial⟩ hx_23 (Sep.select (PV' := [.hole (fun x => .elem O11 (elemAddr v_2 ((i_20).toNat * (O11).size)) x) (fun x => .row O11 45 v_2 (Sl.set x_3 i_20 x)), .cell (elemAddr v_2 ((i_20).toNat * (O11).size)) [.bool x_22.Live, v_27, v_29, v_31], .row (T13).o 29 v_27 x_22.Cells, .row ((tInt .i64)).o 3 v_29 x_22.Readers, .row (tBool).o 4 v_31 x_22.Writer, .cell a_1 [v_2, .i used_4], .cell c_8 [.i p_6.Kind, .i p_6.N, .i p_6.Block]]) k [0, 1, 2, 3, 4, 5, 6] (by decide) rfl)))
  refine ⟨.inr hS_37, ?_⟩
  refine JA_takepg 10 rfl hns (by kernel_rfl) (by kernel_rfl) rfl (.inr hS_37) rfl rfl hc_18 rfl rfl (r_fieldAddr (r := elemAddr v_27 ((p_6.N).toNat * ((T13).o).size + 1)) pu29 (f := Try.pf29.getD 1 default) rfl pi2 (by decide) rfl (elemAddr_add _ _ _)) ?_
  refine JA_opg (i := 11) (by kernel_rfl) rfl rfl rfl hc_18 (op_reads rfl rfl (l_elem_orow (v := v_27) (T := (T13).o) (Tf := (tInt .i64)) (q := x_35) (i := p_6.N) (off := 1) 2 pu2 pi2 rfl rfl rfl rfl hx_36 (OFieldAt.of f_Gmem_Value_N) (by decide)) ?_)
  intro v_38 h_39
  obtain rfl := tInt_v.1 h_39
  have hS_40 : HeldOK σ [.row O11 45 v_2 x_3, .cell a_1 [v_2, .i used_4], .cell c_8 [.i p_6.Kind, .i p_6.N, .i p_6.Block]] σ [.hole (fun x => .elem O11 (elemAddr v_2 ((i_20).toNat * (O11).size)) x) (fun x => .row O11 45 v_2 (Sl.set x_3 i_20 x)), .cell (elemAddr v_2 ((i_20).toNat * (O11).size)) [.bool x_22.Live, v_27, v_29, v_31], .row (T13).o 29 v_27 x_22.Cells, .row ((tInt .i64)).o 3 v_29 x_22.Readers, .row (tBool).o 4 v_31 x_22.Writer, .cell a_1 [v_2, .i used_4], .cell c_8 [.i p_6.Kind, .i p_6.N, .i p_6.Block]] := HeldOK.view (PV := [.row O11 45 v_2 x_3, .cell a_1 [v_2, .i used_4], .cell c_8 [.i p_6.Kind, .i p_6.N, .i p_6.Block]]) (HeldOK.same [0, 1, 2] (by decide) rfl) (fun _ k => (take_back (T := O11) (i := i_20) (s := x_3) (e := 45) (v := v_2) (q := x_22) (C := [.cell a_1 [v_2, .i used_4], .cell c_8 [.i p_6.Kind, .i p_6.N, .i p_6.Block]]) ((), v_27, v_29, v_31) ⟨trivial, trivial, trivial, trivial⟩ hx_23 (Sep.select (PV' := [.hole (fun x => .elem O11 (elemAddr v_2 ((i_20).toNat * (O11).size)) x) (fun x => .row O11 45 v_2 (Sl.set x_3 i_20 x)), .cell (elemAddr v_2 ((i_20).toNat * (O11).size)) [.bool x_22.Live, v_27, v_29, v_31], .row (T13).o 29 v_27 x_22.Cells, .row ((tInt .i64)).o 3 v_29 x_22.Readers, .row (tBool).o 4 v_31 x_22.Writer, .cell a_1 [v_2, .i used_4], .cell c_8 [.i p_6.Kind, .i p_6.N, .i p_6.Block]]) k [0, 1, 2, 3, 4, 5, 6] (by decide) rfl)))
  refine ⟨.inr hS_40, ?_⟩
  refine JA_takepg 12 rfl hns (by kernel_rfl) (by kernel_rfl) rfl (.inr hS_40) rfl rfl hc_18 rfl rfl (r_neq rfl rfl) ?_
  refine JA_takep 13 rfl hns (by kernel_rfl) (by kernel_rfl) rfl (.inr hS_40) rfl rfl rfl (r_pick_f (v := .bool (decide (x_35.N ≠ 0))) rfl hc_18 rfl) ?_
  refine J_put (T := O11) (i := i_20) (s := x_3) (s' := x_3) (A := [.row (T13).o 29 v_27 x_22.Cells, .row ((tInt .i64)).o 3 v_29 x_22.Readers, .row (tBool).o 4 v_31 x_22.Writer]) (C := [.cell a_1 [v_2, .i used_4], .cell c_8 [.i p_6.Kind, .i p_6.N, .i p_6.Block]]) x_22 ((), v_27, v_29, v_31) ⟨trivial, trivial, trivial, trivial⟩ rfl rfl (Sl.set_same hx_23) ?_
  refine J_select (PV' := [.cell c_8 [.i p_6.Kind, .i p_6.N, .i p_6.Block], .row O11 45 v_2 x_3, .cell a_1 [v_2, .i used_4]]) [2, 0, 1] (by decide) rfl ?_
  refine J_prune _ ?_ fun b => hk (decide (x_35.N ≠ 0)) _ b _ _ ⟨rfl, rfl, rfl⟩
  exact ⟨rfl, rfl, rfl, rfl, trivial⟩
 ·rintro y_19 _ b s_43 _ ⟨rfl, rfl, rfl⟩
  have hS_44 : HeldOK σ [.row O11 45 v_2 x_3, .cell a_1 [v_2, .i used_4], .cell c_8 [.i p_6.Kind, .i p_6.N, .i p_6.Block]] σ [.cell c_8 [.i p_6.Kind, .i p_6.N, .i p_6.Block], .row O11 45 v_2 x_3, .cell a_1 [v_2, .i used_4]] := HeldOK.same [1, 2, 0] (by decide) rfl
  refine JA_done (by kernel_rfl) ?_
  refine J_then ?_
  refine J_cond rfl (fun hc_45 => ?_) (fun hc_45 => ?_)
  ·refine J_seq ?_
   refine J_region ?_
   refine JL_op rfl (op_read rfl rfl (r_move (v := .i r_10.2) rfl) ?_)
   refine JL_op rfl (op_read rfl rfl (r_assign (v := .bool false) rfl) ?_)
   refine JL_op rfl (op_read rfl rfl (r_assign (v := .i r_10.2) rfl) ?_)
   refine JL_nil ?_
   refine J_then ?_
   refine J_ret ?_
   refine J_then_ret ?_
   exact J_returnV2 (PV' := [.cell a_1 [v_2, .i used_4], .row O11 45 v_2 x_3]) rfl rv_tmp rv_tmp [2, 1] (by decide) rfl ⟨rfl, rfl, rfl⟩
  ·refine J_skip ?_
   refine J_then ?_
   refine J_seq ?_
   refine J_region_any 8 [.cell c_8 [.i p_6.Kind, .i p_6.N, .i p_6.Block], .row O11 45 v_2 x_3, .cell a_1 [v_2, .i used_4]] Try.mixed (by kernel_rfl) fun hns => ?_
   have hS_46 : HeldOK σ [.cell c_8 [.i p_6.Kind, .i p_6.N, .i p_6.Block], .row O11 45 v_2 x_3, .cell a_1 [v_2, .i used_4]] σ [.cell c_8 [.i p_6.Kind, .i p_6.N, .i p_6.Block], .row O11 45 v_2 x_3, .cell a_1 [v_2, .i used_4]] := HeldOK.same [0, 1, 2] (by decide) rfl
   refine JA_takep 0 rfl hns (by kernel_rfl) (by kernel_rfl) rfl (.inr hS_46) rfl rfl rfl (r_move (v := peOpt v_2 (O11).size r_10.1) rfl) ?_
   refine J_bind fun i_47 hi_48 => ?_
   refine JA_takep 1 rfl hns (by kernel_rfl) (by kernel_rfl) rfl (.inr hS_46) rfl rfl rfl (r_nilCheck_opt (i := i_47) rfl hi_48) ?_
   refine JA_takep 2 rfl hns (by kernel_rfl) (by kernel_rfl) rfl (.inr hS_46) rfl rfl rfl (r_fieldAddr (r := elemAddr v_2 ((i_47).toNat * (O11).size + 1)) pu45 (f := Try.pf45.getD 1 default) rfl pi43 (by decide) rfl (elemAddr_add _ _ _)) ?_
   refine JA_takep 4 rfl hns (by kernel_rfl) (by kernel_rfl) rfl (.inr hS_46) rfl rfl rfl (r_fieldAddr (r := Addr.add c_8 1) pu29 (f := Try.pf29.getD 1 default) rfl pi2 (by decide) rfl (Addr.add_add _ _ _)) ?_
   refine JA_take 5 rfl hns (by kernel_rfl) (by kernel_rfl) (by kernel_rfl) rfl (by kernel_rfl) hS_46 rfl rfl rfl (r_load_priv (a := c_8) (off := 1) (cs' := [.i p_6.N]) (v := .i p_6.N) 0 pu2 pi2 rfl rfl rfl rfl (by decide) rfl) ?_
   refine J_bind fun x_49 hx_50 => ?_
   refine J_select (PV' := [.row O11 45 v_2 x_3, .cell c_8 [.i p_6.Kind, .i p_6.N, .i p_6.Block], .cell a_1 [v_2, .i used_4]]) [1, 0, 2] (by decide) rfl ?_
   refine J_take (T := O11) (i := i_47) hx_50 fun u_52 hu_51 => ?_
   obtain ⟨_, v_54, v_56, v_58⟩ := u_52
   change J _ _ _ _ _ _ _ _ [.hole (fun x => .elem O11 (elemAddr v_2 ((i_47).toNat * (O11).size)) x) (fun x => .row O11 45 v_2 (Sl.set x_3 i_47 x)), .cell (elemAddr v_2 ((i_47).toNat * (O11).size)) [.bool x_49.Live, v_54, v_56, v_58], .row (T13).o 29 v_54 x_49.Cells, .row ((tInt .i64)).o 3 v_56 x_49.Readers, .row (tBool).o 4 v_58 x_49.Writer, .cell c_8 [.i p_6.Kind, .i p_6.N, .i p_6.Block], .cell a_1 [v_2, .i used_4]]
   have hS_60 : HeldOK σ [.cell c_8 [.i p_6.Kind, .i p_6.N, .i p_6.Block], .row O11 45 v_2 x_3, .cell a_1 [v_2, .i used_4]] σ [.hole (fun x => .elem O11 (elemAddr v_2 ((i_47).toNat * (O11).size)) x) (fun x => .row O11 45 v_2 (Sl.set x_3 i_47 x)), .cell (elemAddr v_2 ((i_47).toNat * (O11).size)) [.bool x_49.Live, v_54, v_56, v_58], .row (T13).o 29 v_54 x_49.Cells, .row ((tInt .i64)).o 3 v_56 x_49.Readers, .row (tBool).o 4 v_58 x_49.Writer, .cell c_8 [.i p_6.Kind, .i p_6.N, .i p_6.Block], .cell a_1 [v_2, .i used_4]] := HeldOK.view (PV := [.row O11 45 v_2 x_3, .cell c_8 [.i p_6.Kind, .i p_6.N, .i p_6.Block], .cell a_1 [v_2, .i used_4]]) (HeldOK.same [1, 0, 2] (by decide) rfl) (fun _ k => (take_back (T := O11) (i := i_47) (s := x_3) (e := 45) (v := v_2) (q := x_49) (C := [.cell c_8 [.i p_6.Kind, .i p_6.N, .i p_6.Block], .cell a_1 [v_2, .i used_4]]) ((), v_54, v_56, v_58) ⟨trivial, trivial, trivial, trivial⟩ hx_50 (Sep.select (PV' := [.hole (fun x => .elem O11 (elemAddr v_2 ((i_47).toNat * (O11).size)) x) (fun x => .row O11 45 v_2 (Sl.set x_3 i_47 x)), .cell (elemAddr v_2 ((i_47).toNat * (O11).size)) [.bool x_49.Live, v_54, v_56, v_58], .row (T13).o 29 v_54 x_49.Cells, .row ((tInt .i64)).o 3 v_56 x_49.Readers, .row (tBool).o 4 v_58 x_49.Writer, .cell c_8 [.i p_6.Kind, .i p_6.N, .i p_6.Block], .cell a_1 [v_2, .i used_4]]) k [0, 1, 2, 3, 4, 5, 6] (by decide) rfl)))
   refine JA_op (i := 3) (by kernel_rfl) rfl rfl (op_read rfl rfl (r_load_priv (a := (elemAddr v_2 ((i_47).toNat * (O11).size))) (off := 1) (cs' := [v_54]) (v := v_54) 1 pu43 pi43 (pe_add v_2 ((i_47).toNat * (O11).size) 1) rfl rfl rfl (by decide) rfl) ?_)
   have hS_61 : HeldOK σ [.cell c_8 [.i p_6.Kind, .i p_6.N, .i p_6.Block], .row O11 45 v_2 x_3, .cell a_1 [v_2, .i used_4]] σ [.hole (fun x => .elem O11 (elemAddr v_2 ((i_47).toNat * (O11).size)) x) (fun x => .row O11 45 v_2 (Sl.set x_3 i_47 x)), .cell (elemAddr v_2 ((i_47).toNat * (O11).size)) [.bool x_49.Live, v_54, v_56, v_58], .row (T13).o 29 v_54 x_49.Cells, .row ((tInt .i64)).o 3 v_56 x_49.Readers, .row (tBool).o 4 v_58 x_49.Writer, .cell c_8 [.i p_6.Kind, .i p_6.N, .i p_6.Block], .cell a_1 [v_2, .i used_4]] := HeldOK.view (PV := [.row O11 45 v_2 x_3, .cell c_8 [.i p_6.Kind, .i p_6.N, .i p_6.Block], .cell a_1 [v_2, .i used_4]]) (HeldOK.same [1, 0, 2] (by decide) rfl) (fun _ k => (take_back (T := O11) (i := i_47) (s := x_3) (e := 45) (v := v_2) (q := x_49) (C := [.cell c_8 [.i p_6.Kind, .i p_6.N, .i p_6.Block], .cell a_1 [v_2, .i used_4]]) ((), v_54, v_56, v_58) ⟨trivial, trivial, trivial, trivial⟩ hx_50 (Sep.select (PV' := [.hole (fun x => .elem O11 (elemAddr v_2 ((i_47).toNat * (O11).size)) x) (fun x => .row O11 45 v_2 (Sl.set x_3 i_47 x)), .cell (elemAddr v_2 ((i_47).toNat * (O11).size)) [.bool x_49.Live, v_54, v_56, v_58], .row (T13).o 29 v_54 x_49.Cells, .row ((tInt .i64)).o 3 v_56 x_49.Readers, .row (tBool).o 4 v_58 x_49.Writer, .cell c_8 [.i p_6.Kind, .i p_6.N, .i p_6.Block], .cell a_1 [v_2, .i used_4]]) k [0, 1, 2, 3, 4, 5, 6] (by decide) rfl)))
   refine ⟨.inr hS_61, ?_⟩
   refine J_bind fun x_62 hx_63 => ?_
   refine JA_op (i := 6) (by kernel_rfl) rfl rfl (op_read rfl rfl (r_index_row (v := v_54) (T := (T13).o) (q := x_62) 2 pu43 pi29 rfl rfl rfl rfl hx_63) ?_)
   have hS_64 : HeldOK σ [.cell c_8 [.i p_6.Kind, .i p_6.N, .i p_6.Block], .row O11 45 v_2 x_3, .cell a_1 [v_2, .i used_4]] σ [.hole (fun x => .elem O11 (elemAddr v_2 ((i_47).toNat * (O11).size)) x) (fun x => .row O11 45 v_2 (Sl.set x_3 i_47 x)), .cell (elemAddr v_2 ((i_47).toNat * (O11).size)) [.bool x_49.Live, v_54, v_56, v_58], .row (T13).o 29 v_54 x_49.Cells, .row ((tInt .i64)).o 3 v_56 x_49.Readers, .row (tBool).o 4 v_58 x_49.Writer, .cell c_8 [.i p_6.Kind, .i p_6.N, .i p_6.Block], .cell a_1 [v_2, .i used_4]] := HeldOK.view (PV := [.row O11 45 v_2 x_3, .cell c_8 [.i p_6.Kind, .i p_6.N, .i p_6.Block], .cell a_1 [v_2, .i used_4]]) (HeldOK.same [1, 0, 2] (by decide) rfl) (fun _ k => (take_back (T := O11) (i := i_47) (s := x_3) (e := 45) (v := v_2) (q := x_49) (C := [.cell c_8 [.i p_6.Kind, .i p_6.N, .i p_6.Block], .cell a_1 [v_2, .i used_4]]) ((), v_54, v_56, v_58) ⟨trivial, trivial, trivial, trivial⟩ hx_50 (Sep.select (PV' := [.hole (fun x => .elem O11 (elemAddr v_2 ((i_47).toNat * (O11).size)) x) (fun x => .row O11 45 v_2 (Sl.set x_3 i_47 x)), .cell (elemAddr v_2 ((i_47).toNat * (O11).size)) [.bool x_49.Live, v_54, v_56, v_58], .row (T13).o 29 v_54 x_49.Cells, .row ((tInt .i64)).o 3 v_56 x_49.Readers, .row (tBool).o 4 v_58 x_49.Writer, .cell c_8 [.i p_6.Kind, .i p_6.N, .i p_6.Block], .cell a_1 [v_2, .i used_4]]) k [0, 1, 2, 3, 4, 5, 6] (by decide) rfl)))
   refine ⟨.inr hS_64, ?_⟩
   refine JA_takep 7 rfl hns (by kernel_rfl) (by kernel_rfl) rfl (.inr hS_64) rfl rfl rfl (r_fieldAddr (r := elemAddr v_54 ((p_6.N).toNat * ((T13).o).size + 1)) pu29 (f := Try.pf29.getD 1 default) rfl pi2 (by decide) rfl (elemAddr_add _ _ _)) ?_
   refine J_select (PV' := [.row (T13).o 29 v_54 x_49.Cells, .hole (fun x => .elem O11 (elemAddr v_2 ((i_47).toNat * (O11).size)) x) (fun x => .row O11 45 v_2 (Sl.set x_3 i_47 x)), .cell (elemAddr v_2 ((i_47).toNat * (O11).size)) [.bool x_49.Live, v_54, v_56, v_58], .row ((tInt .i64)).o 3 v_56 x_49.Readers, .row (tBool).o 4 v_58 x_49.Writer, .cell c_8 [.i p_6.Kind, .i p_6.N, .i p_6.Block], .cell a_1 [v_2, .i used_4]]) [2, 0, 1, 3, 4, 5, 6] (by decide) rfl ?_
   refine J_take (T := (T13).o) (i := p_6.N) hx_63 fun u_66 hu_65 => ?_
   change J _ _ _ _ _ _ _ _ [.hole (fun x => .elem (T13).o (elemAddr v_54 ((p_6.N).toNat * ((T13).o).size)) x) (fun x => .row (T13).o 29 v_54 (Sl.set x_49.Cells p_6.N x)), .cell (elemAddr v_54 ((p_6.N).toNat * ((T13).o).size)) [.i x_62.Kind, .i x_62.N, .i x_62.Block], .hole (fun x => .elem O11 (elemAddr v_2 ((i_47).toNat * (O11).size)) x) (fun x => .row O11 45 v_2 (Sl.set x_3 i_47 x)), .cell (elemAddr v_2 ((i_47).toNat * (O11).size)) [.bool x_49.Live, v_54, v_56, v_58], .row ((tInt .i64)).o 3 v_56 x_49.Readers, .row (tBool).o 4 v_58 x_49.Writer, .cell c_8 [.i p_6.Kind, .i p_6.N, .i p_6.Block], .cell a_1 [v_2, .i used_4]]
   refine JA_op (i := 8) (by kernel_rfl) rfl rfl (op_store_priv (a := (elemAddr v_54 ((p_6.N).toNat * ((T13).o).size))) (off := 1) (vs := [.i 1]) (cs' := [.i x_62.Kind, .i 1, .i x_62.Block]) (PV' := [.hole (fun x => .elem (T13).o (elemAddr v_54 ((p_6.N).toNat * ((T13).o).size)) x) (fun x => .row (T13).o 29 v_54 (Sl.set x_49.Cells p_6.N x)), .cell (elemAddr v_54 ((p_6.N).toNat * ((T13).o).size)) [.i x_62.Kind, .i 1, .i x_62.Block], .hole (fun x => .elem O11 (elemAddr v_2 ((i_47).toNat * (O11).size)) x) (fun x => .row O11 45 v_2 (Sl.set x_3 i_47 x)), .cell (elemAddr v_2 ((i_47).toNat * (O11).size)) [.bool x_49.Live, v_54, v_56, v_58], .row ((tInt .i64)).o 3 v_56 x_49.Readers, .row (tBool).o 4 v_58 x_49.Writer, .cell c_8 [.i p_6.Kind, .i p_6.N, .i p_6.Block], .cell a_1 [v_2, .i used_4]]) 1 pi2 (pe_add v_54 ((p_6.N).toNat * ((T13).o).size) 1) rfl rfl ⟨rfl, trivial⟩ rfl rfl rfl rfl rfl ?_)
   refine ⟨.inl (.inl rfl), ?_⟩
   refine JA_done (by kernel_rfl) ?_
   refine J_then ?_
   refine J_seq ?_
   refine J_region ?_
   refine JL_op rfl (op_read rfl rfl (r_assign (v := .bool true) rfl) ?_)
   refine JL_op rfl (op_read rfl rfl (r_assign (v := .i 0) rfl) ?_)
   refine JL_nil ?_
   refine J_then ?_
   refine J_ret ?_
   refine J_put (T := (T13).o) (i := p_6.N) (s := x_49.Cells) (s' := (Sl.set x_49.Cells p_6.N (⟨x_62.Kind, 1, x_62.Block⟩ : Gmem_Value))) (A := []) (C := [.hole (fun x => .elem O11 (elemAddr v_2 ((i_47).toNat * (O11).size)) x) (fun x => .row O11 45 v_2 (Sl.set x_3 i_47 x)), .cell (elemAddr v_2 ((i_47).toNat * (O11).size)) [.bool x_49.Live, v_54, v_56, v_58], .row ((tInt .i64)).o 3 v_56 x_49.Readers, .row (tBool).o 4 v_58 x_49.Writer, .cell c_8 [.i p_6.Kind, .i p_6.N, .i p_6.Block], .cell a_1 [v_2, .i used_4]]) (⟨x_62.Kind, 1, x_62.Block⟩ : Gmem_Value) () trivial rfl rfl rfl ?_
   refine J_select (PV' := [.hole (fun x => .elem O11 (elemAddr v_2 ((i_47).toNat * (O11).size)) x) (fun x => .row O11 45 v_2 (Sl.set x_3 i_47 x)), .cell (elemAddr v_2 ((i_47).toNat * (O11).size)) [.bool x_49.Live, v_54, v_56, v_58], .row (T13).o 29 v_54 (Sl.set x_49.Cells p_6.N (⟨x_62.Kind, 1, x_62.Block⟩ : Gmem_Value)), .row ((tInt .i64)).o 3 v_56 x_49.Readers, .row (tBool).o 4 v_58 x_49.Writer, .cell c_8 [.i p_6.Kind, .i p_6.N, .i p_6.Block], .cell a_1 [v_2, .i used_4]]) [1, 2, 0, 3, 4, 5, 6] (by decide) rfl ?_
   refine J_put (T := O11) (i := i_47) (s := x_3) (s' := (Sl.set x_3 i_47 (⟨x_49.Live, (Sl.set x_49.Cells p_6.N (⟨x_62.Kind, 1, x_62.Block⟩ : Gmem_Value)), x_49.Readers, x_49.Writer⟩ : Gmem_Block))) (A := [.row (T13).o 29 v_54 (Sl.set x_49.Cells p_6.N (⟨x_62.Kind, 1, x_62.Block⟩ : Gmem_Value)), .row ((tInt .i64)).o 3 v_56 x_49.Readers, .row (tBool).o 4 v_58 x_49.Writer]) (C := [.cell c_8 [.i p_6.Kind, .i p_6.N, .i p_6.Block], .cell a_1 [v_2, .i used_4]]) (⟨x_49.Live, (Sl.set x_49.Cells p_6.N (⟨x_62.Kind, 1, x_62.Block⟩ : Gmem_Value)), x_49.Readers, x_49.Writer⟩ : Gmem_Block) ((), v_54, v_56, v_58) ⟨trivial, trivial, trivial, trivial⟩ rfl rfl rfl ?_
   exact J_returnV2 (PV' := [.cell a_1 [v_2, .i used_4], .row O11 45 v_2 (Sl.set x_3 i_47 (⟨x_49.Live, (Sl.set x_49.Cells p_6.N (⟨x_62.Kind, 1, x_62.Block⟩ : Gmem_Value)), x_49.Readers, x_49.Writer⟩ : Gmem_Block))]) rfl rv_tmp rv_tmp [2, 0] (by decide) rfl ⟨rfl, rfl, rfl⟩
def mem_Memory_Unlock_post (σ0 : FS) (a_1 : Addr) (v_2 : Value) (x_3 : Sl Gmem_Block) (used_4 : Int) (v_5 : Value) (p_6 : Gmem_Value) (r : Int × (Sl Gmem_Block)) (σ : FS) (PV : List Priv) (v : Value) : Prop :=
 σ0 = σ ∧ .i r.1 = v ∧ PV = [.cell a_1 [v_2, .i used_4], .row O11 45 v_2 r.2]
set_option maxRecDepth 100000 in
theorem mem_Memory_Unlock_ref (s : Start) (σ : FS) (a_1 : Addr) (v_2 : Value) (x_3 : Sl Gmem_Block) (used_4 : Int) (v_5 : Value) (p_6 : Gmem_Value) (h_7 : T13.vrel σ v_5 p_6) (hs : Pre s σ [.cell a_1 [v_2, .i used_4], .row O11 45 v_2 x_3]) (r : Int × (Sl Gmem_Block)) (hr : mem_Memory_Unlock x_3 used_4 p_6 = some r) : Does Try.prog 19 [.pointer (some (Addr.add a_1 0)), v_5] s σ (mem_Memory_Unlock_post σ a_1 v_2 x_3 used_4 v_5 p_6 r) := by
 unfold mem_Memory_Unlock at hr
 obtain rfl := T13_v.1 h_7
 refine does_of_J Try.func19 rfl (n := 24) rfl rfl hs hr ?_
 refine J_seq ?_
 refine J_region ?_
 refine JL_op rfl (op_box (cs := [.i p_6.Kind, .i p_6.N, .i p_6.Block]) rfl rfl ?_)
 intro c_8
 refine JL_op rfl (op_read rfl rfl (r_assign (v := .i 0) rfl) ?_)
 refine JL_nil ?_
 refine J_then ?_
 refine J_seq ?_
 refine J_region ?_
 refine JL_op rfl (op_read rfl rfl (r_move (v := .pointer (some (Addr.add a_1 0))) rfl) ?_)
 refine JL_op rfl (op_read rfl rfl (r_load_priv (a := c_8) (off := 0) (cs' := [.i p_6.Kind, .i p_6.N, .i p_6.Block]) (v := .agg #[.i p_6.Kind, .i p_6.N, .i p_6.Block]) 0 pu29 pi29 rfl rfl rfl rfl (by decide) rfl) ?_)
 refine J_select (PV' := [.cell a_1 [v_2, .i used_4], .row O11 45 v_2 x_3, .cell c_8 [.i p_6.Kind, .i p_6.N, .i p_6.Block]]) [1, 2, 0] (by decide) rfl ?_
 refine JL_op rfl (op_call (f := 29) (fn := Try.f29) (args := [.pointer (some (Addr.add a_1 0)), .agg #[.i p_6.Kind, .i p_6.N, .i p_6.Block]]) (post := mem_Memory_whole_post σ a_1 v_2 x_3 used_4 (.agg #[.i p_6.Kind, .i p_6.N, .i p_6.Block]) p_6) [.cell a_1 [v_2, .i used_4], .row O11 45 v_2 x_3] [.cell c_8 [.i p_6.Kind, .i p_6.N, .i p_6.Block]] rfl rfl rfl Try.func29 pn29 rfl rfl (fun y st hy hpre => mem_Memory_whole_ref st σ a_1 v_2 x_3 used_4 (.agg #[.i p_6.Kind, .i p_6.N, .i p_6.Block]) p_6 (T13_v.2 rfl) hpre y hy) ?_)
 intro r_10 v_12 s_15 PV_13 hr_11 hle_16 hp_14
 obtain ⟨rfl, rfl, rfl⟩ := hp_14
 refine JL_op rfl (op_read rfl rfl (r_move (v := .tuple #[peOpt v_2 (O11).size r_10.1, .i r_10.2]) rfl) ?_)
 refine JL_op rfl (op_read rfl rfl (r_extract (v := peOpt v_2 (O11).size r_10.1) rfl rfl) ?_)
 refine JL_op rfl (op_read rfl rfl (r_extract (v := .i r_10.2) rfl rfl) ?_)
 refine JL_op rfl (op_read rfl rfl (r_assign (v := peOpt v_2 (O11).size r_10.1) rfl) ?_)
 refine JL_op rfl (op_read rfl rfl (r_assign (v := .i r_10.2) rfl) ?_)
 refine JL_nil ?_
 refine J_then ?_
 refine J_seq ?_
 refine J_seq ?_
 refine J_region ?_
 refine JL_op rfl (op_read rfl rfl (r_move (v := .i r_10.2) rfl) ?_)
 refine JL_op rfl (op_read rfl rfl (r_eql rfl rfl) ?_)
 refine JL_nil ?_
 refine J_then ?_
 refine J_cut (fun (y : (Sl Gmem_Block)) e L τ PV => e = .normal ∧ (σ = τ ∧ L = [(6, .i r_10.2)] ∧ PV = [.cell a_1 [v_2, .i used_4], .row O11 45 v_2 y])) ?_ ?_
 ·refine J_cond rfl (fun hc_17 => ?_) (fun hc_17 => ?_)
  ·refine J_region_any 8 [.row O11 45 v_2 x_3, .cell a_1 [v_2, .i used_4], .cell c_8 [.i p_6.Kind, .i p_6.N, .i p_6.Block]] Try.mixed (by kernel_rfl) fun hns => ?_
   have hS_18 : HeldOK σ [.row O11 45 v_2 x_3, .cell a_1 [v_2, .i used_4], .cell c_8 [.i p_6.Kind, .i p_6.N, .i p_6.Block]] σ [.row O11 45 v_2 x_3, .cell a_1 [v_2, .i used_4], .cell c_8 [.i p_6.Kind, .i p_6.N, .i p_6.Block]] := HeldOK.same [0, 1, 2] (by decide) rfl
   refine JA_takep 0 rfl hns (by kernel_rfl) (by kernel_rfl) rfl (.inr hS_18) rfl rfl rfl (r_move (v := peOpt v_2 (O11).size r_10.1) rfl) ?_
   refine J_bind fun i_19 hi_20 => ?_
   refine JA_takep 1 rfl hns (by kernel_rfl) (by kernel_rfl) rfl (.inr hS_18) rfl rfl rfl (r_nilCheck_opt (i := i_19) rfl hi_20) ?_
   refine JA_takep 2 rfl hns (by kernel_rfl) (by kernel_rfl) rfl (.inr hS_18) rfl rfl rfl (r_fieldAddr (r := elemAddr v_2 ((i_19).toNat * (O11).size + 1)) pu45 (f := Try.pf45.getD 1 default) rfl pi43 (by decide) rfl (elemAddr_add _ _ _)) ?_
   refine JA_takep 4 rfl hns (by kernel_rfl) (by kernel_rfl) rfl (.inr hS_18) rfl rfl rfl (r_fieldAddr (r := Addr.add c_8 1) pu29 (f := Try.pf29.getD 1 default) rfl pi2 (by decide) rfl (Addr.add_add _ _ _)) ?_
   refine JA_take 5 rfl hns (by kernel_rfl) (by kernel_rfl) (by kernel_rfl) rfl (by kernel_rfl) hS_18 rfl rfl rfl (r_load_priv (a := c_8) (off := 1) (cs' := [.i p_6.N]) (v := .i p_6.N) 2 pu2 pi2 rfl rfl rfl rfl (by decide) rfl) ?_
   refine J_bind fun x_21 hx_22 => ?_
   refine J_take (T := O11) (i := i_19) hx_22 fun u_24 hu_23 => ?_
   obtain ⟨_, v_26, v_28, v_30⟩ := u_24
   change J _ _ _ _ _ _ _ _ [.hole (fun x => .elem O11 (elemAddr v_2 ((i_19).toNat * (O11).size)) x) (fun x => .row O11 45 v_2 (Sl.set x_3 i_19 x)), .cell (elemAddr v_2 ((i_19).toNat * (O11).size)) [.bool x_21.Live, v_26, v_28, v_30], .row (T13).o 29 v_26 x_21.Cells, .row ((tInt .i64)).o 3 v_28 x_21.Readers, .row (tBool).o 4 v_30 x_21.Writer, .cell a_1 [v_2, .i used_4], .cell c_8 [.i p_6.Kind, .i p_6.N, .i p_6.Block]]
   have hS_32 : HeldOK σ [.row O11 45 v_2 x_3, .cell a_1 [v_2, .i used_4], .cell c_8 [.i p_6.Kind, .i p_6.N, .i p_6.Block]] σ [.hole (fun x => .elem O11 (elemAddr v_2 ((i_19).toNat * (O11).size)) x) (fun x => .row O11 45 v_2 (Sl.set x_3 i_19 x)), .cell (elemAddr v_2 ((i_19).toNat * (O11).size)) [.bool x_21.Live, v_26, v_28, v_30], .row (T13).o 29 v_26 x_21.Cells, .row ((tInt .i64)).o 3 v_28 x_21.Readers, .row (tBool).o 4 v_30 x_21.Writer, .cell a_1 [v_2, .i used_4], .cell c_8 [.i p_6.Kind, .i p_6.N, .i p_6.Block]] := HeldOK.view (PV := [.row O11 45 v_2 x_3, .cell a_1 [v_2, .i used_4], .cell c_8 [.i p_6.Kind, .i p_6.N, .i p_6.Block]]) (HeldOK.same [0, 1, 2] (by decide) rfl) (fun _ k => (take_back (T := O11) (i := i_19) (s := x_3) (e := 45) (v := v_2) (q := x_21) (C := [.cell a_1 [v_2, .i used_4], .cell c_8 [.i p_6.Kind, .i p_6.N, .i p_6.Block]]) ((), v_26, v_28, v_30) ⟨trivial, trivial, trivial, trivial⟩ hx_22 (Sep.select (PV' := [.hole (fun x => .elem O11 (elemAddr v_2 ((i_19).toNat * (O11).size)) x) (fun x => .row O11 45 v_2 (Sl.set x_3 i_19 x)), .cell (elemAddr v_2 ((i_19).toNat * (O11).size)) [.bool x_21.Live, v_26, v_28, v_30], .row (T13).o 29 v_26 x_21.Cells, .row ((tInt .i64)).o 3 v_28 x_21.Readers, .row (tBool).o 4 v_30 x_21.Writer, .cell a_1 [v_2, .i used_4], .cell c_8 [.i p_6.Kind, .i p_6.N, .i p_6.Block]]) k [0, 1, 2, 3, 4, 5, 6] (by decide) rfl)))
   refine JA_op (i := 3) (by kernel_rfl) rfl rfl (op_read rfl rfl (r_load_priv (a := (elemAddr v_2 ((i_19).toNat * (O11).size))) (off := 1) (cs' := [v_26]) (v := v_26) 1 pu43 pi43 (pe_add v_2 ((i_19).toNat * (O11).size) 1) rfl rfl rfl (by decide) rfl) ?_)
   have hS_33 : HeldOK σ [.row O11 45 v_2 x_3, .cell a_1 [v_2, .i used_4], .cell c_8 [.i p_6.Kind, .i p_6.N, .i p_6.Block]] σ [.hole (fun x => .elem O11 (elemAddr v_2 ((i_19).toNat * (O11).size)) x) (fun x => .row O11 45 v_2 (Sl.set x_3 i_19 x)), .cell (elemAddr v_2 ((i_19).toNat * (O11).size)) [.bool x_21.Live, v_26, v_28, v_30], .row (T13).o 29 v_26 x_21.Cells, .row ((tInt .i64)).o 3 v_28 x_21.Readers, .row (tBool).o 4 v_30 x_21.Writer, .cell a_1 [v_2, .i used_4], .cell c_8 [.i p_6.Kind, .i p_6.N, .i p_6.Block]] := HeldOK.view (PV := [.row O11 45 v_2 x_3, .cell a_1 [v_2, .i used_4], .cell c_8 [.i p_6.Kind, .i p_6.N, .i p_6.Block]]) (HeldOK.same [0, 1, 2] (by decide) rfl) (fun _ k => (take_back (T := O11) (i := i_19) (s := x_3) (e := 45) (v := v_2) (q := x_21) (C := [.cell a_1 [v_2, .i used_4], .cell c_8 [.i p_6.Kind, .i p_6.N, .i p_6.Block]]) ((), v_26, v_28, v_30) ⟨trivial, trivial, trivial, trivial⟩ hx_22 (Sep.select (PV' := [.hole (fun x => .elem O11 (elemAddr v_2 ((i_19).toNat * (O11).size)) x) (fun x => .row O11 45 v_2 (Sl.set x_3 i_19 x)), .cell (elemAddr v_2 ((i_19).toNat * (O11).size)) [.bool x_21.Live, v_26, v_28, v_30], .row (T13).o 29 v_26 x_21.Cells, .row ((tInt .i64)).o 3 v_28 x_21.Readers, .row (tBool).o 4 v_30 x_21.Writer, .cell a_1 [v_2, .i used_4], .cell c_8 [.i p_6.Kind, .i p_6.N, .i p_6.Block]]) k [0, 1, 2, 3, 4, 5, 6] (by decide) rfl)))
   refine ⟨.inr hS_33, ?_⟩
   refine J_bind fun x_34 hx_35 => ?_
   refine JA_op (i := 6) (by kernel_rfl) rfl rfl (op_read rfl rfl (r_index_row (v := v_26) (T := (T13).o) (q := x_34) 2 pu43 pi29 rfl rfl rfl rfl hx_35) ?_)
   have hS_36 : HeldOK σ [.row O11 45 v_2 x_3, .cell a_1 [v_2, .i used_4], .cell c_8 [.i p_6.Kind, .i p_6.N, .i p_6.Block]] σ [.hole (fun x => .elem O11 (elemAddr v_2 ((i_19).toNat * (O11).size)) x) (fun x => .row O11 45 v_2 (Sl.set x_3 i_19 x)), .cell (elemAddr v_2 ((i_19).toNat * (O11).size)) [.bool x_21.Live, v_26, v_28, v_30], .row (T13).o 29 v_26 x_21.Cells, .row ((tInt .i64)).o 3 v_28 x_21.Readers, .row (tBool).o 4 v_30 x_21.Writer, .cell a_1 [v_2, .i used_4], .cell c_8 [.i p_6.Kind, .i p_6.N, .i p_6.Block]] := HeldOK.view (PV := [.row O11 45 v_2 x_3, .cell a_1 [v_2, .i used_4], .cell c_8 [.i p_6.Kind, .i p_6.N, .i p_6.Block]]) (HeldOK.same [0, 1, 2] (by decide) rfl) (fun _ k => (take_back (T := O11) (i := i_19) (s := x_3) (e := 45) (v := v_2) (q := x_21) (C := [.cell a_1 [v_2, .i used_4], .cell c_8 [.i p_6.Kind, .i p_6.N, .i p_6.Block]]) ((), v_26, v_28, v_30) ⟨trivial, trivial, trivial, trivial⟩ hx_22 (Sep.select (PV' := [.hole (fun x => .elem O11 (elemAddr v_2 ((i_19).toNat * (O11).size)) x) (fun x => .row O11 45 v_2 (Sl.set x_3 i_19 x)), .cell (elemAddr v_2 ((i_19).toNat * (O11).size)) [.bool x_21.Live, v_26, v_28, v_30], .row (T13).o 29 v_26 x_21.Cells, .row ((tInt .i64)).o 3 v_28 x_21.Readers, .row (tBool).o 4 v_30 x_21.Writer, .cell a_1 [v_2, .i used_4], .cell c_8 [.i p_6.Kind, .i p_6.N, .i p_6.Block]]) k [0, 1, 2, 3, 4, 5, 6] (by decide) rfl)))
   refine ⟨.inr hS_36, ?_⟩
   refine JA_takep 7 rfl hns (by kernel_rfl) (by kernel_rfl) rfl (.inr hS_36) rfl rfl rfl (r_fieldAddr (r := elemAddr v_26 ((p_6.N).toNat * ((T13).o).size + 1)) pu29 (f := Try.pf29.getD 1 default) rfl pi2 (by decide) rfl (elemAddr_add _ _ _)) ?_
   refine J_select (PV' := [.row (T13).o 29 v_26 x_21.Cells, .hole (fun x => .elem O11 (elemAddr v_2 ((i_19).toNat * (O11).size)) x) (fun x => .row O11 45 v_2 (Sl.set x_3 i_19 x)), .cell (elemAddr v_2 ((i_19).toNat * (O11).size)) [.bool x_21.Live, v_26, v_28, v_30], .row ((tInt .i64)).o 3 v_28 x_21.Readers, .row (tBool).o 4 v_30 x_21.Writer, .cell a_1 [v_2, .i used_4], .cell c_8 [.i p_6.Kind, .i p_6.N, .i p_6.Block]]) [2, 0, 1, 3, 4, 5, 6] (by decide) rfl ?_
   refine J_take (T := (T13).o) (i := p_6.N) hx_35 fun u_38 hu_37 => ?_
   change J _ _ _ _ _ _ _ _ [.hole (fun x => .elem (T13).o (elemAddr v_26 ((p_6.N).toNat * ((T13).o).size)) x) (fun x => .row (T13).o 29 v_26 (Sl.set x_21.Cells p_6.N x)), .cell (elemAddr v_26 ((p_6.N).toNat * ((T13).o).size)) [.i x_34.Kind, .i x_34.N, .i x_34.Block], .hole (fun x => .elem O11 (elemAddr v_2 ((i_19).toNat * (O11).size)) x) (fun x => .row O11 45 v_2 (Sl.set x_3 i_19 x)), .cell (elemAddr v_2 ((i_19).toNat * (O11).size)) [.bool x_21.Live, v_26, v_28, v_30], .row ((tInt .i64)).o 3 v_28 x_21.Readers, .row (tBool).o 4 v_30 x_21.Writer, .cell a_1 [v_2, .i used_4], .cell c_8 [.i p_6.Kind, .i p_6.N, .i p_6.Block]]
   refine JA_op (i := 8) (by kernel_rfl) rfl rfl (op_store_priv (a := (elemAddr v_26 ((p_6.N).toNat * ((T13).o).size))) (off := 1) (vs := [.i 0]) (cs' := [.i x_34.Kind, .i 0, .i x_34.Block]) (PV' := [.hole (fun x => .elem (T13).o (elemAddr v_26 ((p_6.N).toNat * ((T13).o).size)) x) (fun x => .row (T13).o 29 v_26 (Sl.set x_21.Cells p_6.N x)), .cell (elemAddr v_26 ((p_6.N).toNat * ((T13).o).size)) [.i x_34.Kind, .i 0, .i x_34.Block], .hole (fun x => .elem O11 (elemAddr v_2 ((i_19).toNat * (O11).size)) x) (fun x => .row O11 45 v_2 (Sl.set x_3 i_19 x)), .cell (elemAddr v_2 ((i_19).toNat * (O11).size)) [.bool x_21.Live, v_26, v_28, v_30], .row ((tInt .i64)).o 3 v_28 x_21.Readers, .row (tBool).o 4 v_30 x_21.Writer, .cell a_1 [v_2, .i used_4], .cell c_8 [.i p_6.Kind, .i p_6.N, .i p_6.Block]]) 1 pi2 (pe_add v_26 ((p_6.N).toNat * ((T13).o).size) 1) rfl rfl ⟨rfl, trivial⟩ rfl rfl rfl rfl rfl ?_)
   refine ⟨.inl (.inl rfl), ?_⟩
   refine JA_done (by kernel_rfl) ?_
   refine J_put (T := (T13).o) (i := p_6.N) (s := x_21.Cells) (s' := (Sl.set x_21.Cells p_6.N (⟨x_34.Kind, 0, x_34.Block⟩ : Gmem_Value))) (A := []) (C := [.hole (fun x => .elem O11 (elemAddr v_2 ((i_19).toNat * (O11).size)) x) (fun x => .row O11 45 v_2 (Sl.set x_3 i_19 x)), .cell (elemAddr v_2 ((i_19).toNat * (O11).size)) [.bool x_21.Live, v_26, v_28, v_30], .row ((tInt .i64)).o 3 v_28 x_21.Readers, .row (tBool).o 4 v_30 x_21.Writer, .cell a_1 [v_2, .i used_4], .cell c_8 [.i p_6.Kind, .i p_6.N, .i p_6.Block]]) (⟨x_34.Kind, 0, x_34.Block⟩ : Gmem_Value) () trivial rfl rfl rfl ?_
   refine J_select (PV' := [.hole (fun x => .elem O11 (elemAddr v_2 ((i_19).toNat * (O11).size)) x) (fun x => .row O11 45 v_2 (Sl.set x_3 i_19 x)), .cell (elemAddr v_2 ((i_19).toNat * (O11).size)) [.bool x_21.Live, v_26, v_28, v_30], .row (T13).o 29 v_26 (Sl.set x_21.Cells p_6.N (⟨x_34.Kind, 0, x_34.Block⟩ : Gmem_Value)), .row ((tInt .i64)).o 3 v_28 x_21.Readers, .row (tBool).o 4 v_30 x_21.Writer, .cell a_1 [v_2, .i used_4], .cell c_8 [.i p_6.Kind, .i p_6.N, .i p_6.Block]]) [1, 2, 0, 3, 4, 5, 6] (by decide) rfl ?_
   refine J_put (T := O11) (i := i_19) (s := x_3) (s' := (Sl.set x_3 i_19 (⟨x_21.Live, (Sl.set x_21.Cells p_6.N (⟨x_34.Kind, 0, x_34.Block⟩ : Gmem_Value)), x_21.Readers, x_21.Writer⟩ : Gmem_Block))) (A := [.row (T13).o 29 v_26 (Sl.set x_21.Cells p_6.N (⟨x_34.Kind, 0, x_34.Block⟩ : Gmem_Value)), .row ((tInt .i64)).o 3 v_28 x_21.Readers, .row (tBool).o 4 v_30 x_21.Writer]) (C := [.cell a_1 [v_2, .i used_4], .cell c_8 [.i p_6.Kind, .i p_6.N, .i p_6.Block]]) (⟨x_21.Live, (Sl.set x_21.Cells p_6.N (⟨x_34.Kind, 0, x_34.Block⟩ : Gmem_Value)), x_21.Readers, x_21.Writer⟩ : Gmem_Block) ((), v_26, v_28, v_30) ⟨trivial, trivial, trivial, trivial⟩ rfl rfl rfl ?_
   refine J_select (PV' := [.cell a_1 [v_2, .i used_4], .row O11 45 v_2 (Sl.set x_3 i_19 (⟨x_21.Live, (Sl.set x_21.Cells p_6.N (⟨x_34.Kind, 0, x_34.Block⟩ : Gmem_Value)), x_21.Readers, x_21.Writer⟩ : Gmem_Block))]) [1, 0] (by decide) rfl ?_
   refine J_cut_end _ ?_ ⟨rfl, rfl, rfl, rfl⟩ trivial
   exact ⟨rfl, trivial⟩
  ·refine J_skip ?_
   refine J_select (PV' := [.cell a_1 [v_2, .i used_4], .row O11 45 v_2 x_3]) [1, 0] (by decide) rfl ?_
   refine J_cut_end _ ?_ ⟨rfl, rfl, rfl, rfl⟩ trivial
   exact ⟨rfl, trivial⟩
 ·rintro y_40 _ _ b s_43 _ ⟨rfl, ⟨rfl, rfl, rfl⟩⟩
  refine J_then ?_
  refine J_seq ?_
  refine J_region ?_
  refine JL_op rfl (op_read rfl rfl (r_move (v := .i r_10.2) rfl) ?_)
  refine JL_op rfl (op_read rfl rfl (r_assign (v := .i r_10.2) rfl) ?_)
  refine JL_nil ?_
  refine J_then ?_
  refine J_ret ?_
  exact J_returnV1 (PV' := [.cell a_1 [v_2, .i used_4], .row O11 45 v_2 y_40]) rfl rv_tmp [0, 1] (by decide) rfl ⟨rfl, rfl, rfl⟩
end Go.Px
