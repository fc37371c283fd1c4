/- The calls do what the models say, part 6. -/
import Derived.Test.YthpibdcdeopneaaMd
import Derived.Test.YthpibdcdeopneaaRf1
import Derived.Test.YthpibdcdeopneaaRf2
namespace Go.Px
open Go.Proofs
set_option linter.unusedVariables false
def slices_Clone_post (σ0 : FS) (v_1 : Value) (x_2 : Sl Gmem_Value) (r : (Sl Gmem_Value)) (σ : FS) (PV : List Priv) (v : Value) : Prop :=
  ∃ (w0 : Value), σ0 = σ ∧ w0 = v ∧ PV = [.row (t_Gmem_Value).o 29 w0 r, .row (t_Gmem_Value).o 29 v_1 x_2]
set_option maxRecDepth 100000 in
theorem slices_Clone_ref (s : Start) (σ : FS) (v_1 : Value) (x_2 : Sl Gmem_Value) (hs : Pre s σ [.row (t_Gmem_Value).o 29 v_1 x_2]) (r : (Sl Gmem_Value)) (hr : slices_Clone x_2 = some r) : Does Try.prog 26 [v_1] s σ (slices_Clone_post σ v_1 x_2 r) := by
  unfold slices_Clone at hr
  refine does_of_J Try.func26 rfl (n := 8) rfl rfl hs hr ?_
  refine J_seq ?_
  refine J_region ?_
  refine JL_op rfl (op_read rfl rfl (r_assign (v := .slice none 0 0) rfl) ?_)
  refine JL_nil ?_
  refine J_then ?_
  refine J_seq ?_
  refine J_seq ?_
  refine J_region ?_
  refine JL_op rfl (op_read rfl rfl (r_move (v := v_1) rfl) ?_)
  refine JL_op rfl (op_read rfl rfl (r_eqnil_row (v := v_1) 0 Try.pu43 rfl rfl rfl) ?_)
  refine JL_nil ?_
  refine J_then ?_
  refine J_cond rfl (fun hc_3 => ?_) (fun hc_3 => ?_)
  · refine J_seq ?_
    refine J_region ?_
    refine JL_op rfl (op_read rfl rfl (r_assign (v := .slice none 0 0) rfl) ?_)
    refine JL_nil ?_
    refine J_then ?_
    refine J_ret ?_
    refine J_then_ret ?_
    refine J_nil_row (t_Gmem_Value).o 29 ?_
    exact J_returnV1 (PV' := [.row (t_Gmem_Value).o 29 (.slice none 0 0) (⟨[], false⟩ : Sl Gmem_Value), .row (t_Gmem_Value).o 29 v_1 x_2]) rfl rv_tmp [0, 1] (by decide) rfl ⟨(.slice none 0 0), rfl, rfl, rfl⟩
  · refine J_skip ?_
    refine J_then ?_
    refine J_seq ?_
    refine J_region ?_
    refine JL_op rfl (op_buildSlice (T := (t_Gmem_Value).o) (vs := []) (xs := []) [] [.row (t_Gmem_Value).o 29 v_1 x_2] rfl Try.pu43 Try.pi29 rfl rfl rfl rfl rfl rfl relsO_nil ?_)
    intro v_5
    refine JL_op rfl (op_read rfl rfl (r_move (v := v_1) rfl) ?_)
    refine JL_op rfl (op_append (v := v_5) (u := v_1) (T := (t_Gmem_Value).o) (ts := x_2.xs) [] [.row (t_Gmem_Value).o 29 v_1 x_2] rfl Try.pu43 Try.pi29 rfl rfl rfl rfl rfl rfl (source_copy (s := x_2) 1 rfl) ?_)
    intro s_8 v_7 hs_9
    refine JL_op rfl (op_read rfl rfl (r_assign (v := v_7) rfl) ?_)
    refine JL_nil ?_
    refine J_then ?_
    refine J_ret ?_
    exact J_returnV1 (PV' := [.row (t_Gmem_Value).o 29 v_7 s_8, .row (t_Gmem_Value).o 29 v_1 x_2]) rfl rv_tmp [0, 1] (by decide) rfl ⟨v_7, rfl, rfl, rfl⟩
def slices_Clone_v2_post (σ0 : FS) (v_1 : Value) (x_2 : Sl Int) (r : (Sl Int)) (σ : FS) (PV : List Priv) (v : Value) : Prop :=
  ∃ (w0 : Value), σ0 = σ ∧ w0 = v ∧ PV = [.row ((tInt .i64)).o 3 w0 r, .row ((tInt .i64)).o 3 v_1 x_2]
set_option maxRecDepth 100000 in
theorem slices_Clone_v2_ref (s : Start) (σ : FS) (v_1 : Value) (x_2 : Sl Int) (hs : Pre s σ [.row ((tInt .i64)).o 3 v_1 x_2]) (r : (Sl Int)) (hr : slices_Clone_v2 x_2 = some r) : Does Try.prog 27 [v_1] s σ (slices_Clone_v2_post σ v_1 x_2 r) := by
  unfold slices_Clone_v2 at hr
  refine does_of_J Try.func27 rfl (n := 8) rfl rfl hs hr ?_
  refine J_seq ?_
  refine J_region ?_
  refine JL_op rfl (op_read rfl rfl (r_assign (v := .slice none 0 0) rfl) ?_)
  refine JL_nil ?_
  refine J_then ?_
  refine J_seq ?_
  refine J_seq ?_
  refine J_region ?_
  refine JL_op rfl (op_read rfl rfl (r_move (v := v_1) rfl) ?_)
  refine JL_op rfl (op_read rfl rfl (r_eqnil_row (v := v_1) 0 Try.pu36 rfl rfl rfl) ?_)
  refine JL_nil ?_
  refine J_then ?_
  refine J_cond rfl (fun hc_3 => ?_) (fun hc_3 => ?_)
  · refine J_seq ?_
    refine J_region ?_
    refine JL_op rfl (op_read rfl rfl (r_assign (v := .slice none 0 0) rfl) ?_)
    refine JL_nil ?_
    refine J_then ?_
    refine J_ret ?_
    refine J_then_ret ?_
    refine J_nil_row ((tInt .i64)).o 3 ?_
    exact J_returnV1 (PV' := [.row ((tInt .i64)).o 3 (.slice none 0 0) (⟨[], false⟩ : Sl Int), .row ((tInt .i64)).o 3 v_1 x_2]) rfl rv_tmp [0, 1] (by decide) rfl ⟨(.slice none 0 0), rfl, rfl, rfl⟩
  · refine J_skip ?_
    refine J_then ?_
    refine J_seq ?_
    refine J_region ?_
    refine JL_op rfl (op_buildSlice (T := ((tInt .i64)).o) (vs := []) (xs := []) [] [.row ((tInt .i64)).o 3 v_1 x_2] rfl Try.pu36 Try.pi3 rfl rfl rfl rfl rfl rfl relsO_nil ?_)
    intro v_5
    refine JL_op rfl (op_read rfl rfl (r_move (v := v_1) rfl) ?_)
    refine JL_op rfl (op_append (v := v_5) (u := v_1) (T := ((tInt .i64)).o) (ts := x_2.xs) [] [.row ((tInt .i64)).o 3 v_1 x_2] rfl Try.pu36 Try.pi3 rfl rfl rfl rfl rfl rfl (source_copy (s := x_2) 1 rfl) ?_)
    intro s_8 v_7 hs_9
    refine JL_op rfl (op_read rfl rfl (r_assign (v := v_7) rfl) ?_)
    refine JL_nil ?_
    refine J_then ?_
    refine J_ret ?_
    exact J_returnV1 (PV' := [.row ((tInt .i64)).o 3 v_7 s_8, .row ((tInt .i64)).o 3 v_1 x_2]) rfl rv_tmp [0, 1] (by decide) rfl ⟨v_7, rfl, rfl, rfl⟩
def slices_Clone_v3_post (σ0 : FS) (v_1 : Value) (x_2 : Sl Bool) (r : (Sl Bool)) (σ : FS) (PV : List Priv) (v : Value) : Prop :=
  ∃ (w0 : Value), σ0 = σ ∧ w0 = v ∧ PV = [.row (tBool).o 4 w0 r, .row (tBool).o 4 v_1 x_2]
set_option maxRecDepth 100000 in
theorem slices_Clone_v3_ref (s : Start) (σ : FS) (v_1 : Value) (x_2 : Sl Bool) (hs : Pre s σ [.row (tBool).o 4 v_1 x_2]) (r : (Sl Bool)) (hr : slices_Clone_v3 x_2 = some r) : Does Try.prog 28 [v_1] s σ (slices_Clone_v3_post σ v_1 x_2 r) := by
  unfold slices_Clone_v3 at hr
  refine does_of_J Try.func28 rfl (n := 8) rfl rfl hs hr ?_
  refine J_seq ?_
  refine J_region ?_
  refine JL_op rfl (op_read rfl rfl (r_assign (v := .slice none 0 0) rfl) ?_)
  refine JL_nil ?_
  refine J_then ?_
  refine J_seq ?_
  refine J_seq ?_
  refine J_region ?_
  refine JL_op rfl (op_read rfl rfl (r_move (v := v_1) rfl) ?_)
  refine JL_op rfl (op_read rfl rfl (r_eqnil_row (v := v_1) 0 Try.pu23 rfl rfl rfl) ?_)
  refine JL_nil ?_
  refine J_then ?_
  refine J_cond rfl (fun hc_3 => ?_) (fun hc_3 => ?_)
  · refine J_seq ?_
    refine J_region ?_
    refine JL_op rfl (op_read rfl rfl (r_assign (v := .slice none 0 0) rfl) ?_)
    refine JL_nil ?_
    refine J_then ?_
    refine J_ret ?_
    refine J_then_ret ?_
    refine J_nil_row (tBool).o 4 ?_
    exact J_returnV1 (PV' := [.row (tBool).o 4 (.slice none 0 0) (⟨[], false⟩ : Sl Bool), .row (tBool).o 4 v_1 x_2]) rfl rv_tmp [0, 1] (by decide) rfl ⟨(.slice none 0 0), rfl, rfl, rfl⟩
  · refine J_skip ?_
    refine J_then ?_
    refine J_seq ?_
    refine J_region ?_
    refine JL_op rfl (op_buildSlice (T := (tBool).o) (vs := []) (xs := []) [] [.row (tBool).o 4 v_1 x_2] rfl Try.pu23 Try.pi4 rfl rfl rfl rfl rfl rfl relsO_nil ?_)
    intro v_5
    refine JL_op rfl (op_read rfl rfl (r_move (v := v_1) rfl) ?_)
    refine JL_op rfl (op_append (v := v_5) (u := v_1) (T := (tBool).o) (ts := x_2.xs) [] [.row (tBool).o 4 v_1 x_2] rfl Try.pu23 Try.pi4 rfl rfl rfl rfl rfl rfl (source_copy (s := x_2) 1 rfl) ?_)
    intro s_8 v_7 hs_9
    refine JL_op rfl (op_read rfl rfl (r_assign (v := v_7) rfl) ?_)
    refine JL_nil ?_
    refine J_then ?_
    refine J_ret ?_
    exact J_returnV1 (PV' := [.row (tBool).o 4 v_7 s_8, .row (tBool).o 4 v_1 x_2]) rfl rv_tmp [0, 1] (by decide) rfl ⟨v_7, rfl, rfl, rfl⟩
def mem_Memory_Blocks_post (σ0 : FS) (a_1 : Addr) (v_2 : Value) (x_3 : Sl Gmem_Block) (used_4 : Int) (r : (Sl Gmem_Block)) (σ : FS) (PV : List Priv) (v : Value) : Prop :=
  ∃ (w0 : Value), σ0 = σ ∧ w0 = v ∧ PV = [.row o_Gmem_Block 45 w0 r, .cell a_1 [v_2, .int .i64 used_4], .row o_Gmem_Block 45 v_2 x_3]
set_option maxRecDepth 100000 in
theorem mem_Memory_Blocks_ref (s : Start) (σ : FS) (a_1 : Addr) (v_2 : Value) (x_3 : Sl Gmem_Block) (used_4 : Int) (hs : Pre s σ [.cell a_1 [v_2, .int .i64 used_4], .row o_Gmem_Block 45 v_2 x_3]) (r : (Sl Gmem_Block)) (hr : mem_Memory_Blocks x_3 used_4 = some r) : Does Try.prog 17 [.pointer (some (Addr.add a_1 0))] s σ (mem_Memory_Blocks_post σ a_1 v_2 x_3 used_4 r) := by
  unfold mem_Memory_Blocks at hr
  refine does_of_J Try.func17 rfl (n := 34) rfl rfl hs hr ?_
  refine J_seq ?_
  refine J_region ?_
  refine JL_op rfl (op_read rfl rfl (r_assign (v := .slice none 0 0) rfl) ?_)
  refine JL_nil ?_
  refine J_then ?_
  refine J_seq ?_
  refine J_seq ?_
  refine J_region ?_
  refine JL_op rfl (op_read rfl rfl (r_move (v := .pointer (some (Addr.add a_1 0))) rfl) ?_)
  refine JL_op rfl (op_read rfl rfl (r_eqnil_ptr Try.pu25 rfl rfl rfl) ?_)
  refine JL_nil ?_
  refine J_then ?_
  refine J_cond_f rfl ?_
  refine J_skip ?_
  refine J_then ?_
  refine J_seq ?_
  refine J_region ?_
  refine JL_op rfl (op_read rfl rfl (r_assign (v := .slice none 0 0) rfl) ?_)
  refine JL_nil ?_
  refine J_then ?_
  refine J_seq ?_
  refine J_seq ?_
  refine J_region ?_
  refine JL_op rfl (op_read rfl rfl (r_move (v := .pointer (some (Addr.add a_1 0))) rfl) ?_)
  refine JL_op rfl (op_read rfl rfl (r_nilCheck (a := (Addr.add a_1 0)) rfl) ?_)
  refine JL_op rfl (op_read rfl rfl (r_fieldAddr (r := Addr.add a_1 0) Try.pu64 (f := Try.pf64.getD 0 default) rfl Try.pi41 (by decide) rfl (Addr.add_add _ _ _)) ?_)
  refine JL_op rfl (op_read rfl rfl (r_load_priv (a := a_1) (off := 0) (cs' := [v_2]) (v := v_2) 0 Try.pu41 Try.pi41 rfl rfl rfl rfl (by decide) rfl) ?_)
  refine JL_op rfl (op_read rfl rfl (r_len_row (v := v_2) 1 Try.pu41 rfl rfl) ?_)
  refine JL_op rfl (op_read rfl rfl (r_move (v := .int .i64 0) rfl) ?_)
  refine JL_nil ?_
  refine J_then ?_
  refine J_block ?_
  refine J_nil_row o_Gmem_Block 45 ?_
  refine J_select (PV' := [.row o_Gmem_Block 45 (.slice none 0 0) (⟨[], false⟩ : Sl Gmem_Block), .row o_Gmem_Block 45 v_2 x_3, .cell a_1 [v_2, .int .i64 used_4]]) [0, 2, 1] (by decide) rfl ?_
  refine J_loop (fun (y : (Sl Gmem_Block) × Int) L τ PV => ∃ (w0 : Value), σ = τ ∧ L = [(3, w0), (11, v_2), (12, .int .i64 x_3.len), (13, .int .i64 y.2)] ∧ PV = [.row o_Gmem_Block 45 w0 y.1, .row o_Gmem_Block 45 v_2 x_3, .cell a_1 [v_2, .int .i64 used_4]]) (fun (y : (Sl Gmem_Block)) e L τ PV => e = .exit 0 ∧ (∃ (w0 : Value), σ = τ ∧ L = [(3, w0)] ∧ PV = [.row o_Gmem_Block 45 w0 y, .cell a_1 [v_2, .int .i64 used_4], .row o_Gmem_Block 45 v_2 x_3])) _ ?_ ⟨(.slice none 0 0), rfl, rfl, rfl⟩ ?_ ?_
  · exact ⟨rfl, rfl, rfl, rfl, trivial⟩
  · rintro x_6 _ b s_11 _ ⟨v_10, rfl, rfl, rfl⟩
    unfold mem_Memory_Blocks_L1
    refine J_seq ?_
    refine J_region ?_
    refine JL_op rfl (op_read rfl rfl (r_lss rfl rfl) ?_)
    refine JL_nil ?_
    refine J_then ?_
    refine J_seq ?_
    refine J_cond rfl (fun hc_12 => ?_) (fun hc_12 => ?_)
    · refine J_skip ?_
      refine J_then ?_
      refine J_seq ?_
      refine J_block ?_
      refine J_seq ?_
      refine J_region ?_
      refine J_bind fun x_13 hx_14 => ?_
      refine JL_op rfl (op_read rfl rfl (r_index_row (v := v_2) (T := o_Gmem_Block) (q := x_13) 1 Try.pu41 Try.pi45 rfl rfl rfl rfl hx_14) ?_)
      refine J_select (PV' := [.row o_Gmem_Block 45 v_2 x_3, .row o_Gmem_Block 45 v_10 x_6.1, .cell a_1 [v_2, .int .i64 used_4]]) [1, 0, 2] (by decide) rfl ?_
      refine J_take (T := o_Gmem_Block) (i := x_6.2) hx_14 fun u_16 hu_15 => ?_
      obtain ⟨_, v_18, v_20, v_22⟩ := u_16
      change J _ _ _ _ _ _ _ _ [.hole (fun x => .elem o_Gmem_Block (elemAddr v_2 ((x_6.2).toNat * (o_Gmem_Block).size)) x) (fun x => .row o_Gmem_Block 45 v_2 (Sl.set x_3 x_6.2 x)), .cell (elemAddr v_2 ((x_6.2).toNat * (o_Gmem_Block).size)) [.bool x_13.Live, v_18, v_20, v_22], .row (t_Gmem_Value).o 29 v_18 x_13.Cells, .row ((tInt .i64)).o 3 v_20 x_13.Readers, .row (tBool).o 4 v_22 x_13.Writer, .row o_Gmem_Block 45 v_10 x_6.1, .cell a_1 [v_2, .int .i64 used_4]]
      refine JL_op rfl (op_read rfl rfl (r_load_priv (a := (elemAddr v_2 ((x_6.2).toNat * (o_Gmem_Block).size))) (off := 0) (cs' := [.bool x_13.Live, v_18, v_20, v_22]) (v := .agg #[.bool x_13.Live, v_18, v_20, v_22]) 1 Try.pu45 Try.pi45 (pe_add v_2 ((x_6.2).toNat * (o_Gmem_Block).size) 0) rfl rfl rfl (by decide) rfl) ?_)
      refine JL_op rfl (op_alloc (cs := [.bool false, .slice none 0 0, .slice none 0 0, .slice none 0 0]) rfl Try.pi45 rfl rfl ?_)
      intro c_24
      refine J_row_one 3 rfl fun h_26 => ?_
      refine J_row_one 4 rfl fun h_27 => ?_
      refine J_row_one 5 rfl fun h_28 => ?_
      refine JL_op rfl (op_store_priv (a := c_24) (off := 0) (vs := [.bool x_13.Live, v_18, v_20, v_22]) (cs' := [.bool x_13.Live, v_18, v_20, v_22]) (PV' := [.cell c_24 [.bool x_13.Live, v_18, v_20, v_22], .hole (fun x => .elem o_Gmem_Block (elemAddr v_2 ((x_6.2).toNat * (o_Gmem_Block).size)) x) (fun x => .row o_Gmem_Block 45 v_2 (Sl.set x_3 x_6.2 x)), .cell (elemAddr v_2 ((x_6.2).toNat * (o_Gmem_Block).size)) [.bool x_13.Live, v_18, v_20, v_22], .row (t_Gmem_Value).o 29 v_18 x_13.Cells, .row ((tInt .i64)).o 3 v_20 x_13.Readers, .row (tBool).o 4 v_22 x_13.Writer, .row o_Gmem_Block 45 v_10 x_6.1, .cell a_1 [v_2, .int .i64 used_4]]) 0 Try.pi45 rfl rfl rfl ⟨rfl, h_26, h_27, h_28, trivial⟩ rfl rfl rfl rfl rfl ?_)
      refine JL_nil ?_
      refine J_then ?_
      refine J_region_any 14 [.cell c_24 [.bool x_13.Live, v_18, v_20, v_22], .cell (elemAddr v_2 ((x_6.2).toNat * (o_Gmem_Block).size)) [.bool x_13.Live, v_18, v_20, v_22], .row (t_Gmem_Value).o 29 v_18 x_13.Cells, .row ((tInt .i64)).o 3 v_20 x_13.Readers, .row (tBool).o 4 v_22 x_13.Writer, .cell a_1 [v_2, .int .i64 used_4]] Try.mixed (by kernel_rfl) fun hns => ?_
      have hS_29 : HeldOK σ [.cell c_24 [.bool x_13.Live, v_18, v_20, v_22], .cell (elemAddr v_2 ((x_6.2).toNat * (o_Gmem_Block).size)) [.bool x_13.Live, v_18, v_20, v_22], .row (t_Gmem_Value).o 29 v_18 x_13.Cells, .row ((tInt .i64)).o 3 v_20 x_13.Readers, .row (tBool).o 4 v_22 x_13.Writer, .cell a_1 [v_2, .int .i64 used_4]] σ [.cell c_24 [.bool x_13.Live, v_18, v_20, v_22], .hole (fun x => .elem o_Gmem_Block (elemAddr v_2 ((x_6.2).toNat * (o_Gmem_Block).size)) x) (fun x => .row o_Gmem_Block 45 v_2 (Sl.set x_3 x_6.2 x)), .cell (elemAddr v_2 ((x_6.2).toNat * (o_Gmem_Block).size)) [.bool x_13.Live, v_18, v_20, v_22], .row (t_Gmem_Value).o 29 v_18 x_13.Cells, .row ((tInt .i64)).o 3 v_20 x_13.Readers, .row (tBool).o 4 v_22 x_13.Writer, .row o_Gmem_Block 45 v_10 x_6.1, .cell a_1 [v_2, .int .i64 used_4]] := HeldOK.same [0, 2, 3, 4, 5, 7] (by decide) rfl
      refine JA_takep 0 rfl hns (by kernel_rfl) (by kernel_rfl) rfl (.inr hS_29) rfl rfl rfl (r_move (v := v_10) rfl) ?_
      refine JA_takep 1 rfl hns (by kernel_rfl) (by kernel_rfl) rfl (.inr hS_29) rfl rfl rfl (r_fieldAddr (r := Addr.add c_24 0) Try.pu45 (f := Try.pf45.getD 0 default) rfl Try.pi4 (by decide) rfl (Addr.add_add _ _ _)) ?_
      refine JA_take 2 rfl hns (by kernel_rfl) (by kernel_rfl) (by kernel_rfl) rfl (by kernel_rfl) hS_29 rfl rfl rfl (r_load_priv (a := c_24) (off := 0) (cs' := [.bool x_13.Live]) (v := .bool x_13.Live) 0 Try.pu4 Try.pi4 rfl rfl rfl rfl (by decide) rfl) ?_
      refine JA_takep 3 rfl hns (by kernel_rfl) (by kernel_rfl) rfl (.inr hS_29) rfl rfl rfl (r_fieldAddr (r := Addr.add c_24 1) Try.pu45 (f := Try.pf45.getD 1 default) rfl Try.pi43 (by decide) rfl (Addr.add_add _ _ _)) ?_
      refine JA_take 4 rfl hns (by kernel_rfl) (by kernel_rfl) (by kernel_rfl) rfl (by kernel_rfl) hS_29 rfl rfl rfl (r_load_priv (a := c_24) (off := 1) (cs' := [v_18]) (v := v_18) 0 Try.pu43 Try.pi43 rfl rfl rfl rfl (by decide) rfl) ?_
      refine JA_takep 6 rfl hns (by kernel_rfl) (by kernel_rfl) rfl (.inr hS_29) rfl rfl rfl (r_fieldAddr (r := Addr.add c_24 2) Try.pu45 (f := Try.pf45.getD 2 default) rfl Try.pi36 (by decide) rfl (Addr.add_add _ _ _)) ?_
      refine JA_take 7 rfl hns (by kernel_rfl) (by kernel_rfl) (by kernel_rfl) rfl (by kernel_rfl) hS_29 rfl rfl rfl (r_load_priv (a := c_24) (off := 2) (cs' := [v_20]) (v := v_20) 0 Try.pu36 Try.pi36 rfl rfl rfl rfl (by decide) rfl) ?_
      refine JA_takep 9 rfl hns (by kernel_rfl) (by kernel_rfl) rfl (.inr hS_29) rfl rfl rfl (r_fieldAddr (r := Addr.add c_24 3) Try.pu45 (f := Try.pf45.getD 3 default) rfl Try.pi23 (by decide) rfl (Addr.add_add _ _ _)) ?_
      refine JA_take 10 rfl hns (by kernel_rfl) (by kernel_rfl) (by kernel_rfl) rfl (by kernel_rfl) hS_29 rfl rfl rfl (r_load_priv (a := c_24) (off := 3) (cs' := [v_22]) (v := v_22) 0 Try.pu23 Try.pi23 rfl rfl rfl rfl (by decide) rfl) ?_
      refine J_select (PV' := [.row (t_Gmem_Value).o 29 v_18 x_13.Cells, .cell c_24 [.bool x_13.Live, v_18, v_20, v_22], .hole (fun x => .elem o_Gmem_Block (elemAddr v_2 ((x_6.2).toNat * (o_Gmem_Block).size)) x) (fun x => .row o_Gmem_Block 45 v_2 (Sl.set x_3 x_6.2 x)), .cell (elemAddr v_2 ((x_6.2).toNat * (o_Gmem_Block).size)) [.bool x_13.Live, v_18, v_20, v_22], .row ((tInt .i64)).o 3 v_20 x_13.Readers, .row (tBool).o 4 v_22 x_13.Writer, .row o_Gmem_Block 45 v_10 x_6.1, .cell a_1 [v_2, .int .i64 used_4]]) [3, 0, 1, 2, 4, 5, 6, 7] (by decide) rfl ?_
      have hS_37 : HeldOK σ [.cell c_24 [.bool x_13.Live, v_18, v_20, v_22], .cell (elemAddr v_2 ((x_6.2).toNat * (o_Gmem_Block).size)) [.bool x_13.Live, v_18, v_20, v_22], .row (t_Gmem_Value).o 29 v_18 x_13.Cells, .row ((tInt .i64)).o 3 v_20 x_13.Readers, .row (tBool).o 4 v_22 x_13.Writer, .cell a_1 [v_2, .int .i64 used_4]] σ [.row (t_Gmem_Value).o 29 v_18 x_13.Cells, .cell c_24 [.bool x_13.Live, v_18, v_20, v_22], .hole (fun x => .elem o_Gmem_Block (elemAddr v_2 ((x_6.2).toNat * (o_Gmem_Block).size)) x) (fun x => .row o_Gmem_Block 45 v_2 (Sl.set x_3 x_6.2 x)), .cell (elemAddr v_2 ((x_6.2).toNat * (o_Gmem_Block).size)) [.bool x_13.Live, v_18, v_20, v_22], .row ((tInt .i64)).o 3 v_20 x_13.Readers, .row (tBool).o 4 v_22 x_13.Writer, .row o_Gmem_Block 45 v_10 x_6.1, .cell a_1 [v_2, .int .i64 used_4]] := HeldOK.same [1, 3, 0, 4, 5, 7] (by decide) rfl
      refine JA_op (i := 5) (by kernel_rfl) rfl rfl (op_call (f := 26) (fn := Try.f26) (args := [v_18]) (post := slices_Clone_post σ v_18 x_13.Cells) [.row (t_Gmem_Value).o 29 v_18 x_13.Cells] [.cell c_24 [.bool x_13.Live, v_18, v_20, v_22], .hole (fun x => .elem o_Gmem_Block (elemAddr v_2 ((x_6.2).toNat * (o_Gmem_Block).size)) x) (fun x => .row o_Gmem_Block 45 v_2 (Sl.set x_3 x_6.2 x)), .cell (elemAddr v_2 ((x_6.2).toNat * (o_Gmem_Block).size)) [.bool x_13.Live, v_18, v_20, v_22], .row ((tInt .i64)).o 3 v_20 x_13.Readers, .row (tBool).o 4 v_22 x_13.Writer, .row o_Gmem_Block 45 v_10 x_6.1, .cell a_1 [v_2, .int .i64 used_4]] rfl rfl rfl Try.func26 Try.pn26 rfl rfl (fun y st hy hpre => slices_Clone_ref st σ v_18 x_13.Cells hpre y hy) ?_)
      intro r_30 v_32 s_35 PV_33 hr_31 hle_36 hp_34
      obtain ⟨v_39, rfl, rfl, rfl⟩ := hp_34
      have hS_40 : HeldOK σ [.cell c_24 [.bool x_13.Live, v_18, v_20, v_22], .cell (elemAddr v_2 ((x_6.2).toNat * (o_Gmem_Block).size)) [.bool x_13.Live, v_18, v_20, v_22], .row (t_Gmem_Value).o 29 v_18 x_13.Cells, .row ((tInt .i64)).o 3 v_20 x_13.Readers, .row (tBool).o 4 v_22 x_13.Writer, .cell a_1 [v_2, .int .i64 used_4]] σ [.row (t_Gmem_Value).o 29 v_39 r_30, .row (t_Gmem_Value).o 29 v_18 x_13.Cells, .cell c_24 [.bool x_13.Live, v_18, v_20, v_22], .hole (fun x => .elem o_Gmem_Block (elemAddr v_2 ((x_6.2).toNat * (o_Gmem_Block).size)) x) (fun x => .row o_Gmem_Block 45 v_2 (Sl.set x_3 x_6.2 x)), .cell (elemAddr v_2 ((x_6.2).toNat * (o_Gmem_Block).size)) [.bool x_13.Live, v_18, v_20, v_22], .row ((tInt .i64)).o 3 v_20 x_13.Readers, .row (tBool).o 4 v_22 x_13.Writer, .row o_Gmem_Block 45 v_10 x_6.1, .cell a_1 [v_2, .int .i64 used_4]] := HeldOK.same [2, 4, 1, 5, 6, 8] (by decide) rfl
      refine ⟨.inr hS_40, ?_⟩
      refine J_select (PV' := [.row ((tInt .i64)).o 3 v_20 x_13.Readers, .row (t_Gmem_Value).o 29 v_39 r_30, .row (t_Gmem_Value).o 29 v_18 x_13.Cells, .cell c_24 [.bool x_13.Live, v_18, v_20, v_22], .hole (fun x => .elem o_Gmem_Block (elemAddr v_2 ((x_6.2).toNat * (o_Gmem_Block).size)) x) (fun x => .row o_Gmem_Block 45 v_2 (Sl.set x_3 x_6.2 x)), .cell (elemAddr v_2 ((x_6.2).toNat * (o_Gmem_Block).size)) [.bool x_13.Live, v_18, v_20, v_22], .row (tBool).o 4 v_22 x_13.Writer, .row o_Gmem_Block 45 v_10 x_6.1, .cell a_1 [v_2, .int .i64 used_4]]) [5, 0, 1, 2, 3, 4, 6, 7, 8] (by decide) rfl ?_
      have hS_48 : HeldOK σ [.cell c_24 [.bool x_13.Live, v_18, v_20, v_22], .cell (elemAddr v_2 ((x_6.2).toNat * (o_Gmem_Block).size)) [.bool x_13.Live, v_18, v_20, v_22], .row (t_Gmem_Value).o 29 v_18 x_13.Cells, .row ((tInt .i64)).o 3 v_20 x_13.Readers, .row (tBool).o 4 v_22 x_13.Writer, .cell a_1 [v_2, .int .i64 used_4]] σ [.row ((tInt .i64)).o 3 v_20 x_13.Readers, .row (t_Gmem_Value).o 29 v_39 r_30, .row (t_Gmem_Value).o 29 v_18 x_13.Cells, .cell c_24 [.bool x_13.Live, v_18, v_20, v_22], .hole (fun x => .elem o_Gmem_Block (elemAddr v_2 ((x_6.2).toNat * (o_Gmem_Block).size)) x) (fun x => .row o_Gmem_Block 45 v_2 (Sl.set x_3 x_6.2 x)), .cell (elemAddr v_2 ((x_6.2).toNat * (o_Gmem_Block).size)) [.bool x_13.Live, v_18, v_20, v_22], .row (tBool).o 4 v_22 x_13.Writer, .row o_Gmem_Block 45 v_10 x_6.1, .cell a_1 [v_2, .int .i64 used_4]] := HeldOK.same [3, 5, 2, 0, 6, 8] (by decide) rfl
      refine JA_op (i := 8) (by kernel_rfl) rfl rfl (op_call (f := 27) (fn := Try.f27) (args := [v_20]) (post := slices_Clone_v2_post σ v_20 x_13.Readers) [.row ((tInt .i64)).o 3 v_20 x_13.Readers] [.row (t_Gmem_Value).o 29 v_39 r_30, .row (t_Gmem_Value).o 29 v_18 x_13.Cells, .cell c_24 [.bool x_13.Live, v_18, v_20, v_22], .hole (fun x => .elem o_Gmem_Block (elemAddr v_2 ((x_6.2).toNat * (o_Gmem_Block).size)) x) (fun x => .row o_Gmem_Block 45 v_2 (Sl.set x_3 x_6.2 x)), .cell (elemAddr v_2 ((x_6.2).toNat * (o_Gmem_Block).size)) [.bool x_13.Live, v_18, v_20, v_22], .row (tBool).o 4 v_22 x_13.Writer, .row o_Gmem_Block 45 v_10 x_6.1, .cell a_1 [v_2, .int .i64 used_4]] rfl rfl rfl Try.func27 Try.pn27 rfl rfl (fun y st hy hpre => slices_Clone_v2_ref st σ v_20 x_13.Readers hpre y hy) ?_)
      intro r_41 v_43 s_46 PV_44 hr_42 hle_47 hp_45
      obtain ⟨v_50, rfl, rfl, rfl⟩ := hp_45
      have hS_51 : HeldOK σ [.cell c_24 [.bool x_13.Live, v_18, v_20, v_22], .cell (elemAddr v_2 ((x_6.2).toNat * (o_Gmem_Block).size)) [.bool x_13.Live, v_18, v_20, v_22], .row (t_Gmem_Value).o 29 v_18 x_13.Cells, .row ((tInt .i64)).o 3 v_20 x_13.Readers, .row (tBool).o 4 v_22 x_13.Writer, .cell a_1 [v_2, .int .i64 used_4]] σ [.row ((tInt .i64)).o 3 v_50 r_41, .row ((tInt .i64)).o 3 v_20 x_13.Readers, .row (t_Gmem_Value).o 29 v_39 r_30, .row (t_Gmem_Value).o 29 v_18 x_13.Cells, .cell c_24 [.bool x_13.Live, v_18, v_20, v_22], .hole (fun x => .elem o_Gmem_Block (elemAddr v_2 ((x_6.2).toNat * (o_Gmem_Block).size)) x) (fun x => .row o_Gmem_Block 45 v_2 (Sl.set x_3 x_6.2 x)), .cell (elemAddr v_2 ((x_6.2).toNat * (o_Gmem_Block).size)) [.bool x_13.Live, v_18, v_20, v_22], .row (tBool).o 4 v_22 x_13.Writer, .row o_Gmem_Block 45 v_10 x_6.1, .cell a_1 [v_2, .int .i64 used_4]] := HeldOK.same [4, 6, 3, 1, 7, 9] (by decide) rfl
      refine ⟨.inr hS_51, ?_⟩
      refine J_select (PV' := [.row (tBool).o 4 v_22 x_13.Writer, .row ((tInt .i64)).o 3 v_50 r_41, .row ((tInt .i64)).o 3 v_20 x_13.Readers, .row (t_Gmem_Value).o 29 v_39 r_30, .row (t_Gmem_Value).o 29 v_18 x_13.Cells, .cell c_24 [.bool x_13.Live, v_18, v_20, v_22], .hole (fun x => .elem o_Gmem_Block (elemAddr v_2 ((x_6.2).toNat * (o_Gmem_Block).size)) x) (fun x => .row o_Gmem_Block 45 v_2 (Sl.set x_3 x_6.2 x)), .cell (elemAddr v_2 ((x_6.2).toNat * (o_Gmem_Block).size)) [.bool x_13.Live, v_18, v_20, v_22], .row o_Gmem_Block 45 v_10 x_6.1, .cell a_1 [v_2, .int .i64 used_4]]) [7, 0, 1, 2, 3, 4, 5, 6, 8, 9] (by decide) rfl ?_
      have hS_59 : HeldOK σ [.cell c_24 [.bool x_13.Live, v_18, v_20, v_22], .cell (elemAddr v_2 ((x_6.2).toNat * (o_Gmem_Block).size)) [.bool x_13.Live, v_18, v_20, v_22], .row (t_Gmem_Value).o 29 v_18 x_13.Cells, .row ((tInt .i64)).o 3 v_20 x_13.Readers, .row (tBool).o 4 v_22 x_13.Writer, .cell a_1 [v_2, .int .i64 used_4]] σ [.row (tBool).o 4 v_22 x_13.Writer, .row ((tInt .i64)).o 3 v_50 r_41, .row ((tInt .i64)).o 3 v_20 x_13.Readers, .row (t_Gmem_Value).o 29 v_39 r_30, .row (t_Gmem_Value).o 29 v_18 x_13.Cells, .cell c_24 [.bool x_13.Live, v_18, v_20, v_22], .hole (fun x => .elem o_Gmem_Block (elemAddr v_2 ((x_6.2).toNat * (o_Gmem_Block).size)) x) (fun x => .row o_Gmem_Block 45 v_2 (Sl.set x_3 x_6.2 x)), .cell (elemAddr v_2 ((x_6.2).toNat * (o_Gmem_Block).size)) [.bool x_13.Live, v_18, v_20, v_22], .row o_Gmem_Block 45 v_10 x_6.1, .cell a_1 [v_2, .int .i64 used_4]] := HeldOK.same [5, 7, 4, 2, 0, 9] (by decide) rfl
      refine JA_op (i := 11) (by kernel_rfl) rfl rfl (op_call (f := 28) (fn := Try.f28) (args := [v_22]) (post := slices_Clone_v3_post σ v_22 x_13.Writer) [.row (tBool).o 4 v_22 x_13.Writer] [.row ((tInt .i64)).o 3 v_50 r_41, .row ((tInt .i64)).o 3 v_20 x_13.Readers, .row (t_Gmem_Value).o 29 v_39 r_30, .row (t_Gmem_Value).o 29 v_18 x_13.Cells, .cell c_24 [.bool x_13.Live, v_18, v_20, v_22], .hole (fun x => .elem o_Gmem_Block (elemAddr v_2 ((x_6.2).toNat * (o_Gmem_Block).size)) x) (fun x => .row o_Gmem_Block 45 v_2 (Sl.set x_3 x_6.2 x)), .cell (elemAddr v_2 ((x_6.2).toNat * (o_Gmem_Block).size)) [.bool x_13.Live, v_18, v_20, v_22], .row o_Gmem_Block 45 v_10 x_6.1, .cell a_1 [v_2, .int .i64 used_4]] rfl rfl rfl Try.func28 Try.pn28 rfl rfl (fun y st hy hpre => slices_Clone_v3_ref st σ v_22 x_13.Writer hpre y hy) ?_)
      intro r_52 v_54 s_57 PV_55 hr_53 hle_58 hp_56
      obtain ⟨v_61, rfl, rfl, rfl⟩ := hp_56
      have hS_62 : HeldOK σ [.cell c_24 [.bool x_13.Live, v_18, v_20, v_22], .cell (elemAddr v_2 ((x_6.2).toNat * (o_Gmem_Block).size)) [.bool x_13.Live, v_18, v_20, v_22], .row (t_Gmem_Value).o 29 v_18 x_13.Cells, .row ((tInt .i64)).o 3 v_20 x_13.Readers, .row (tBool).o 4 v_22 x_13.Writer, .cell a_1 [v_2, .int .i64 used_4]] σ [.row (tBool).o 4 v_61 r_52, .row (tBool).o 4 v_22 x_13.Writer, .row ((tInt .i64)).o 3 v_50 r_41, .row ((tInt .i64)).o 3 v_20 x_13.Readers, .row (t_Gmem_Value).o 29 v_39 r_30, .row (t_Gmem_Value).o 29 v_18 x_13.Cells, .cell c_24 [.bool x_13.Live, v_18, v_20, v_22], .hole (fun x => .elem o_Gmem_Block (elemAddr v_2 ((x_6.2).toNat * (o_Gmem_Block).size)) x) (fun x => .row o_Gmem_Block 45 v_2 (Sl.set x_3 x_6.2 x)), .cell (elemAddr v_2 ((x_6.2).toNat * (o_Gmem_Block).size)) [.bool x_13.Live, v_18, v_20, v_22], .row o_Gmem_Block 45 v_10 x_6.1, .cell a_1 [v_2, .int .i64 used_4]] := HeldOK.same [6, 8, 5, 3, 1, 10] (by decide) rfl
      refine ⟨.inr hS_62, ?_⟩
      refine J_row_one 4 rfl fun h_63 => ?_
      refine J_row_one 2 rfl fun h_64 => ?_
      refine J_row_one 0 rfl fun h_65 => ?_
      refine JA_takep 12 rfl hns (by kernel_rfl) (by kernel_rfl) rfl (.inr hS_62) rfl rfl rfl (r_build (cs := [.bool x_13.Live, v_39, v_50, v_61]) (vs := [(0, .bool x_13.Live), (1, v_39), (2, v_50), (3, v_61)]) (pcs := [(0, [.bool x_13.Live]), (1, [v_39]), (2, [v_50]), (3, [v_61])]) (pls := [(0, 1), (1, 1), (2, 1), (3, 1)]) Try.pu45 Try.pi45 rfl (by kernel_rfl) rfl ⟨rfl, rfl, ⟨rfl, (one_cells h_63), ⟨rfl, (one_cells h_64), ⟨rfl, (one_cells h_65), trivial⟩⟩⟩⟩ rfl) ?_
      refine J_select (PV' := [.row (t_Gmem_Value).o 29 v_39 r_30, .row ((tInt .i64)).o 3 v_50 r_41, .row (tBool).o 4 v_61 r_52, .row (tBool).o 4 v_22 x_13.Writer, .row ((tInt .i64)).o 3 v_20 x_13.Readers, .row (t_Gmem_Value).o 29 v_18 x_13.Cells, .cell c_24 [.bool x_13.Live, v_18, v_20, v_22], .hole (fun x => .elem o_Gmem_Block (elemAddr v_2 ((x_6.2).toNat * (o_Gmem_Block).size)) x) (fun x => .row o_Gmem_Block 45 v_2 (Sl.set x_3 x_6.2 x)), .cell (elemAddr v_2 ((x_6.2).toNat * (o_Gmem_Block).size)) [.bool x_13.Live, v_18, v_20, v_22], .row o_Gmem_Block 45 v_10 x_6.1, .cell a_1 [v_2, .int .i64 used_4]]) [4, 2, 0, 1, 3, 5, 6, 7, 8, 9, 10] (by decide) rfl ?_
      have hS_68 : HeldOK σ [.cell c_24 [.bool x_13.Live, v_18, v_20, v_22], .cell (elemAddr v_2 ((x_6.2).toNat * (o_Gmem_Block).size)) [.bool x_13.Live, v_18, v_20, v_22], .row (t_Gmem_Value).o 29 v_18 x_13.Cells, .row ((tInt .i64)).o 3 v_20 x_13.Readers, .row (tBool).o 4 v_22 x_13.Writer, .cell a_1 [v_2, .int .i64 used_4]] σ [.row (t_Gmem_Value).o 29 v_39 r_30, .row ((tInt .i64)).o 3 v_50 r_41, .row (tBool).o 4 v_61 r_52, .row (tBool).o 4 v_22 x_13.Writer, .row ((tInt .i64)).o 3 v_20 x_13.Readers, .row (t_Gmem_Value).o 29 v_18 x_13.Cells, .cell c_24 [.bool x_13.Live, v_18, v_20, v_22], .hole (fun x => .elem o_Gmem_Block (elemAddr v_2 ((x_6.2).toNat * (o_Gmem_Block).size)) x) (fun x => .row o_Gmem_Block 45 v_2 (Sl.set x_3 x_6.2 x)), .cell (elemAddr v_2 ((x_6.2).toNat * (o_Gmem_Block).size)) [.bool x_13.Live, v_18, v_20, v_22], .row o_Gmem_Block 45 v_10 x_6.1, .cell a_1 [v_2, .int .i64 used_4]] := HeldOK.same [6, 8, 5, 4, 3, 10] (by decide) rfl
      refine JA_op (i := 13) (by kernel_rfl) rfl rfl (op_buildSlice (T := o_Gmem_Block) (vs := [.agg #[.bool x_13.Live, v_39, v_50, v_61]]) (xs := [(⟨x_13.Live, r_30, r_41, r_52⟩ : Gmem_Block)]) [.row (t_Gmem_Value).o 29 v_39 r_30, .row ((tInt .i64)).o 3 v_50 r_41, .row (tBool).o 4 v_61 r_52] [.row (tBool).o 4 v_22 x_13.Writer, .row ((tInt .i64)).o 3 v_20 x_13.Readers, .row (t_Gmem_Value).o 29 v_18 x_13.Cells, .cell c_24 [.bool x_13.Live, v_18, v_20, v_22], .hole (fun x => .elem o_Gmem_Block (elemAddr v_2 ((x_6.2).toNat * (o_Gmem_Block).size)) x) (fun x => .row o_Gmem_Block 45 v_2 (Sl.set x_3 x_6.2 x)), .cell (elemAddr v_2 ((x_6.2).toNat * (o_Gmem_Block).size)) [.bool x_13.Live, v_18, v_20, v_22], .row o_Gmem_Block 45 v_10 x_6.1, .cell a_1 [v_2, .int .i64 used_4]] rfl Try.pu41 Try.pi45 rfl rfl rfl rfl rfl rfl (relsO_cons (A := [.row (t_Gmem_Value).o 29 v_39 r_30, .row ((tInt .i64)).o 3 v_50 r_41, .row (tBool).o 4 v_61 r_52]) (B := []) (u := .agg #[.bool x_13.Live, v_39, v_50, v_61]) (x := (⟨x_13.Live, r_30, r_41, r_52⟩ : Gmem_Block)) (opn_vrel (T := o_Gmem_Block) (u := ((), v_39, v_50, v_61)) ⟨trivial, trivial, trivial, trivial⟩ rfl rfl rfl) relsO_nil) ?_)
      intro v_66
      have hS_69 : HeldOK σ [.cell c_24 [.bool x_13.Live, v_18, v_20, v_22], .cell (elemAddr v_2 ((x_6.2).toNat * (o_Gmem_Block).size)) [.bool x_13.Live, v_18, v_20, v_22], .row (t_Gmem_Value).o 29 v_18 x_13.Cells, .row ((tInt .i64)).o 3 v_20 x_13.Readers, .row (tBool).o 4 v_22 x_13.Writer, .cell a_1 [v_2, .int .i64 used_4]] σ [.row o_Gmem_Block 45 v_66 (⟨[(⟨x_13.Live, r_30, r_41, r_52⟩ : Gmem_Block)], true⟩ : Sl Gmem_Block), .row (tBool).o 4 v_22 x_13.Writer, .row ((tInt .i64)).o 3 v_20 x_13.Readers, .row (t_Gmem_Value).o 29 v_18 x_13.Cells, .cell c_24 [.bool x_13.Live, v_18, v_20, v_22], .hole (fun x => .elem o_Gmem_Block (elemAddr v_2 ((x_6.2).toNat * (o_Gmem_Block).size)) x) (fun x => .row o_Gmem_Block 45 v_2 (Sl.set x_3 x_6.2 x)), .cell (elemAddr v_2 ((x_6.2).toNat * (o_Gmem_Block).size)) [.bool x_13.Live, v_18, v_20, v_22], .row o_Gmem_Block 45 v_10 x_6.1, .cell a_1 [v_2, .int .i64 used_4]] := HeldOK.same [4, 6, 3, 2, 1, 8] (by decide) rfl
      refine ⟨.inr hS_69, ?_⟩
      refine J_select (PV' := [.row o_Gmem_Block 45 v_10 x_6.1, .row o_Gmem_Block 45 v_66 (⟨[(⟨x_13.Live, r_30, r_41, r_52⟩ : Gmem_Block)], true⟩ : Sl Gmem_Block), .row (tBool).o 4 v_22 x_13.Writer, .row ((tInt .i64)).o 3 v_20 x_13.Readers, .row (t_Gmem_Value).o 29 v_18 x_13.Cells, .cell c_24 [.bool x_13.Live, v_18, v_20, v_22], .hole (fun x => .elem o_Gmem_Block (elemAddr v_2 ((x_6.2).toNat * (o_Gmem_Block).size)) x) (fun x => .row o_Gmem_Block 45 v_2 (Sl.set x_3 x_6.2 x)), .cell (elemAddr v_2 ((x_6.2).toNat * (o_Gmem_Block).size)) [.bool x_13.Live, v_18, v_20, v_22], .cell a_1 [v_2, .int .i64 used_4]]) [7, 0, 1, 2, 3, 4, 5, 6, 8] (by decide) rfl ?_
      have hS_73 : HeldOK σ [.cell c_24 [.bool x_13.Live, v_18, v_20, v_22], .cell (elemAddr v_2 ((x_6.2).toNat * (o_Gmem_Block).size)) [.bool x_13.Live, v_18, v_20, v_22], .row (t_Gmem_Value).o 29 v_18 x_13.Cells, .row ((tInt .i64)).o 3 v_20 x_13.Readers, .row (tBool).o 4 v_22 x_13.Writer, .cell a_1 [v_2, .int .i64 used_4]] σ [.row o_Gmem_Block 45 v_10 x_6.1, .row o_Gmem_Block 45 v_66 (⟨[(⟨x_13.Live, r_30, r_41, r_52⟩ : Gmem_Block)], true⟩ : Sl Gmem_Block), .row (tBool).o 4 v_22 x_13.Writer, .row ((tInt .i64)).o 3 v_20 x_13.Readers, .row (t_Gmem_Value).o 29 v_18 x_13.Cells, .cell c_24 [.bool x_13.Live, v_18, v_20, v_22], .hole (fun x => .elem o_Gmem_Block (elemAddr v_2 ((x_6.2).toNat * (o_Gmem_Block).size)) x) (fun x => .row o_Gmem_Block 45 v_2 (Sl.set x_3 x_6.2 x)), .cell (elemAddr v_2 ((x_6.2).toNat * (o_Gmem_Block).size)) [.bool x_13.Live, v_18, v_20, v_22], .cell a_1 [v_2, .int .i64 used_4]] := HeldOK.same [5, 7, 4, 3, 2, 8] (by decide) rfl
      refine JA_op (i := 14) (by kernel_rfl) rfl rfl (op_append (v := v_10) (u := v_66) (T := o_Gmem_Block) (ts := [(⟨x_13.Live, r_30, r_41, r_52⟩ : Gmem_Block)]) [.row o_Gmem_Block 45 v_66 (⟨[(⟨x_13.Live, r_30, r_41, r_52⟩ : Gmem_Block)], true⟩ : Sl Gmem_Block)] [.row (tBool).o 4 v_22 x_13.Writer, .row ((tInt .i64)).o 3 v_20 x_13.Readers, .row (t_Gmem_Value).o 29 v_18 x_13.Cells, .cell c_24 [.bool x_13.Live, v_18, v_20, v_22], .hole (fun x => .elem o_Gmem_Block (elemAddr v_2 ((x_6.2).toNat * (o_Gmem_Block).size)) x) (fun x => .row o_Gmem_Block 45 v_2 (Sl.set x_3 x_6.2 x)), .cell (elemAddr v_2 ((x_6.2).toNat * (o_Gmem_Block).size)) [.bool x_13.Live, v_18, v_20, v_22], .cell a_1 [v_2, .int .i64 used_4]] rfl Try.pu41 Try.pi45 rfl rfl rfl rfl rfl rfl source_move ?_)
      intro s_71 v_70 hs_72
      refine ⟨.inl (.inl rfl), ?_⟩
      refine JA_takep 15 rfl hns (by kernel_rfl) (by kernel_rfl) rfl (.inl rfl) rfl rfl rfl (r_assign (v := v_70) rfl) ?_
      refine JA_done (by kernel_rfl) ?_
      refine J_in_normal ?_
      refine J_then ?_
      refine J_region ?_
      refine JL_op rfl (op_read rfl rfl (r_add rfl rfl) ?_)
      refine JL_op rfl (op_read rfl rfl (r_move (v := .int .i64 (IntKind.i64.wrap (x_6.2 + 1))) rfl) ?_)
      refine JL_nil ?_
      refine J_select (PV' := [.hole (fun x => .elem o_Gmem_Block (elemAddr v_2 ((x_6.2).toNat * (o_Gmem_Block).size)) x) (fun x => .row o_Gmem_Block 45 v_2 (Sl.set x_3 x_6.2 x)), .cell (elemAddr v_2 ((x_6.2).toNat * (o_Gmem_Block).size)) [.bool x_13.Live, v_18, v_20, v_22], .row (t_Gmem_Value).o 29 v_18 x_13.Cells, .row ((tInt .i64)).o 3 v_20 x_13.Readers, .row (tBool).o 4 v_22 x_13.Writer, .row o_Gmem_Block 45 v_70 s_71, .cell c_24 [.bool x_13.Live, v_18, v_20, v_22], .cell a_1 [v_2, .int .i64 used_4]]) [5, 6, 3, 2, 1, 0, 4, 7] (by decide) rfl ?_
      refine J_put (T := o_Gmem_Block) (i := x_6.2) (s := x_3) (s' := x_3) (A := [.row (t_Gmem_Value).o 29 v_18 x_13.Cells, .row ((tInt .i64)).o 3 v_20 x_13.Readers, .row (tBool).o 4 v_22 x_13.Writer]) (C := [.row o_Gmem_Block 45 v_70 s_71, .cell c_24 [.bool x_13.Live, v_18, v_20, v_22], .cell a_1 [v_2, .int .i64 used_4]]) x_13 ((), v_18, v_20, v_22) ⟨trivial, trivial, trivial, trivial⟩ rfl rfl (Sl.set_same hx_14) ?_
      refine J_select (PV' := [.row o_Gmem_Block 45 v_70 s_71, .row o_Gmem_Block 45 v_2 x_3, .cell a_1 [v_2, .int .i64 used_4]]) [1, 0, 3] (by decide) rfl ?_
      refine J_next _ ?_ ⟨v_70, rfl, rfl, rfl⟩
      exact ⟨rfl, rfl, rfl, rfl, trivial⟩
    · refine J_exit ?_
      refine J_then_exit ?_
      refine J_select (PV' := [.row o_Gmem_Block 45 v_10 x_6.1, .cell a_1 [v_2, .int .i64 used_4], .row o_Gmem_Block 45 v_2 x_3]) [0, 2, 1] (by decide) rfl ?_
      refine J_done trivial _ ?_ ⟨rfl, v_10, rfl, rfl, rfl⟩
      exact ⟨rfl, trivial⟩
  · rintro y_74 _ _ b s_79 _ ⟨rfl, ⟨v_78, rfl, rfl, rfl⟩⟩
    refine J_in_exit ?_
    refine J_then ?_
    refine J_seq ?_
    refine J_region ?_
    refine JL_op rfl (op_read rfl rfl (r_move (v := v_78) rfl) ?_)
    refine JL_op rfl (op_read rfl rfl (r_assign (v := v_78) rfl) ?_)
    refine JL_nil ?_
    refine J_then ?_
    refine J_ret ?_
    exact J_returnV1 (PV' := [.row o_Gmem_Block 45 v_78 y_74, .cell a_1 [v_2, .int .i64 used_4], .row o_Gmem_Block 45 v_2 x_3]) rfl rv_tmp [0, 1, 2] (by decide) rfl ⟨v_78, rfl, rfl, rfl⟩
end Go.Px
