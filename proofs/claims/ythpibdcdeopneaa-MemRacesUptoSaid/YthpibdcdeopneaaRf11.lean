/- The calls do what the models say, part 11. -/
import Derived.Test.YthpibdcdeopneaaMd
import Derived.Test.YthpibdcdeopneaaRf1
import Derived.Test.YthpibdcdeopneaaRf2
import Derived.Test.YthpibdcdeopneaaRf3
import Derived.Test.YthpibdcdeopneaaRf4
namespace Go.Px
open Go.Proofs
set_option linter.unusedVariables false
def lychgatelaw06_MemRaces_post (σ0 : FS) (v_1 : Value) (write_2 : GSt50) (cell_4 : Int) (other_5 : Int) (r : Bool) (σ : FS) (PV : List Priv) (v : Value) : Prop :=
  σ0 = σ ∧ .bool r = v ∧ PV = []
set_option maxRecDepth 100000 in
theorem lychgatelaw06_MemRaces_ref (s : Start) (σ : FS) (v_1 : Value) (write_2 : GSt50) (h_3 : t_GSt50.vrel σ v_1 write_2) (cell_4 : Int) (other_5 : Int) (hs : Pre s σ []) (r : Bool) (hr : lychgatelaw06_MemRaces write_2 cell_4 other_5 = some r) : Does Try.prog 6 [v_1, .int .i64 cell_4, .int .i64 other_5] s σ (lychgatelaw06_MemRaces_post σ v_1 write_2 cell_4 other_5 r) := by
  unfold lychgatelaw06_MemRaces at hr
  obtain rfl := t_GSt50_v.1 h_3
  refine does_of_J Try.func6 rfl (n := 79) rfl rfl hs hr ?_
  refine J_seq ?_
  refine J_region ?_
  refine JL_op rfl (op_box (cs := [.bool write_2.e0, .bool write_2.e1]) rfl rfl ?_)
  intro c_6
  refine JL_op rfl (op_read rfl rfl (r_assign (v := .bool false) rfl) ?_)
  refine JL_nil ?_
  refine J_then ?_
  refine J_seq ?_
  refine J_region_any 6 [.cell c_6 [.bool write_2.e0, .bool write_2.e1]] Try.mixed (by kernel_rfl) fun hns => ?_
  have hS_8 : HeldOK σ [.cell c_6 [.bool write_2.e0, .bool write_2.e1]] σ [.cell c_6 [.bool write_2.e0, .bool write_2.e1]] := HeldOK.same [0] (by decide) rfl
  refine JA_takep 0 rfl hns (by kernel_rfl) (by kernel_rfl) rfl (.inr hS_8) rfl rfl rfl (r_index_arr (r := Addr.add c_6 0) (n := 2) (i := 0) Try.pu50 Try.pi4 (by decide) rfl rfl (by decide) (Addr.add_add _ _ _)) ?_
  refine JA_take 1 rfl hns (by kernel_rfl) (by kernel_rfl) (by kernel_rfl) rfl (by kernel_rfl) hS_8 rfl rfl rfl (r_load_priv (a := c_6) (off := 0) (cs' := [.bool write_2.e0]) (v := .bool write_2.e0) 0 Try.pu4 Try.pi4 rfl rfl rfl rfl (by decide) rfl) ?_
  refine JA_takep 2 rfl hns (by kernel_rfl) (by kernel_rfl) rfl (.inr hS_8) rfl rfl rfl (r_index_arr (r := Addr.add c_6 1) (n := 2) (i := 1) Try.pu50 Try.pi4 (by decide) rfl rfl (by decide) (Addr.add_add _ _ _)) ?_
  refine JA_take 3 rfl hns (by kernel_rfl) (by kernel_rfl) (by kernel_rfl) rfl (by kernel_rfl) hS_8 rfl rfl rfl (r_load_priv (a := c_6) (off := 1) (cs' := [.bool write_2.e1]) (v := .bool write_2.e1) 0 Try.pu4 Try.pi4 rfl rfl rfl rfl (by decide) rfl) ?_
  refine JA_takep 4 rfl hns (by kernel_rfl) (by kernel_rfl) rfl (.inr hS_8) rfl rfl rfl (r_assign (v := .bool write_2.e0) rfl) ?_
  refine JA_takep 5 rfl hns (by kernel_rfl) (by kernel_rfl) rfl (.inr hS_8) rfl rfl rfl (r_assign (v := .bool write_2.e1) rfl) ?_
  refine JA_done (by kernel_rfl) ?_
  refine J_then ?_
  refine J_seq ?_
  refine J_seq ?_
  refine J_region ?_
  refine JL_op rfl (op_call (f := 10) (fn := Try.f10) (args := []) (post := lychgatelaw06_wakes_post σ) [] [.cell c_6 [.bool write_2.e0, .bool write_2.e1]] rfl rfl rfl Try.func10 Try.pn10 rfl rfl (fun y st hy hpre => lychgatelaw06_wakes_ref st σ  hpre y hy) ?_)
  intro r_9 v_11 s_14 PV_12 hr_10 hle_15 hp_13
  obtain ⟨rfl, rfl, rfl⟩ := hp_13
  refine JL_op rfl (op_read rfl rfl (r_not rfl) ?_)
  refine JL_nil ?_
  refine J_then ?_
  refine J_cond rfl (fun hc_16 => ?_) (fun hc_16 => ?_)
  · refine J_seq ?_
    refine J_region ?_
    refine JL_op rfl (op_read rfl rfl (r_assign (v := .bool false) rfl) ?_)
    refine JL_nil ?_
    refine J_then ?_
    refine J_ret ?_
    refine J_then_ret ?_
    exact J_returnV1 (PV' := []) rfl rv_tmp [] (by decide) rfl ⟨rfl, rfl, rfl⟩
  · refine J_skip ?_
    refine J_then ?_
    refine J_seq ?_
    refine J_region ?_
    refine JL_op rfl (op_call (f := 11) (fn := Try.f11) (args := []) (post := mem_New_post σ) [] [.cell c_6 [.bool write_2.e0, .bool write_2.e1]] rfl rfl rfl Try.func11 Try.pn11 rfl rfl (fun y st hy hpre => mem_New_ref st σ  hpre y hy) ?_)
    intro r_17 v_19 s_22 PV_20 hr_18 hle_23 hp_21
    obtain ⟨c_25, v_27, rfl, rfl, rfl⟩ := hp_21
    refine JL_op rfl (op_read rfl rfl (r_assign (v := .pointer (some (Addr.add c_25 0))) rfl) ?_)
    refine JL_nil ?_
    refine J_then ?_
    refine J_seq ?_
    refine J_region ?_
    refine JL_op rfl (op_read rfl rfl (r_move (v := .pointer (some (Addr.add c_25 0))) rfl) ?_)
    refine JL_op rfl (op_call (f := 12) (fn := Try.f12) (args := [.pointer (some (Addr.add c_25 0)), .int .i64 5]) (post := mem_Memory_Alloc_post σ c_25 v_27 r_17 0 5) [.cell c_25 [v_27, .int .i64 0], .row o_Gmem_Block 45 v_27 r_17] [.cell c_6 [.bool write_2.e0, .bool write_2.e1]] rfl rfl rfl Try.func12 Try.pn12 rfl rfl (fun y st hy hpre => mem_Memory_Alloc_ref st σ c_25 v_27 r_17 0 5 hpre y hy) ?_)
    intro r_28 v_30 s_33 PV_31 hr_29 hle_34 hp_32
    obtain ⟨v_35, rfl, rfl, rfl⟩ := hp_32
    refine JL_op rfl (op_read rfl rfl (r_move (v := .tuple #[.agg #[.int .i64 r_28.1.Kind, .int .i64 r_28.1.N, .int .i64 r_28.1.Block], .bool r_28.2.1]) rfl) ?_)
    refine JL_op rfl (op_read rfl rfl (r_extract (v := .agg #[.int .i64 r_28.1.Kind, .int .i64 r_28.1.N, .int .i64 r_28.1.Block]) rfl rfl) ?_)
    refine JL_op rfl (op_read rfl rfl (r_extract (v := .bool r_28.2.1) rfl rfl) ?_)
    refine JL_op rfl (op_alloc (cs := [.int .i64 0, .int .i64 0, .int .i64 0]) rfl Try.pi29 rfl rfl ?_)
    intro c_36
    refine JL_op rfl (op_store_priv (a := c_36) (off := 0) (vs := [.int .i64 r_28.1.Kind, .int .i64 r_28.1.N, .int .i64 r_28.1.Block]) (cs' := [.int .i64 r_28.1.Kind, .int .i64 r_28.1.N, .int .i64 r_28.1.Block]) (PV' := [.cell c_36 [.int .i64 r_28.1.Kind, .int .i64 r_28.1.N, .int .i64 r_28.1.Block], .cell c_25 [v_35, .int .i64 r_28.2.2.2], .row o_Gmem_Block 45 v_35 r_28.2.2.1, .cell c_6 [.bool write_2.e0, .bool write_2.e1]]) 0 Try.pi29 rfl rfl rfl ⟨rfl, rfl, rfl, trivial⟩ rfl rfl rfl rfl rfl ?_)
    refine JL_op rfl (op_read rfl rfl (r_assign (v := .bool r_28.2.1) rfl) ?_)
    refine JL_nil ?_
    refine J_then ?_
    refine J_seq ?_
    refine J_region ?_
    refine JL_op rfl (op_read rfl rfl (r_load_priv (a := c_36) (off := 0) (cs' := [.int .i64 r_28.1.Kind, .int .i64 r_28.1.N, .int .i64 r_28.1.Block]) (v := .agg #[.int .i64 r_28.1.Kind, .int .i64 r_28.1.N, .int .i64 r_28.1.Block]) 0 Try.pu29 Try.pi29 rfl rfl rfl rfl (by decide) rfl) ?_)
    refine JL_op rfl (op_alloc (cs := [.int .i64 0, .int .i64 0, .int .i64 0]) rfl Try.pi29 rfl rfl ?_)
    intro c_38
    refine JL_op rfl (op_store_priv (a := c_38) (off := 0) (vs := [.int .i64 r_28.1.Kind, .int .i64 r_28.1.N, .int .i64 r_28.1.Block]) (cs' := [.int .i64 r_28.1.Kind, .int .i64 r_28.1.N, .int .i64 r_28.1.Block]) (PV' := [.cell c_38 [.int .i64 r_28.1.Kind, .int .i64 r_28.1.N, .int .i64 r_28.1.Block], .cell c_36 [.int .i64 r_28.1.Kind, .int .i64 r_28.1.N, .int .i64 r_28.1.Block], .cell c_25 [v_35, .int .i64 r_28.2.2.2], .row o_Gmem_Block 45 v_35 r_28.2.2.1, .cell c_6 [.bool write_2.e0, .bool write_2.e1]]) 0 Try.pi29 rfl rfl rfl ⟨rfl, rfl, rfl, trivial⟩ rfl rfl rfl rfl rfl ?_)
    refine JL_nil ?_
    refine J_then ?_
    refine J_seq ?_
    refine J_region ?_
    refine JL_op rfl (op_read rfl rfl (r_move (v := .int .i64 cell_4) rfl) ?_)
    refine JL_op rfl (op_read rfl rfl (r_max rfl rfl) ?_)
    refine J_bind fun q_40 hq_41 => ?_
    refine JL_op rfl (op_read rfl rfl (r_rem rfl rfl hq_41) ?_)
    refine JL_op rfl (op_read rfl rfl (r_move (v := .int .i64 other_5) rfl) ?_)
    refine JL_op rfl (op_read rfl rfl (r_max rfl rfl) ?_)
    refine J_bind fun q_42 hq_43 => ?_
    refine JL_op rfl (op_read rfl rfl (r_rem rfl rfl hq_43) ?_)
    refine JL_op rfl (op_read rfl rfl (r_fieldAddr (r := Addr.add c_36 1) Try.pu29 (f := Try.pf29.getD 1 default) rfl Try.pi2 (by decide) rfl (Addr.add_add _ _ _)) ?_)
    refine JL_op rfl (op_store_priv (a := c_36) (off := 1) (vs := [.int .i64 q_40]) (cs' := [.int .i64 r_28.1.Kind, .int .i64 q_40, .int .i64 r_28.1.Block]) (PV' := [.cell c_38 [.int .i64 r_28.1.Kind, .int .i64 r_28.1.N, .int .i64 r_28.1.Block], .cell c_36 [.int .i64 r_28.1.Kind, .int .i64 q_40, .int .i64 r_28.1.Block], .cell c_25 [v_35, .int .i64 r_28.2.2.2], .row o_Gmem_Block 45 v_35 r_28.2.2.1, .cell c_6 [.bool write_2.e0, .bool write_2.e1]]) 1 Try.pi2 rfl rfl rfl ⟨rfl, trivial⟩ rfl rfl rfl rfl rfl ?_)
    refine JL_op rfl (op_read rfl rfl (r_fieldAddr (r := Addr.add c_38 1) Try.pu29 (f := Try.pf29.getD 1 default) rfl Try.pi2 (by decide) rfl (Addr.add_add _ _ _)) ?_)
    refine JL_op rfl (op_store_priv (a := c_38) (off := 1) (vs := [.int .i64 q_42]) (cs' := [.int .i64 r_28.1.Kind, .int .i64 q_42, .int .i64 r_28.1.Block]) (PV' := [.cell c_38 [.int .i64 r_28.1.Kind, .int .i64 q_42, .int .i64 r_28.1.Block], .cell c_36 [.int .i64 r_28.1.Kind, .int .i64 q_40, .int .i64 r_28.1.Block], .cell c_25 [v_35, .int .i64 r_28.2.2.2], .row o_Gmem_Block 45 v_35 r_28.2.2.1, .cell c_6 [.bool write_2.e0, .bool write_2.e1]]) 0 Try.pi2 rfl rfl rfl ⟨rfl, trivial⟩ rfl rfl rfl rfl rfl ?_)
    refine JL_nil ?_
    refine J_then ?_
    refine J_seq ?_
    refine J_seq ?_
    refine J_region ?_
    refine JL_op rfl (op_read rfl rfl (r_move (v := .pointer (some (Addr.add c_25 0))) rfl) ?_)
    refine JL_op rfl (op_read rfl rfl (r_load_priv (a := c_36) (off := 0) (cs' := [.int .i64 r_28.1.Kind, .int .i64 q_40, .int .i64 r_28.1.Block]) (v := .agg #[.int .i64 r_28.1.Kind, .int .i64 q_40, .int .i64 r_28.1.Block]) 1 Try.pu29 Try.pi29 rfl rfl rfl rfl (by decide) rfl) ?_)
    refine JL_op rfl (op_read rfl rfl (r_move (v := .bool write_2.e0) rfl) ?_)
    refine J_select (PV' := [.cell c_25 [v_35, .int .i64 r_28.2.2.2], .row o_Gmem_Block 45 v_35 r_28.2.2.1, .cell c_38 [.int .i64 r_28.1.Kind, .int .i64 q_42, .int .i64 r_28.1.Block], .cell c_36 [.int .i64 r_28.1.Kind, .int .i64 q_40, .int .i64 r_28.1.Block], .cell c_6 [.bool write_2.e0, .bool write_2.e1]]) [2, 3, 0, 1, 4] (by decide) rfl ?_
    refine JL_op rfl (op_call (f := 15) (fn := Try.f15) (args := [.pointer (some (Addr.add c_25 0)), .agg #[.int .i64 r_28.1.Kind, .int .i64 q_40, .int .i64 r_28.1.Block], .bool write_2.e0]) (post := mem_Memory_Begin_post σ c_25 v_35 r_28.2.2.1 r_28.2.2.2 (.agg #[.int .i64 r_28.1.Kind, .int .i64 q_40, .int .i64 r_28.1.Block]) (⟨r_28.1.Kind, q_40, r_28.1.Block⟩ : Gmem_Value) write_2.e0) [.cell c_25 [v_35, .int .i64 r_28.2.2.2], .row o_Gmem_Block 45 v_35 r_28.2.2.1] [.cell c_38 [.int .i64 r_28.1.Kind, .int .i64 q_42, .int .i64 r_28.1.Block], .cell c_36 [.int .i64 r_28.1.Kind, .int .i64 q_40, .int .i64 r_28.1.Block], .cell c_6 [.bool write_2.e0, .bool write_2.e1]] rfl rfl rfl Try.func15 Try.pn15 rfl rfl (fun y st hy hpre => mem_Memory_Begin_ref st σ c_25 v_35 r_28.2.2.1 r_28.2.2.2 (.agg #[.int .i64 r_28.1.Kind, .int .i64 q_40, .int .i64 r_28.1.Block]) (⟨r_28.1.Kind, q_40, r_28.1.Block⟩ : Gmem_Value) (t_Gmem_Value_v.2 rfl) write_2.e0 hpre y hy) ?_)
    intro r_44 v_46 s_49 PV_47 hr_45 hle_50 hp_48
    obtain ⟨rfl, rfl, rfl⟩ := hp_48
    refine JL_op rfl (op_read rfl rfl (r_neq rfl rfl) ?_)
    refine JL_nil ?_
    refine J_then ?_
    refine J_cond rfl (fun hc_51 => ?_) (fun hc_51 => ?_)
    · refine J_seq ?_
      refine J_region ?_
      refine JL_op rfl (op_read rfl rfl (r_assign (v := .bool false) rfl) ?_)
      refine JL_nil ?_
      refine J_then ?_
      refine J_ret ?_
      refine J_then_ret ?_
      exact J_returnV1 (PV' := []) rfl rv_tmp [] (by decide) rfl ⟨rfl, rfl, rfl⟩
    · refine J_skip ?_
      refine J_then ?_
      refine J_seq ?_
      refine J_region ?_
      refine JL_op rfl (op_read rfl rfl (r_assign (v := .int .i64 0) rfl) ?_)
      refine JL_nil ?_
      refine J_then ?_
      refine J_seq ?_
      refine J_seq ?_
      refine J_region ?_
      refine JL_op rfl (op_read rfl rfl (r_fieldAddr (r := Addr.add c_36 1) Try.pu29 (f := Try.pf29.getD 1 default) rfl Try.pi2 (by decide) rfl (Addr.add_add _ _ _)) ?_)
      refine JL_op rfl (op_read rfl rfl (r_load_priv (a := c_36) (off := 1) (cs' := [.int .i64 q_40]) (v := .int .i64 q_40) 3 Try.pu2 Try.pi2 rfl rfl rfl rfl (by decide) rfl) ?_)
      refine JL_op rfl (op_read rfl rfl (r_fieldAddr (r := Addr.add c_38 1) Try.pu29 (f := Try.pf29.getD 1 default) rfl Try.pi2 (by decide) rfl (Addr.add_add _ _ _)) ?_)
      refine JL_op rfl (op_read rfl rfl (r_load_priv (a := c_38) (off := 1) (cs' := [.int .i64 q_42]) (v := .int .i64 q_42) 2 Try.pu2 Try.pi2 rfl rfl rfl rfl (by decide) rfl) ?_)
      refine JL_op rfl (op_read rfl rfl (r_eql rfl rfl) ?_)
      refine JL_op rfl (op_read rfl rfl (r_move (v := .bool (decide (q_40 = q_42))) rfl) ?_)
      refine J_forkL (e := (decide (q_40 = q_42))) 5 [(8, .bool write_2.e1), (9, .pointer (some (Addr.add c_25 0))), (10, .pointer (some (Addr.add c_36 0))), (12, .pointer (some (Addr.add c_38 0))), (13, .int .i64 0), (52, .bool (decide (q_40 = q_42) && (write_2.e0 || write_2.e1)))] (fun hc_52 hk => ?_) (fun hc_52 hk => ?_) (fun b => ?_)
      · refine JL_opg rfl rfl hc_52 (op_read rfl rfl (r_move (v := .bool write_2.e0) rfl) ?_)
        refine JL_opg rfl rfl hc_52 (op_read rfl rfl (r_move (v := .bool write_2.e0) rfl) ?_)
        refine J_forkL (e := write_2.e0) 2 [(7, .bool write_2.e0), (8, .bool write_2.e1), (9, .pointer (some (Addr.add c_25 0))), (10, .pointer (some (Addr.add c_36 0))), (12, .pointer (some (Addr.add c_38 0))), (13, .int .i64 0), (42, .pointer (some (Addr.add c_36 1))), (43, .int .i64 q_40), (44, .pointer (some (Addr.add c_38 1))), (45, .int .i64 q_42), (46, .bool (decide (q_40 = q_42))), (47, .bool (decide (q_40 = q_42))), (48, .bool write_2.e0), (49, .bool write_2.e0), (51, .bool (write_2.e0 || write_2.e1))] (fun hc_53 hk => ?_) (fun hc_53 hk => ?_) (fun b => ?_)
        · refine JL_skip rfl rfl hc_53 rfl rfl ?_
          refine JL_opg rfl rfl hc_52 (op_read rfl rfl (r_pick_t (v := .bool true) rfl hc_53 rfl) ?_)
          refine J_prune [(7, .bool write_2.e0), (8, .bool write_2.e1), (9, .pointer (some (Addr.add c_25 0))), (10, .pointer (some (Addr.add c_36 0))), (12, .pointer (some (Addr.add c_38 0))), (13, .int .i64 0), (42, .pointer (some (Addr.add c_36 1))), (43, .int .i64 q_40), (44, .pointer (some (Addr.add c_38 1))), (45, .int .i64 q_42), (46, .bool (decide (q_40 = q_42))), (47, .bool (decide (q_40 = q_42))), (48, .bool write_2.e0), (49, .bool write_2.e0), (51, .bool (write_2.e0 || write_2.e1))] ⟨rfl, rfl, rfl, rfl, rfl, rfl, rfl, rfl, rfl, rfl, rfl, rfl, rfl, rfl, (by show Value.bool _ = Value.bool _; rw [hc_53]; rfl), trivial⟩ hk
        · refine JL_opg rfl rfl hc_53 (op_read rfl rfl (r_move (v := .bool write_2.e1) rfl) ?_)
          refine JL_opg rfl rfl hc_52 (op_read rfl rfl (r_pick_f (v := .bool write_2.e1) rfl hc_53 rfl) ?_)
          refine J_prune [(7, .bool write_2.e0), (8, .bool write_2.e1), (9, .pointer (some (Addr.add c_25 0))), (10, .pointer (some (Addr.add c_36 0))), (12, .pointer (some (Addr.add c_38 0))), (13, .int .i64 0), (42, .pointer (some (Addr.add c_36 1))), (43, .int .i64 q_40), (44, .pointer (some (Addr.add c_38 1))), (45, .int .i64 q_42), (46, .bool (decide (q_40 = q_42))), (47, .bool (decide (q_40 = q_42))), (48, .bool write_2.e0), (49, .bool write_2.e0), (51, .bool (write_2.e0 || write_2.e1))] ⟨rfl, rfl, rfl, rfl, rfl, rfl, rfl, rfl, rfl, rfl, rfl, rfl, rfl, rfl, (by show Value.bool _ = Value.bool _; rw [hc_53]; rfl), trivial⟩ hk
        · refine JL_op rfl (op_read rfl rfl (r_pick_t (v := .bool (write_2.e0 || write_2.e1)) rfl hc_52 rfl) ?_)
          refine J_prune [(8, .bool write_2.e1), (9, .pointer (some (Addr.add c_25 0))), (10, .pointer (some (Addr.add c_36 0))), (12, .pointer (some (Addr.add c_38 0))), (13, .int .i64 0), (52, .bool (decide (q_40 = q_42) && (write_2.e0 || write_2.e1)))] ⟨rfl, rfl, rfl, rfl, rfl, (by show Value.bool _ = Value.bool _; rw [hc_52]; rfl), trivial⟩ hk
      · refine JL_skip rfl rfl hc_52 rfl rfl ?_
        refine JL_skip rfl rfl hc_52 rfl rfl ?_
        refine JL_skipn rfl rfl rfl rfl ?_
        refine JL_skip rfl rfl hc_52 rfl rfl ?_
        refine JL_op rfl (op_read rfl rfl (r_pick_f (v := .bool false) rfl hc_52 rfl) ?_)
        refine J_prune [(8, .bool write_2.e1), (9, .pointer (some (Addr.add c_25 0))), (10, .pointer (some (Addr.add c_36 0))), (12, .pointer (some (Addr.add c_38 0))), (13, .int .i64 0), (52, .bool (decide (q_40 = q_42) && (write_2.e0 || write_2.e1)))] ⟨rfl, rfl, rfl, rfl, rfl, (by show Value.bool _ = Value.bool _; rw [hc_52]; rfl), trivial⟩ hk
      · refine JL_nil ?_
        refine J_then ?_
        refine J_cut (fun (y : Int) e L τ PV => e = .normal ∧ (σ = τ ∧ L = [(8, .bool write_2.e1), (9, .pointer (some (Addr.add c_25 0))), (10, .pointer (some (Addr.add c_36 0))), (12, .pointer (some (Addr.add c_38 0))), (13, .int .i64 y)] ∧ PV = [.cell c_25 [v_35, .int .i64 r_28.2.2.2], .row o_Gmem_Block 45 v_35 r_44.2, .cell c_36 [.int .i64 r_28.1.Kind, .int .i64 q_40, .int .i64 r_28.1.Block], .cell c_38 [.int .i64 r_28.1.Kind, .int .i64 q_42, .int .i64 r_28.1.Block]])) ?_ ?_
        · refine J_cond rfl (fun hc_54 => ?_) (fun hc_54 => ?_)
          · refine J_region ?_
            refine JL_op rfl (op_read rfl rfl (r_assign (v := .int .i64 6) rfl) ?_)
            refine JL_nil ?_
            refine J_select (PV' := [.cell c_25 [v_35, .int .i64 r_28.2.2.2], .row o_Gmem_Block 45 v_35 r_44.2, .cell c_36 [.int .i64 r_28.1.Kind, .int .i64 q_40, .int .i64 r_28.1.Block], .cell c_38 [.int .i64 r_28.1.Kind, .int .i64 q_42, .int .i64 r_28.1.Block]]) [0, 1, 3, 2] (by decide) rfl ?_
            refine J_cut_end _ ?_ ⟨rfl, rfl, rfl, rfl⟩ trivial
            exact ⟨rfl, rfl, rfl, rfl, rfl, trivial⟩
          · refine J_skip ?_
            refine J_select (PV' := [.cell c_25 [v_35, .int .i64 r_28.2.2.2], .row o_Gmem_Block 45 v_35 r_44.2, .cell c_36 [.int .i64 r_28.1.Kind, .int .i64 q_40, .int .i64 r_28.1.Block], .cell c_38 [.int .i64 r_28.1.Kind, .int .i64 q_42, .int .i64 r_28.1.Block]]) [0, 1, 3, 2] (by decide) rfl ?_
            refine J_cut_end _ ?_ ⟨rfl, rfl, rfl, rfl⟩ trivial
            exact ⟨rfl, rfl, rfl, rfl, rfl, trivial⟩
        · rintro y_55 _ _ b s_58 _ ⟨rfl, ⟨rfl, rfl, rfl⟩⟩
          refine J_then ?_
          refine J_seq ?_
          refine J_seq ?_
          refine J_region ?_
          refine JL_op rfl (op_read rfl rfl (r_move (v := .pointer (some (Addr.add c_25 0))) rfl) ?_)
          refine JL_op rfl (op_read rfl rfl (r_load_priv (a := c_38) (off := 0) (cs' := [.int .i64 r_28.1.Kind, .int .i64 q_42, .int .i64 r_28.1.Block]) (v := .agg #[.int .i64 r_28.1.Kind, .int .i64 q_42, .int .i64 r_28.1.Block]) 3 Try.pu29 Try.pi29 rfl rfl rfl rfl (by decide) rfl) ?_)
          refine JL_op rfl (op_read rfl rfl (r_move (v := .bool write_2.e1) rfl) ?_)
          refine JL_op rfl (op_call (f := 15) (fn := Try.f15) (args := [.pointer (some (Addr.add c_25 0)), .agg #[.int .i64 r_28.1.Kind, .int .i64 q_42, .int .i64 r_28.1.Block], .bool write_2.e1]) (post := mem_Memory_Begin_post σ c_25 v_35 r_44.2 r_28.2.2.2 (.agg #[.int .i64 r_28.1.Kind, .int .i64 q_42, .int .i64 r_28.1.Block]) (⟨r_28.1.Kind, q_42, r_28.1.Block⟩ : Gmem_Value) write_2.e1) [.cell c_25 [v_35, .int .i64 r_28.2.2.2], .row o_Gmem_Block 45 v_35 r_44.2] [.cell c_36 [.int .i64 r_28.1.Kind, .int .i64 q_40, .int .i64 r_28.1.Block], .cell c_38 [.int .i64 r_28.1.Kind, .int .i64 q_42, .int .i64 r_28.1.Block]] rfl rfl rfl Try.func15 Try.pn15 rfl rfl (fun y st hy hpre => mem_Memory_Begin_ref st σ c_25 v_35 r_44.2 r_28.2.2.2 (.agg #[.int .i64 r_28.1.Kind, .int .i64 q_42, .int .i64 r_28.1.Block]) (⟨r_28.1.Kind, q_42, r_28.1.Block⟩ : Gmem_Value) (t_Gmem_Value_v.2 rfl) write_2.e1 hpre y hy) ?_)
          intro r_59 v_61 s_64 PV_62 hr_60 hle_65 hp_63
          obtain ⟨rfl, rfl, rfl⟩ := hp_63
          refine JL_op rfl (op_read rfl rfl (r_move (v := .int .i64 y_55) rfl) ?_)
          refine JL_op rfl (op_read rfl rfl (r_neq rfl rfl) ?_)
          refine JL_op rfl (op_read rfl rfl (r_move (v := .bool (decide (r_59.1 ≠ y_55))) rfl) ?_)
          refine J_forkLB (e := (decide (r_59.1 ≠ y_55))) 5 (fun (y : (Sl Gmem_Block) × Bool) L τ PV => σ = τ ∧ L = [(9, .pointer (some (Addr.add c_25 0))), (10, .pointer (some (Addr.add c_36 0))), (64, .bool y.2)] ∧ PV = [.cell c_25 [v_35, .int .i64 r_28.2.2.2], .row o_Gmem_Block 45 v_35 y.1, .cell c_36 [.int .i64 r_28.1.Kind, .int .i64 q_40, .int .i64 r_28.1.Block]]) (fun hc_66 hk => ?_) (fun hc_66 hk => ?_) ?_
          · refine JL_skip rfl rfl hc_66 rfl rfl ?_
            refine JL_skip rfl rfl hc_66 rfl rfl ?_
            refine JL_skip rfl rfl hc_66 rfl rfl ?_
            refine JL_skip rfl rfl hc_66 rfl rfl ?_
            refine JL_op rfl (op_read rfl rfl (r_pick_t (v := .bool true) rfl hc_66 rfl) ?_)
            refine J_select (PV' := [.cell c_25 [v_35, .int .i64 r_28.2.2.2], .row o_Gmem_Block 45 v_35 r_59.2, .cell c_36 [.int .i64 r_28.1.Kind, .int .i64 q_40, .int .i64 r_28.1.Block]]) [0, 1, 2] (by decide) rfl ?_
            refine J_prune _ ?_ fun b => hk (r_59.2, true) _ b _ _ ⟨rfl, rfl, rfl⟩
            exact ⟨rfl, rfl, rfl, trivial⟩
          · refine JL_opg rfl rfl hc_66 (op_read rfl rfl (r_move (v := .pointer (some (Addr.add c_25 0))) rfl) ?_)
            refine JL_opg rfl rfl hc_66 (op_read rfl rfl (r_build (cs := [.int .i64 2, .int .i64 0, .int .i64 1]) (vs := [(0, .int .i64 2), (2, .int .i64 1)]) (pcs := [(0, [.int .i64 2]), (2, [.int .i64 1])]) (pls := [(0, 1), (1, 1), (2, 1)]) Try.pu29 Try.pi29 rfl (by kernel_rfl) rfl ⟨rfl, rfl, ⟨rfl, rfl, trivial⟩⟩ rfl) ?_)
            refine J_assoc ?_
            refine JL_opg rfl rfl hc_66 (op_call (f := 14) (fn := Try.f14) (args := [.pointer (some (Addr.add c_25 0)), .agg #[.int .i64 2, .int .i64 0, .int .i64 1]]) (post := mem_Memory_Free_post σ c_25 v_35 r_59.2 r_28.2.2.2 (.agg #[.int .i64 2, .int .i64 0, .int .i64 1]) (⟨2, 0, 1⟩ : Gmem_Value)) [.cell c_25 [v_35, .int .i64 r_28.2.2.2], .row o_Gmem_Block 45 v_35 r_59.2] [.cell c_36 [.int .i64 r_28.1.Kind, .int .i64 q_40, .int .i64 r_28.1.Block], .cell c_38 [.int .i64 r_28.1.Kind, .int .i64 q_42, .int .i64 r_28.1.Block]] rfl rfl rfl Try.func14 Try.pn14 rfl rfl (fun y st hy hpre => mem_Memory_Free_ref st σ c_25 v_35 r_59.2 r_28.2.2.2 (.agg #[.int .i64 2, .int .i64 0, .int .i64 1]) (⟨2, 0, 1⟩ : Gmem_Value) (t_Gmem_Value_v.2 rfl) hpre y hy) ?_)
            intro r_68 v_70 s_73 PV_71 hr_69 hle_74 hp_72
            obtain ⟨rfl, rfl, rfl⟩ := hp_72
            refine JL_opg rfl rfl hc_66 (op_read rfl rfl (r_neq rfl rfl) ?_)
            refine JL_op rfl (op_read rfl rfl (r_pick_f (v := .bool (decide (r_68.1 ≠ 6))) rfl hc_66 rfl) ?_)
            refine J_select (PV' := [.cell c_25 [v_35, .int .i64 r_28.2.2.2], .row o_Gmem_Block 45 v_35 r_68.2, .cell c_36 [.int .i64 r_28.1.Kind, .int .i64 q_40, .int .i64 r_28.1.Block]]) [0, 1, 2] (by decide) rfl ?_
            refine J_prune _ ?_ fun b => hk (r_68.2, decide (r_68.1 ≠ 6)) _ b _ _ ⟨rfl, rfl, rfl⟩
            exact ⟨rfl, rfl, rfl, trivial⟩
          · rintro y_67 _ b s_77 _ ⟨rfl, rfl, rfl⟩
            refine JL_nil ?_
            refine J_then ?_
            refine J_cond rfl (fun hc_78 => ?_) (fun hc_78 => ?_)
            · refine J_seq ?_
              refine J_region ?_
              refine JL_op rfl (op_read rfl rfl (r_assign (v := .bool false) rfl) ?_)
              refine JL_nil ?_
              refine J_then ?_
              refine J_ret ?_
              refine J_then_ret ?_
              exact J_returnV1 (PV' := []) rfl rv_tmp [] (by decide) rfl ⟨rfl, rfl, rfl⟩
            · refine J_skip ?_
              refine J_then ?_
              refine J_seq ?_
              refine J_region ?_
              refine JL_op rfl (op_read rfl rfl (r_move (v := .pointer (some (Addr.add c_25 0))) rfl) ?_)
              refine JL_op rfl (op_read rfl rfl (r_load_priv (a := c_36) (off := 0) (cs' := [.int .i64 r_28.1.Kind, .int .i64 q_40, .int .i64 r_28.1.Block]) (v := .agg #[.int .i64 r_28.1.Kind, .int .i64 q_40, .int .i64 r_28.1.Block]) 2 Try.pu29 Try.pi29 rfl rfl rfl rfl (by decide) rfl) ?_)
              refine JL_op rfl (op_call (f := 18) (fn := Try.f18) (args := [.pointer (some (Addr.add c_25 0)), .agg #[.int .i64 r_28.1.Kind, .int .i64 q_40, .int .i64 r_28.1.Block]]) (post := mem_Memory_Lock_post σ c_25 v_35 y_67.1 r_28.2.2.2 (.agg #[.int .i64 r_28.1.Kind, .int .i64 q_40, .int .i64 r_28.1.Block]) (⟨r_28.1.Kind, q_40, r_28.1.Block⟩ : Gmem_Value)) [.cell c_25 [v_35, .int .i64 r_28.2.2.2], .row o_Gmem_Block 45 v_35 y_67.1] [.cell c_36 [.int .i64 r_28.1.Kind, .int .i64 q_40, .int .i64 r_28.1.Block]] rfl rfl rfl Try.func18 Try.pn18 rfl rfl (fun y st hy hpre => mem_Memory_Lock_ref st σ c_25 v_35 y_67.1 r_28.2.2.2 (.agg #[.int .i64 r_28.1.Kind, .int .i64 q_40, .int .i64 r_28.1.Block]) (⟨r_28.1.Kind, q_40, r_28.1.Block⟩ : Gmem_Value) (t_Gmem_Value_v.2 rfl) hpre y hy) ?_)
              intro r_79 v_81 s_84 PV_82 hr_80 hle_85 hp_83
              obtain ⟨rfl, rfl, rfl⟩ := hp_83
              refine JL_op rfl (op_read rfl rfl (r_move (v := .tuple #[.bool r_79.1, .int .i64 r_79.2.1]) rfl) ?_)
              refine JL_op rfl (op_read rfl rfl (r_extract (v := .bool r_79.1) rfl rfl) ?_)
              refine JL_op rfl (op_read rfl rfl (r_extract (v := .int .i64 r_79.2.1) rfl rfl) ?_)
              refine JL_op rfl (op_read rfl rfl (r_assign (v := .bool r_79.1) rfl) ?_)
              refine JL_op rfl (op_read rfl rfl (r_assign (v := .int .i64 r_79.2.1) rfl) ?_)
              refine JL_nil ?_
              refine J_then ?_
              refine J_seq ?_
              refine J_region ?_
              refine JL_op rfl (op_read rfl rfl (r_move (v := .int .i64 r_79.2.1) rfl) ?_)
              refine JL_op rfl (op_read rfl rfl (r_eql rfl rfl) ?_)
              refine JL_op rfl (op_read rfl rfl (r_move (v := .bool (decide (r_79.2.1 = 6))) rfl) ?_)
              refine J_forkLB (e := (decide (r_79.2.1 = 6))) 5 (fun (y : Bool) L τ PV => σ = τ ∧ L = [(78, .bool y)] ∧ PV = []) (fun hc_86 hk => ?_) (fun hc_86 hk => ?_) ?_
              · refine JL_opg rfl rfl hc_86 (op_read rfl rfl (r_move (v := .pointer (some (Addr.add c_25 0))) rfl) ?_)
                refine JL_opg rfl rfl hc_86 (op_read rfl rfl (r_load_priv (a := c_36) (off := 0) (cs' := [.int .i64 r_28.1.Kind, .int .i64 q_40, .int .i64 r_28.1.Block]) (v := .agg #[.int .i64 r_28.1.Kind, .int .i64 q_40, .int .i64 r_28.1.Block]) 2 Try.pu29 Try.pi29 rfl rfl rfl rfl (by decide) rfl) ?_)
                refine J_assoc ?_
                refine JL_opg rfl rfl hc_86 (op_call (f := 19) (fn := Try.f19) (args := [.pointer (some (Addr.add c_25 0)), .agg #[.int .i64 r_28.1.Kind, .int .i64 q_40, .int .i64 r_28.1.Block]]) (post := mem_Memory_Unlock_post σ c_25 v_35 r_79.2.2 r_28.2.2.2 (.agg #[.int .i64 r_28.1.Kind, .int .i64 q_40, .int .i64 r_28.1.Block]) (⟨r_28.1.Kind, q_40, r_28.1.Block⟩ : Gmem_Value)) [.cell c_25 [v_35, .int .i64 r_28.2.2.2], .row o_Gmem_Block 45 v_35 r_79.2.2] [.cell c_36 [.int .i64 r_28.1.Kind, .int .i64 q_40, .int .i64 r_28.1.Block]] rfl rfl rfl Try.func19 Try.pn19 rfl rfl (fun y st hy hpre => mem_Memory_Unlock_ref st σ c_25 v_35 r_79.2.2 r_28.2.2.2 (.agg #[.int .i64 r_28.1.Kind, .int .i64 q_40, .int .i64 r_28.1.Block]) (⟨r_28.1.Kind, q_40, r_28.1.Block⟩ : Gmem_Value) (t_Gmem_Value_v.2 rfl) hpre y hy) ?_)
                intro r_88 v_90 s_93 PV_91 hr_89 hle_94 hp_92
                obtain ⟨rfl, rfl, rfl⟩ := hp_92
                refine JL_opg rfl rfl hc_86 (op_read rfl rfl (r_eql rfl rfl) ?_)
                refine JL_op rfl (op_read rfl rfl (r_pick_t (v := .bool (decide (r_88.1 = 6))) rfl hc_86 rfl) ?_)
                refine J_select (PV' := []) [] (by decide) rfl ?_
                refine J_prune _ ?_ fun b => hk (decide (r_88.1 = 6)) _ b _ _ ⟨rfl, rfl, rfl⟩
                exact ⟨rfl, trivial⟩
              · refine JL_skip rfl rfl hc_86 rfl rfl ?_
                refine JL_skip rfl rfl hc_86 rfl rfl ?_
                refine JL_skip rfl rfl hc_86 rfl rfl ?_
                refine JL_skip rfl rfl hc_86 rfl rfl ?_
                refine JL_op rfl (op_read rfl rfl (r_pick_f (v := .bool false) rfl hc_86 rfl) ?_)
                refine J_select (PV' := []) [] (by decide) rfl ?_
                refine J_prune _ ?_ fun b => hk false _ b _ _ ⟨rfl, rfl, rfl⟩
                exact ⟨rfl, trivial⟩
              · rintro y_87 _ b s_97 _ ⟨rfl, rfl, rfl⟩
                refine JL_op rfl (op_read rfl rfl (r_assign (v := .bool y_87) rfl) ?_)
                refine JL_nil ?_
                refine J_then ?_
                refine J_ret ?_
                exact J_returnV1 (PV' := []) rfl rv_tmp [] (by decide) rfl ⟨rfl, rfl, rfl⟩
end Go.Px
