/- The calls do what the models say, part 1. -/
import Derived.Test.YthpibdcdeopneaaMd
namespace Go.Px
open Go.Proofs
set_option linter.unusedVariables false
def mem_New_post (σ0 : FS)  (r : (Sl Gmem_Block)) (σ : FS) (PV : List Priv) (v : Value) : Prop :=
  ∃ (w0 : Addr) (w1 : Value), σ0 = σ ∧ .pointer (some (Addr.add w0 0)) = v ∧ PV = [.cell w0 [w1, .int .i64 0], .row o_Gmem_Block 45 w1 r]
set_option maxRecDepth 100000 in
theorem mem_New_ref (s : Start) (σ : FS)  (hs : Pre s σ []) (r : (Sl Gmem_Block)) (hr : mem_New  = some r) : Does Try.prog 11 [] s σ (mem_New_post σ  r) := by
  unfold mem_New at hr
  refine does_of_J Try.func11 rfl (n := 3) rfl rfl hs hr ?_
  refine J_seq ?_
  refine J_region ?_
  refine JL_op rfl (op_read rfl rfl (r_assign (v := .pointer none) rfl) ?_)
  refine JL_nil ?_
  refine J_then ?_
  refine J_seq ?_
  refine J_region ?_
  refine JL_op rfl (op_read rfl rfl (r_build (cs := [.slice none 0 0, .int .i64 0]) (vs := []) (pcs := []) (pls := [(0, 1), (1, 1)]) Try.pu64 Try.pi64 rfl (by kernel_rfl) rfl trivial rfl) ?_)
  refine JL_op rfl (op_box (cs := [.slice none 0 0, .int .i64 0]) rfl rfl ?_)
  intro c_1
  refine JL_op rfl (op_read rfl rfl (r_assign (v := .pointer (some (Addr.add c_1 0))) rfl) ?_)
  refine JL_nil ?_
  refine J_then ?_
  refine J_ret ?_
  refine J_nil_row o_Gmem_Block 45 ?_
  exact J_returnV1 (PV' := [.cell c_1 [(.slice none 0 0), .int .i64 0], .row o_Gmem_Block 45 (.slice none 0 0) (⟨[], false⟩ : Sl Gmem_Block)]) rfl rv_tmp [1, 0] (by decide) rfl ⟨c_1, (.slice none 0 0), rfl, rfl, rfl⟩
def mem_Memory_Alloc_post (σ0 : FS) (a_1 : Addr) (v_2 : Value) (x_3 : Sl Gmem_Block) (used_4 : Int) (n_5 : Int) (r : Gmem_Value × Bool × (Sl Gmem_Block) × Int) (σ : FS) (PV : List Priv) (v : Value) : Prop :=
  ∃ (w0 : Value), σ0 = σ ∧ .tuple #[.agg #[.int .i64 r.1.Kind, .int .i64 r.1.N, .int .i64 r.1.Block], .bool r.2.1] = v ∧ PV = [.cell a_1 [w0, .int .i64 r.2.2.2], .row o_Gmem_Block 45 w0 r.2.2.1]
set_option maxRecDepth 100000 in
theorem mem_Memory_Alloc_ref (s : Start) (σ : FS) (a_1 : Addr) (v_2 : Value) (x_3 : Sl Gmem_Block) (used_4 : Int) (n_5 : Int) (hs : Pre s σ [.cell a_1 [v_2, .int .i64 used_4], .row o_Gmem_Block 45 v_2 x_3]) (r : Gmem_Value × Bool × (Sl Gmem_Block) × Int) (hr : mem_Memory_Alloc x_3 used_4 n_5 = some r) : Does Try.prog 12 [.pointer (some (Addr.add a_1 0)), .int .i64 n_5] s σ (mem_Memory_Alloc_post σ a_1 v_2 x_3 used_4 n_5 r) := by
  unfold mem_Memory_Alloc at hr
  refine does_of_J Try.func12 rfl (n := 58) rfl rfl hs hr ?_
  refine J_seq ?_
  refine J_region ?_
  refine JL_op rfl (op_alloc (cs := [.int .i64 0, .int .i64 0, .int .i64 0]) rfl Try.pi29 rfl rfl ?_)
  intro c_6
  refine JL_op rfl (op_read rfl rfl (r_assign (v := .bool false) rfl) ?_)
  refine JL_nil ?_
  refine J_then ?_
  refine J_seq ?_
  refine J_seq ?_
  refine J_region ?_
  refine JL_op rfl (op_read rfl rfl (r_move (v := .pointer (some (Addr.add a_1 0))) rfl) ?_)
  refine JL_op rfl (op_read rfl rfl (r_eqnil_ptr Try.pu25 rfl rfl rfl) ?_)
  refine JL_op rfl (op_read rfl rfl (r_move (v := .bool false) rfl) ?_)
  refine JL_opg rfl rfl rfl (op_read rfl rfl (r_move (v := .int .i64 n_5) rfl) ?_)
  refine JL_opg rfl rfl rfl (op_read rfl rfl (r_lss rfl rfl) ?_)
  refine JL_op rfl (op_read rfl rfl (r_pick_f (v := .bool (decide (n_5 < 0))) rfl rfl rfl) ?_)
  refine JL_op rfl (op_read rfl rfl (r_move (v := .bool (decide (n_5 < 0))) rfl) ?_)
  refine J_forkL (e := (decide (n_5 < 0))) 3 [(0, .pointer (some (Addr.add a_1 0))), (1, .int .i64 n_5), (4, .pointer (some (Addr.add c_6 0))), (15, .bool (decide (n_5 < 0) || decide (256 < n_5)))] (fun hc_8 hk => ?_) (fun hc_8 hk => ?_) (fun b => ?_)
  · refine JL_skip rfl rfl hc_8 rfl rfl ?_
    refine JL_skip rfl rfl hc_8 rfl rfl ?_
    refine JL_op rfl (op_read rfl rfl (r_pick_t (v := .bool true) rfl hc_8 rfl) ?_)
    refine J_prune [(0, .pointer (some (Addr.add a_1 0))), (1, .int .i64 n_5), (4, .pointer (some (Addr.add c_6 0))), (15, .bool (decide (n_5 < 0) || decide (256 < n_5)))] ⟨rfl, rfl, rfl, (by show Value.bool _ = Value.bool _; rw [hc_8]; rfl), trivial⟩ hk
  · refine JL_opg rfl rfl hc_8 (op_read rfl rfl (r_move (v := .int .i64 n_5) rfl) ?_)
    refine JL_opg rfl rfl hc_8 (op_read rfl rfl (r_gtr rfl rfl) ?_)
    refine JL_op rfl (op_read rfl rfl (r_pick_f (v := .bool (decide (256 < n_5))) rfl hc_8 rfl) ?_)
    refine J_prune [(0, .pointer (some (Addr.add a_1 0))), (1, .int .i64 n_5), (4, .pointer (some (Addr.add c_6 0))), (15, .bool (decide (n_5 < 0) || decide (256 < n_5)))] ⟨rfl, rfl, rfl, (by show Value.bool _ = Value.bool _; rw [hc_8]; rfl), trivial⟩ hk
  · refine JL_op rfl (op_read rfl rfl (r_move (v := .bool (decide (n_5 < 0) || decide (256 < n_5))) rfl) ?_)
    refine J_forkL (e := (decide (n_5 < 0) || decide (256 < n_5))) 9 [(0, .pointer (some (Addr.add a_1 0))), (1, .int .i64 n_5), (4, .pointer (some (Addr.add c_6 0))), (25, .bool ((decide (n_5 < 0) || decide (256 < n_5)) || decide (4096 < (IntKind.i64.wrap ((IntKind.i64.wrap (used_4 + n_5)) + 1)))))] (fun hc_9 hk => ?_) (fun hc_9 hk => ?_) (fun b => ?_)
    · refine JL_skip rfl rfl hc_9 rfl rfl ?_
      refine JL_skip rfl rfl hc_9 rfl rfl ?_
      refine JL_skip rfl rfl hc_9 rfl rfl ?_
      refine JL_skip rfl rfl hc_9 rfl rfl ?_
      refine JL_skip rfl rfl hc_9 rfl rfl ?_
      refine JL_skip rfl rfl hc_9 rfl rfl ?_
      refine JL_skip rfl rfl hc_9 rfl rfl ?_
      refine JL_skip rfl rfl hc_9 rfl rfl ?_
      refine JL_op rfl (op_read rfl rfl (r_pick_t (v := .bool true) rfl hc_9 rfl) ?_)
      refine J_prune [(0, .pointer (some (Addr.add a_1 0))), (1, .int .i64 n_5), (4, .pointer (some (Addr.add c_6 0))), (25, .bool ((decide (n_5 < 0) || decide (256 < n_5)) || decide (4096 < (IntKind.i64.wrap ((IntKind.i64.wrap (used_4 + n_5)) + 1)))))] ⟨rfl, rfl, rfl, (by show Value.bool _ = Value.bool _; rw [hc_9]; rfl), trivial⟩ hk
    · refine JL_opg rfl rfl hc_9 (op_read rfl rfl (r_move (v := .pointer (some (Addr.add a_1 0))) rfl) ?_)
      refine JL_opg rfl rfl hc_9 (op_read rfl rfl (r_nilCheck (a := (Addr.add a_1 0)) rfl) ?_)
      refine JL_opg rfl rfl hc_9 (op_read rfl rfl (r_fieldAddr (r := Addr.add a_1 1) Try.pu64 (f := Try.pf64.getD 1 default) rfl Try.pi3 (by decide) rfl (Addr.add_add _ _ _)) ?_)
      refine JL_opg rfl rfl hc_9 (op_read rfl rfl (r_load_priv (a := a_1) (off := 1) (cs' := [.int .i64 used_4]) (v := .int .i64 used_4) 1 Try.pu3 Try.pi3 rfl rfl rfl rfl (by decide) rfl) ?_)
      refine JL_opg rfl rfl hc_9 (op_read rfl rfl (r_move (v := .int .i64 n_5) rfl) ?_)
      refine JL_opg rfl rfl hc_9 (op_read rfl rfl (r_add rfl rfl) ?_)
      refine JL_opg rfl rfl hc_9 (op_read rfl rfl (r_add rfl rfl) ?_)
      refine JL_opg rfl rfl hc_9 (op_read rfl rfl (r_gtr rfl rfl) ?_)
      refine JL_op rfl (op_read rfl rfl (r_pick_f (v := .bool (decide (4096 < (IntKind.i64.wrap ((IntKind.i64.wrap (used_4 + n_5)) + 1))))) rfl hc_9 rfl) ?_)
      refine J_prune [(0, .pointer (some (Addr.add a_1 0))), (1, .int .i64 n_5), (4, .pointer (some (Addr.add c_6 0))), (25, .bool ((decide (n_5 < 0) || decide (256 < n_5)) || decide (4096 < (IntKind.i64.wrap ((IntKind.i64.wrap (used_4 + n_5)) + 1)))))] ⟨rfl, rfl, rfl, (by show Value.bool _ = Value.bool _; rw [hc_9]; rfl), trivial⟩ hk
    · refine JL_nil ?_
      refine J_then ?_
      refine J_cond rfl (fun hc_10 => ?_) (fun hc_10 => ?_)
      · refine J_seq ?_
        refine J_region ?_
        refine JL_op rfl (op_read rfl rfl (r_build (cs := [.int .i64 0, .int .i64 0, .int .i64 0]) (vs := []) (pcs := []) (pls := [(0, 1), (1, 1), (2, 1)]) Try.pu29 Try.pi29 rfl (by kernel_rfl) rfl trivial rfl) ?_)
        refine JL_op rfl (op_store_priv (a := c_6) (off := 0) (vs := [.int .i64 0, .int .i64 0, .int .i64 0]) (cs' := [.int .i64 0, .int .i64 0, .int .i64 0]) (PV' := [.cell c_6 [.int .i64 0, .int .i64 0, .int .i64 0], .cell a_1 [v_2, .int .i64 used_4], .row o_Gmem_Block 45 v_2 x_3]) 0 Try.pi29 rfl rfl rfl ⟨rfl, rfl, rfl, trivial⟩ rfl rfl rfl rfl rfl ?_)
        refine JL_op rfl (op_read rfl rfl (r_assign (v := .bool false) rfl) ?_)
        refine JL_nil ?_
        refine J_then ?_
        refine J_ret ?_
        refine J_then_ret ?_
        exact J_returnV2 (PV' := [.cell a_1 [v_2, .int .i64 used_4], .row o_Gmem_Block 45 v_2 x_3]) rfl (rv_cell (cs := [.int .i64 0, .int .i64 0, .int .i64 0]) (v := .agg #[.int .i64 0, .int .i64 0, .int .i64 0]) 0 Try.pu29 Try.pi29 rfl rfl rfl (by decide) rfl) rv_tmp [1, 2] (by decide) rfl ⟨v_2, rfl, rfl, rfl⟩
      · refine J_skip ?_
        refine J_then ?_
        refine J_seq ?_
        refine J_region ?_
        refine JL_op rfl (op_read rfl rfl (r_move (v := .pointer (some (Addr.add a_1 0))) rfl) ?_)
        refine JL_op rfl (op_read rfl rfl (r_nilCheck (a := (Addr.add a_1 0)) rfl) ?_)
        refine JL_op rfl (op_read rfl rfl (r_fieldAddr (r := Addr.add a_1 1) Try.pu64 (f := Try.pf64.getD 1 default) rfl Try.pi3 (by decide) rfl (Addr.add_add _ _ _)) ?_)
        refine JL_op rfl (op_read rfl rfl (r_load_priv (a := a_1) (off := 1) (cs' := [.int .i64 used_4]) (v := .int .i64 used_4) 1 Try.pu3 Try.pi3 rfl rfl rfl rfl (by decide) rfl) ?_)
        refine JL_op rfl (op_read rfl rfl (r_move (v := .int .i64 n_5) rfl) ?_)
        refine JL_op rfl (op_read rfl rfl (r_add rfl rfl) ?_)
        refine JL_op rfl (op_read rfl rfl (r_add rfl rfl) ?_)
        refine JL_op rfl (op_read rfl rfl (r_nilCheck (a := (Addr.add a_1 0)) rfl) ?_)
        refine JL_op rfl (op_read rfl rfl (r_fieldAddr (r := Addr.add a_1 1) Try.pu64 (f := Try.pf64.getD 1 default) rfl Try.pi3 (by decide) rfl (Addr.add_add _ _ _)) ?_)
        refine JL_op rfl (op_store_priv (a := a_1) (off := 1) (vs := [.int .i64 (IntKind.i64.wrap (used_4 + (IntKind.i64.wrap (n_5 + 1))))]) (cs' := [v_2, .int .i64 (IntKind.i64.wrap (used_4 + (IntKind.i64.wrap (n_5 + 1))))]) (PV' := [.cell c_6 [.int .i64 0, .int .i64 0, .int .i64 0], .cell a_1 [v_2, .int .i64 (IntKind.i64.wrap (used_4 + (IntKind.i64.wrap (n_5 + 1))))], .row o_Gmem_Block 45 v_2 x_3]) 1 Try.pi3 rfl rfl rfl ⟨rfl, trivial⟩ rfl rfl rfl rfl rfl ?_)
        refine JL_nil ?_
        refine J_then ?_
        refine J_seq ?_
        refine J_region_any 13 [.cell c_6 [.int .i64 0, .int .i64 0, .int .i64 0], .cell a_1 [v_2, .int .i64 (IntKind.i64.wrap (used_4 + (IntKind.i64.wrap (n_5 + 1))))], .row o_Gmem_Block 45 v_2 x_3] Try.mixed (by kernel_rfl) fun hns => ?_
        have hS_11 : HeldOK σ [.cell c_6 [.int .i64 0, .int .i64 0, .int .i64 0], .cell a_1 [v_2, .int .i64 (IntKind.i64.wrap (used_4 + (IntKind.i64.wrap (n_5 + 1))))], .row o_Gmem_Block 45 v_2 x_3] σ [.cell c_6 [.int .i64 0, .int .i64 0, .int .i64 0], .cell a_1 [v_2, .int .i64 (IntKind.i64.wrap (used_4 + (IntKind.i64.wrap (n_5 + 1))))], .row o_Gmem_Block 45 v_2 x_3] := HeldOK.same [0, 1, 2] (by decide) rfl
        refine JA_takep 0 rfl hns (by kernel_rfl) (by kernel_rfl) rfl (.inr hS_11) rfl rfl rfl (r_move (v := .pointer (some (Addr.add a_1 0))) rfl) ?_
        refine JA_takep 1 rfl hns (by kernel_rfl) (by kernel_rfl) rfl (.inr hS_11) rfl rfl rfl (r_move (v := .pointer (some (Addr.add a_1 0))) rfl) ?_
        refine JA_takep 2 rfl hns (by kernel_rfl) (by kernel_rfl) rfl (.inr hS_11) rfl rfl rfl (r_nilCheck (a := (Addr.add a_1 0)) rfl) ?_
        refine JA_takep 3 rfl hns (by kernel_rfl) (by kernel_rfl) rfl (.inr hS_11) rfl rfl rfl (r_fieldAddr (r := Addr.add a_1 0) Try.pu64 (f := Try.pf64.getD 0 default) rfl Try.pi41 (by decide) rfl (Addr.add_add _ _ _)) ?_
        refine JA_take 4 rfl hns (by kernel_rfl) (by kernel_rfl) (by kernel_rfl) rfl (by kernel_rfl) hS_11 rfl rfl rfl (r_load_priv (a := a_1) (off := 0) (cs' := [v_2]) (v := v_2) 1 Try.pu41 Try.pi41 rfl rfl rfl rfl (by decide) rfl) ?_
        refine JA_takep 5 rfl hns (by kernel_rfl) (by kernel_rfl) rfl (.inr hS_11) rfl rfl rfl (r_move (v := .int .i64 n_5) rfl) ?_
        refine JA_takep 7 rfl hns (by kernel_rfl) (by kernel_rfl) rfl (.inr hS_11) rfl rfl rfl (r_move (v := .int .i64 n_5) rfl) ?_
        refine JA_takep 9 rfl hns (by kernel_rfl) (by kernel_rfl) rfl (.inr hS_11) rfl rfl rfl (r_move (v := .int .i64 n_5) rfl) ?_
        refine J_bind fun k_12 hk_13 => ?_
        refine J_bind fun k_14 hk_15 => ?_
        refine J_bind fun k_16 hk_17 => ?_
        refine J_bind fun k_18 hk_19 => ?_
        refine J_meetD (fun y => mem_Memory_Alloc_K1 k_18 n_5 used_4 y) 0 #[true, true, true, true, true, true, true, true, true, true, true, true, true, true, true, true, true] (fun (y : Unit) L τ PV => ∃ (w0 : Value), σ = τ ∧ L = [(0, .pointer (some (Addr.add a_1 0))), (4, .pointer (some (Addr.add c_6 0)))] ∧ PV = [.cell a_1 [w0, .int .i64 (IntKind.i64.wrap (used_4 + (IntKind.i64.wrap (n_5 + 1))))], .row o_Gmem_Block 45 w0 k_18, .cell c_6 [.int .i64 0, .int .i64 0, .int .i64 0]]) (fun hk => ?_) ?_
        · refine JA_three (i := 6) (j := 8) (k := 10) (by kernel_rfl) ?_ ?_ ?_
          · refine J1_op rfl rfl (op_known hk_13 (op_make (T := (t_Gmem_Value).o) (q := (⟨0, 0, 0⟩ : Gmem_Value)) rfl Try.pu43 Try.pi29 rfl rfl rfl rfl rfl (fun σ => (Plain.spec (T := t_Gmem_Value) σ _ _).2 rfl) ?_))
            intro z_27 v_25 hz_28
            obtain rfl := Option.some.inj (hk_13.symm.trans hz_28)
            have hS_29 : HeldOK σ [.cell c_6 [.int .i64 0, .int .i64 0, .int .i64 0], .cell a_1 [v_2, .int .i64 (IntKind.i64.wrap (used_4 + (IntKind.i64.wrap (n_5 + 1))))], .row o_Gmem_Block 45 v_2 x_3] σ [.row (t_Gmem_Value).o 29 v_25 k_12, .cell c_6 [.int .i64 0, .int .i64 0, .int .i64 0], .cell a_1 [v_2, .int .i64 (IntKind.i64.wrap (used_4 + (IntKind.i64.wrap (n_5 + 1))))], .row o_Gmem_Block 45 v_2 x_3] := HeldOK.same [1, 2, 3] (by decide) rfl
            refine ⟨.inr hS_29, ?_⟩
            refine JA_two (i := 8) (j := 10) (by kernel_rfl) ?_ ?_
            · refine J1_op rfl rfl (op_known hk_15 (op_make (T := ((tInt .i64)).o) (q := 0) rfl Try.pu36 Try.pi3 rfl rfl rfl rfl rfl (fun σ => rfl) ?_))
              intro z_32 v_30 hz_33
              obtain rfl := Option.some.inj (hk_15.symm.trans hz_33)
              have hS_34 : HeldOK σ [.cell c_6 [.int .i64 0, .int .i64 0, .int .i64 0], .cell a_1 [v_2, .int .i64 (IntKind.i64.wrap (used_4 + (IntKind.i64.wrap (n_5 + 1))))], .row o_Gmem_Block 45 v_2 x_3] σ [.row ((tInt .i64)).o 3 v_30 k_14, .row (t_Gmem_Value).o 29 v_25 k_12, .cell c_6 [.int .i64 0, .int .i64 0, .int .i64 0], .cell a_1 [v_2, .int .i64 (IntKind.i64.wrap (used_4 + (IntKind.i64.wrap (n_5 + 1))))], .row o_Gmem_Block 45 v_2 x_3] := HeldOK.same [2, 3, 4] (by decide) rfl
              refine ⟨.inr hS_34, ?_⟩
              refine JA_op (i := 10) (by kernel_rfl) rfl rfl (op_known hk_17 (op_make (T := (tBool).o) (q := false) rfl Try.pu23 Try.pi4 rfl rfl rfl rfl rfl (fun σ => rfl) ?_))
              intro z_37 v_35 hz_38
              obtain rfl := Option.some.inj (hk_17.symm.trans hz_38)
              have hS_39 : HeldOK σ [.cell c_6 [.int .i64 0, .int .i64 0, .int .i64 0], .cell a_1 [v_2, .int .i64 (IntKind.i64.wrap (used_4 + (IntKind.i64.wrap (n_5 + 1))))], .row o_Gmem_Block 45 v_2 x_3] σ [.row (tBool).o 4 v_35 k_16, .row ((tInt .i64)).o 3 v_30 k_14, .row (t_Gmem_Value).o 29 v_25 k_12, .cell c_6 [.int .i64 0, .int .i64 0, .int .i64 0], .cell a_1 [v_2, .int .i64 (IntKind.i64.wrap (used_4 + (IntKind.i64.wrap (n_5 + 1))))], .row o_Gmem_Block 45 v_2 x_3] := HeldOK.same [3, 4, 5] (by decide) rfl
              refine ⟨.inr hS_39, ?_⟩
              refine J_row_one 2 rfl fun h_40 => ?_
              refine J_row_one 1 rfl fun h_41 => ?_
              refine J_row_one 0 rfl fun h_42 => ?_
              refine JA_takep 11 rfl hns (by kernel_rfl) (by kernel_rfl) rfl (.inr hS_39) rfl rfl rfl (r_build (cs := [.bool true, v_25, v_30, v_35]) (vs := [(0, .bool true), (1, v_25), (2, v_30), (3, v_35)]) (pcs := [(0, [.bool true]), (1, [v_25]), (2, [v_30]), (3, [v_35])]) (pls := [(0, 1), (1, 1), (2, 1), (3, 1)]) Try.pu45 Try.pi45 rfl (by kernel_rfl) rfl ⟨rfl, rfl, ⟨rfl, (one_cells h_40), ⟨rfl, (one_cells h_41), ⟨rfl, (one_cells h_42), trivial⟩⟩⟩⟩ rfl) ?_
              refine J_select (PV' := [.row (t_Gmem_Value).o 29 v_25 k_12, .row ((tInt .i64)).o 3 v_30 k_14, .row (tBool).o 4 v_35 k_16, .cell c_6 [.int .i64 0, .int .i64 0, .int .i64 0], .cell a_1 [v_2, .int .i64 (IntKind.i64.wrap (used_4 + (IntKind.i64.wrap (n_5 + 1))))], .row o_Gmem_Block 45 v_2 x_3]) [2, 1, 0, 3, 4, 5] (by decide) rfl ?_
              have hS_45 : HeldOK σ [.cell c_6 [.int .i64 0, .int .i64 0, .int .i64 0], .cell a_1 [v_2, .int .i64 (IntKind.i64.wrap (used_4 + (IntKind.i64.wrap (n_5 + 1))))], .row o_Gmem_Block 45 v_2 x_3] σ [.row (t_Gmem_Value).o 29 v_25 k_12, .row ((tInt .i64)).o 3 v_30 k_14, .row (tBool).o 4 v_35 k_16, .cell c_6 [.int .i64 0, .int .i64 0, .int .i64 0], .cell a_1 [v_2, .int .i64 (IntKind.i64.wrap (used_4 + (IntKind.i64.wrap (n_5 + 1))))], .row o_Gmem_Block 45 v_2 x_3] := HeldOK.same [3, 4, 5] (by decide) rfl
              refine JA_op (i := 12) (by kernel_rfl) rfl rfl (op_buildSlice (T := o_Gmem_Block) (vs := [.agg #[.bool true, v_25, v_30, v_35]]) (xs := [(⟨true, k_12, k_14, k_16⟩ : Gmem_Block)]) [.row (t_Gmem_Value).o 29 v_25 k_12, .row ((tInt .i64)).o 3 v_30 k_14, .row (tBool).o 4 v_35 k_16] [.cell c_6 [.int .i64 0, .int .i64 0, .int .i64 0], .cell a_1 [v_2, .int .i64 (IntKind.i64.wrap (used_4 + (IntKind.i64.wrap (n_5 + 1))))], .row o_Gmem_Block 45 v_2 x_3] rfl Try.pu41 Try.pi45 rfl rfl rfl rfl rfl rfl (relsO_cons (A := [.row (t_Gmem_Value).o 29 v_25 k_12, .row ((tInt .i64)).o 3 v_30 k_14, .row (tBool).o 4 v_35 k_16]) (B := []) (u := .agg #[.bool true, v_25, v_30, v_35]) (x := (⟨true, k_12, k_14, k_16⟩ : Gmem_Block)) (opn_vrel (T := o_Gmem_Block) (u := ((), v_25, v_30, v_35)) ⟨trivial, trivial, trivial, trivial⟩ rfl rfl rfl) relsO_nil) ?_)
              intro v_43
              have hS_46 : HeldOK σ [.cell c_6 [.int .i64 0, .int .i64 0, .int .i64 0], .cell a_1 [v_2, .int .i64 (IntKind.i64.wrap (used_4 + (IntKind.i64.wrap (n_5 + 1))))], .row o_Gmem_Block 45 v_2 x_3] σ [.row o_Gmem_Block 45 v_43 (⟨[(⟨true, k_12, k_14, k_16⟩ : Gmem_Block)], true⟩ : Sl Gmem_Block), .cell c_6 [.int .i64 0, .int .i64 0, .int .i64 0], .cell a_1 [v_2, .int .i64 (IntKind.i64.wrap (used_4 + (IntKind.i64.wrap (n_5 + 1))))], .row o_Gmem_Block 45 v_2 x_3] := HeldOK.same [1, 2, 3] (by decide) rfl
              refine ⟨.inr hS_46, ?_⟩
              refine J_select (PV' := [.row o_Gmem_Block 45 v_2 x_3, .row o_Gmem_Block 45 v_43 (⟨[(⟨true, k_12, k_14, k_16⟩ : Gmem_Block)], true⟩ : Sl Gmem_Block), .cell c_6 [.int .i64 0, .int .i64 0, .int .i64 0], .cell a_1 [v_2, .int .i64 (IntKind.i64.wrap (used_4 + (IntKind.i64.wrap (n_5 + 1))))]]) [3, 0, 1, 2] (by decide) rfl ?_
              have hS_48 : HeldOK σ [.cell c_6 [.int .i64 0, .int .i64 0, .int .i64 0], .cell a_1 [v_2, .int .i64 (IntKind.i64.wrap (used_4 + (IntKind.i64.wrap (n_5 + 1))))], .row o_Gmem_Block 45 v_2 x_3] σ [.row o_Gmem_Block 45 v_2 x_3, .row o_Gmem_Block 45 v_43 (⟨[(⟨true, k_12, k_14, k_16⟩ : Gmem_Block)], true⟩ : Sl Gmem_Block), .cell c_6 [.int .i64 0, .int .i64 0, .int .i64 0], .cell a_1 [v_2, .int .i64 (IntKind.i64.wrap (used_4 + (IntKind.i64.wrap (n_5 + 1))))]] := HeldOK.same [2, 3, 0] (by decide) rfl
              refine JA_op (i := 13) (by kernel_rfl) rfl rfl (op_known hk_19 (op_append (v := v_2) (u := v_43) (T := o_Gmem_Block) (ts := [(⟨true, k_12, k_14, k_16⟩ : Gmem_Block)]) [.row o_Gmem_Block 45 v_43 (⟨[(⟨true, k_12, k_14, k_16⟩ : Gmem_Block)], true⟩ : Sl Gmem_Block)] [.cell c_6 [.int .i64 0, .int .i64 0, .int .i64 0], .cell a_1 [v_2, .int .i64 (IntKind.i64.wrap (used_4 + (IntKind.i64.wrap (n_5 + 1))))]] rfl Try.pu41 Try.pi45 rfl rfl rfl rfl rfl rfl source_move ?_))
              intro z_49 v_47 hz_50
              obtain rfl := Option.some.inj (hk_19.symm.trans hz_50)
              refine ⟨.inl (.inl rfl), ?_⟩
              refine JA_takep 14 rfl hns (by kernel_rfl) (by kernel_rfl) rfl (.inl rfl) rfl rfl rfl (r_nilCheck (a := (Addr.add a_1 0)) rfl) ?_
              refine JA_takep 15 rfl hns (by kernel_rfl) (by kernel_rfl) rfl (.inl rfl) rfl rfl rfl (r_fieldAddr (r := Addr.add a_1 0) Try.pu64 (f := Try.pf64.getD 0 default) rfl Try.pi41 (by decide) rfl (Addr.add_add _ _ _)) ?_
              refine J_row_one 0 rfl fun h_51 => ?_
              refine JA_op (i := 16) (by kernel_rfl) rfl rfl (op_store_priv (a := a_1) (off := 0) (vs := [v_47]) (cs' := [v_47, .int .i64 (IntKind.i64.wrap (used_4 + (IntKind.i64.wrap (n_5 + 1))))]) (PV' := [.row o_Gmem_Block 45 v_47 k_18, .cell c_6 [.int .i64 0, .int .i64 0, .int .i64 0], .cell a_1 [v_47, .int .i64 (IntKind.i64.wrap (used_4 + (IntKind.i64.wrap (n_5 + 1))))]]) 2 Try.pi41 rfl (one_cells h_51) rfl ⟨h_51, trivial⟩ rfl rfl rfl rfl rfl ?_)
              refine ⟨.inl (.inr rfl), ?_⟩
              refine J_select (PV' := [.cell a_1 [v_47, .int .i64 (IntKind.i64.wrap (used_4 + (IntKind.i64.wrap (n_5 + 1))))], .row o_Gmem_Block 45 v_47 k_18, .cell c_6 [.int .i64 0, .int .i64 0, .int .i64 0]]) [2, 0, 1] (by decide) rfl ?_
              refine J_prune _ ?_ fun b => hk () _ b _ _ ⟨v_47, rfl, rfl, rfl⟩
              exact ⟨rfl, rfl, trivial⟩
            · refine J1_op rfl rfl (op_known hk_17 (op_make (T := (tBool).o) (q := false) rfl Try.pu23 Try.pi4 rfl rfl rfl rfl rfl (fun σ => rfl) ?_))
              intro z_55 v_53 hz_56
              obtain rfl := Option.some.inj (hk_17.symm.trans hz_56)
              have hS_57 : HeldOK σ [.cell c_6 [.int .i64 0, .int .i64 0, .int .i64 0], .cell a_1 [v_2, .int .i64 (IntKind.i64.wrap (used_4 + (IntKind.i64.wrap (n_5 + 1))))], .row o_Gmem_Block 45 v_2 x_3] σ [.row (tBool).o 4 v_53 k_16, .row (t_Gmem_Value).o 29 v_25 k_12, .cell c_6 [.int .i64 0, .int .i64 0, .int .i64 0], .cell a_1 [v_2, .int .i64 (IntKind.i64.wrap (used_4 + (IntKind.i64.wrap (n_5 + 1))))], .row o_Gmem_Block 45 v_2 x_3] := HeldOK.same [2, 3, 4] (by decide) rfl
              refine ⟨.inr hS_57, ?_⟩
              refine JA_op (i := 8) (by kernel_rfl) rfl rfl (op_known hk_15 (op_make (T := ((tInt .i64)).o) (q := 0) rfl Try.pu36 Try.pi3 rfl rfl rfl rfl rfl (fun σ => rfl) ?_))
              intro z_60 v_58 hz_61
              obtain rfl := Option.some.inj (hk_15.symm.trans hz_61)
              have hS_62 : HeldOK σ [.cell c_6 [.int .i64 0, .int .i64 0, .int .i64 0], .cell a_1 [v_2, .int .i64 (IntKind.i64.wrap (used_4 + (IntKind.i64.wrap (n_5 + 1))))], .row o_Gmem_Block 45 v_2 x_3] σ [.row ((tInt .i64)).o 3 v_58 k_14, .row (tBool).o 4 v_53 k_16, .row (t_Gmem_Value).o 29 v_25 k_12, .cell c_6 [.int .i64 0, .int .i64 0, .int .i64 0], .cell a_1 [v_2, .int .i64 (IntKind.i64.wrap (used_4 + (IntKind.i64.wrap (n_5 + 1))))], .row o_Gmem_Block 45 v_2 x_3] := HeldOK.same [3, 4, 5] (by decide) rfl
              refine ⟨.inr hS_62, ?_⟩
              refine J_row_one 2 rfl fun h_63 => ?_
              refine J_row_one 0 rfl fun h_64 => ?_
              refine J_row_one 1 rfl fun h_65 => ?_
              refine JA_takep 11 rfl hns (by kernel_rfl) (by kernel_rfl) rfl (.inr hS_62) rfl rfl rfl (r_build (cs := [.bool true, v_25, v_58, v_53]) (vs := [(0, .bool true), (1, v_25), (2, v_58), (3, v_53)]) (pcs := [(0, [.bool true]), (1, [v_25]), (2, [v_58]), (3, [v_53])]) (pls := [(0, 1), (1, 1), (2, 1), (3, 1)]) Try.pu45 Try.pi45 rfl (by kernel_rfl) rfl ⟨rfl, rfl, ⟨rfl, (one_cells h_63), ⟨rfl, (one_cells h_64), ⟨rfl, (one_cells h_65), trivial⟩⟩⟩⟩ rfl) ?_
              refine J_select (PV' := [.row (t_Gmem_Value).o 29 v_25 k_12, .row ((tInt .i64)).o 3 v_58 k_14, .row (tBool).o 4 v_53 k_16, .cell c_6 [.int .i64 0, .int .i64 0, .int .i64 0], .cell a_1 [v_2, .int .i64 (IntKind.i64.wrap (used_4 + (IntKind.i64.wrap (n_5 + 1))))], .row o_Gmem_Block 45 v_2 x_3]) [2, 0, 1, 3, 4, 5] (by decide) rfl ?_
              have hS_68 : HeldOK σ [.cell c_6 [.int .i64 0, .int .i64 0, .int .i64 0], .cell a_1 [v_2, .int .i64 (IntKind.i64.wrap (used_4 + (IntKind.i64.wrap (n_5 + 1))))], .row o_Gmem_Block 45 v_2 x_3] σ [.row (t_Gmem_Value).o 29 v_25 k_12, .row ((tInt .i64)).o 3 v_58 k_14, .row (tBool).o 4 v_53 k_16, .cell c_6 [.int .i64 0, .int .i64 0, .int .i64 0], .cell a_1 [v_2, .int .i64 (IntKind.i64.wrap (used_4 + (IntKind.i64.wrap (n_5 + 1))))], .row o_Gmem_Block 45 v_2 x_3] := HeldOK.same [3, 4, 5] (by decide) rfl
              refine JA_op (i := 12) (by kernel_rfl) rfl rfl (op_buildSlice (T := o_Gmem_Block) (vs := [.agg #[.bool true, v_25, v_58, v_53]]) (xs := [(⟨true, k_12, k_14, k_16⟩ : Gmem_Block)]) [.row (t_Gmem_Value).o 29 v_25 k_12, .row ((tInt .i64)).o 3 v_58 k_14, .row (tBool).o 4 v_53 k_16] [.cell c_6 [.int .i64 0, .int .i64 0, .int .i64 0], .cell a_1 [v_2, .int .i64 (IntKind.i64.wrap (used_4 + (IntKind.i64.wrap (n_5 + 1))))], .row o_Gmem_Block 45 v_2 x_3] rfl Try.pu41 Try.pi45 rfl rfl rfl rfl rfl rfl (relsO_cons (A := [.row (t_Gmem_Value).o 29 v_25 k_12, .row ((tInt .i64)).o 3 v_58 k_14, .row (tBool).o 4 v_53 k_16]) (B := []) (u := .agg #[.bool true, v_25, v_58, v_53]) (x := (⟨true, k_12, k_14, k_16⟩ : Gmem_Block)) (opn_vrel (T := o_Gmem_Block) (u := ((), v_25, v_58, v_53)) ⟨trivial, trivial, trivial, trivial⟩ rfl rfl rfl) relsO_nil) ?_)
              intro v_66
              have hS_69 : HeldOK σ [.cell c_6 [.int .i64 0, .int .i64 0, .int .i64 0], .cell a_1 [v_2, .int .i64 (IntKind.i64.wrap (used_4 + (IntKind.i64.wrap (n_5 + 1))))], .row o_Gmem_Block 45 v_2 x_3] σ [.row o_Gmem_Block 45 v_66 (⟨[(⟨true, k_12, k_14, k_16⟩ : Gmem_Block)], true⟩ : Sl Gmem_Block), .cell c_6 [.int .i64 0, .int .i64 0, .int .i64 0], .cell a_1 [v_2, .int .i64 (IntKind.i64.wrap (used_4 + (IntKind.i64.wrap (n_5 + 1))))], .row o_Gmem_Block 45 v_2 x_3] := HeldOK.same [1, 2, 3] (by decide) rfl
              refine ⟨.inr hS_69, ?_⟩
              refine J_select (PV' := [.row o_Gmem_Block 45 v_2 x_3, .row o_Gmem_Block 45 v_66 (⟨[(⟨true, k_12, k_14, k_16⟩ : Gmem_Block)], true⟩ : Sl Gmem_Block), .cell c_6 [.int .i64 0, .int .i64 0, .int .i64 0], .cell a_1 [v_2, .int .i64 (IntKind.i64.wrap (used_4 + (IntKind.i64.wrap (n_5 + 1))))]]) [3, 0, 1, 2] (by decide) rfl ?_
              have hS_71 : HeldOK σ [.cell c_6 [.int .i64 0, .int .i64 0, .int .i64 0], .cell a_1 [v_2, .int .i64 (IntKind.i64.wrap (used_4 + (IntKind.i64.wrap (n_5 + 1))))], .row o_Gmem_Block 45 v_2 x_3] σ [.row o_Gmem_Block 45 v_2 x_3, .row o_Gmem_Block 45 v_66 (⟨[(⟨true, k_12, k_14, k_16⟩ : Gmem_Block)], true⟩ : Sl Gmem_Block), .cell c_6 [.int .i64 0, .int .i64 0, .int .i64 0], .cell a_1 [v_2, .int .i64 (IntKind.i64.wrap (used_4 + (IntKind.i64.wrap (n_5 + 1))))]] := HeldOK.same [2, 3, 0] (by decide) rfl
              refine JA_op (i := 13) (by kernel_rfl) rfl rfl (op_known hk_19 (op_append (v := v_2) (u := v_66) (T := o_Gmem_Block) (ts := [(⟨true, k_12, k_14, k_16⟩ : Gmem_Block)]) [.row o_Gmem_Block 45 v_66 (⟨[(⟨true, k_12, k_14, k_16⟩ : Gmem_Block)], true⟩ : Sl Gmem_Block)] [.cell c_6 [.int .i64 0, .int .i64 0, .int .i64 0], .cell a_1 [v_2, .int .i64 (IntKind.i64.wrap (used_4 + (IntKind.i64.wrap (n_5 + 1))))]] rfl Try.pu41 Try.pi45 rfl rfl rfl rfl rfl rfl source_move ?_))
              intro z_72 v_70 hz_73
              obtain rfl := Option.some.inj (hk_19.symm.trans hz_73)
              refine ⟨.inl (.inl rfl), ?_⟩
              refine JA_takep 14 rfl hns (by kernel_rfl) (by kernel_rfl) rfl (.inl rfl) rfl rfl rfl (r_nilCheck (a := (Addr.add a_1 0)) rfl) ?_
              refine JA_takep 15 rfl hns (by kernel_rfl) (by kernel_rfl) rfl (.inl rfl) rfl rfl rfl (r_fieldAddr (r := Addr.add a_1 0) Try.pu64 (f := Try.pf64.getD 0 default) rfl Try.pi41 (by decide) rfl (Addr.add_add _ _ _)) ?_
              refine J_row_one 0 rfl fun h_74 => ?_
              refine JA_op (i := 16) (by kernel_rfl) rfl rfl (op_store_priv (a := a_1) (off := 0) (vs := [v_70]) (cs' := [v_70, .int .i64 (IntKind.i64.wrap (used_4 + (IntKind.i64.wrap (n_5 + 1))))]) (PV' := [.row o_Gmem_Block 45 v_70 k_18, .cell c_6 [.int .i64 0, .int .i64 0, .int .i64 0], .cell a_1 [v_70, .int .i64 (IntKind.i64.wrap (used_4 + (IntKind.i64.wrap (n_5 + 1))))]]) 2 Try.pi41 rfl (one_cells h_74) rfl ⟨h_74, trivial⟩ rfl rfl rfl rfl rfl ?_)
              refine ⟨.inl (.inr rfl), ?_⟩
              refine J_select (PV' := [.cell a_1 [v_70, .int .i64 (IntKind.i64.wrap (used_4 + (IntKind.i64.wrap (n_5 + 1))))], .row o_Gmem_Block 45 v_70 k_18, .cell c_6 [.int .i64 0, .int .i64 0, .int .i64 0]]) [2, 0, 1] (by decide) rfl ?_
              refine J_prune _ ?_ fun b => hk () _ b _ _ ⟨v_70, rfl, rfl, rfl⟩
              exact ⟨rfl, rfl, trivial⟩
          · refine J1_op rfl rfl (op_known hk_15 (op_make (T := ((tInt .i64)).o) (q := 0) rfl Try.pu36 Try.pi3 rfl rfl rfl rfl rfl (fun σ => rfl) ?_))
            intro z_78 v_76 hz_79
            obtain rfl := Option.some.inj (hk_15.symm.trans hz_79)
            have hS_80 : HeldOK σ [.cell c_6 [.int .i64 0, .int .i64 0, .int .i64 0], .cell a_1 [v_2, .int .i64 (IntKind.i64.wrap (used_4 + (IntKind.i64.wrap (n_5 + 1))))], .row o_Gmem_Block 45 v_2 x_3] σ [.row ((tInt .i64)).o 3 v_76 k_14, .cell c_6 [.int .i64 0, .int .i64 0, .int .i64 0], .cell a_1 [v_2, .int .i64 (IntKind.i64.wrap (used_4 + (IntKind.i64.wrap (n_5 + 1))))], .row o_Gmem_Block 45 v_2 x_3] := HeldOK.same [1, 2, 3] (by decide) rfl
            refine ⟨.inr hS_80, ?_⟩
            refine JA_two (i := 6) (j := 10) (by kernel_rfl) ?_ ?_
            · refine J1_op rfl rfl (op_known hk_13 (op_make (T := (t_Gmem_Value).o) (q := (⟨0, 0, 0⟩ : Gmem_Value)) rfl Try.pu43 Try.pi29 rfl rfl rfl rfl rfl (fun σ => (Plain.spec (T := t_Gmem_Value) σ _ _).2 rfl) ?_))
              intro z_83 v_81 hz_84
              obtain rfl := Option.some.inj (hk_13.symm.trans hz_84)
              have hS_85 : HeldOK σ [.cell c_6 [.int .i64 0, .int .i64 0, .int .i64 0], .cell a_1 [v_2, .int .i64 (IntKind.i64.wrap (used_4 + (IntKind.i64.wrap (n_5 + 1))))], .row o_Gmem_Block 45 v_2 x_3] σ [.row (t_Gmem_Value).o 29 v_81 k_12, .row ((tInt .i64)).o 3 v_76 k_14, .cell c_6 [.int .i64 0, .int .i64 0, .int .i64 0], .cell a_1 [v_2, .int .i64 (IntKind.i64.wrap (used_4 + (IntKind.i64.wrap (n_5 + 1))))], .row o_Gmem_Block 45 v_2 x_3] := HeldOK.same [2, 3, 4] (by decide) rfl
              refine ⟨.inr hS_85, ?_⟩
              refine JA_op (i := 10) (by kernel_rfl) rfl rfl (op_known hk_17 (op_make (T := (tBool).o) (q := false) rfl Try.pu23 Try.pi4 rfl rfl rfl rfl rfl (fun σ => rfl) ?_))
              intro z_88 v_86 hz_89
              obtain rfl := Option.some.inj (hk_17.symm.trans hz_89)
              have hS_90 : HeldOK σ [.cell c_6 [.int .i64 0, .int .i64 0, .int .i64 0], .cell a_1 [v_2, .int .i64 (IntKind.i64.wrap (used_4 + (IntKind.i64.wrap (n_5 + 1))))], .row o_Gmem_Block 45 v_2 x_3] σ [.row (tBool).o 4 v_86 k_16, .row (t_Gmem_Value).o 29 v_81 k_12, .row ((tInt .i64)).o 3 v_76 k_14, .cell c_6 [.int .i64 0, .int .i64 0, .int .i64 0], .cell a_1 [v_2, .int .i64 (IntKind.i64.wrap (used_4 + (IntKind.i64.wrap (n_5 + 1))))], .row o_Gmem_Block 45 v_2 x_3] := HeldOK.same [3, 4, 5] (by decide) rfl
              refine ⟨.inr hS_90, ?_⟩
              refine J_row_one 1 rfl fun h_91 => ?_
              refine J_row_one 2 rfl fun h_92 => ?_
              refine J_row_one 0 rfl fun h_93 => ?_
              refine JA_takep 11 rfl hns (by kernel_rfl) (by kernel_rfl) rfl (.inr hS_90) rfl rfl rfl (r_build (cs := [.bool true, v_81, v_76, v_86]) (vs := [(0, .bool true), (1, v_81), (2, v_76), (3, v_86)]) (pcs := [(0, [.bool true]), (1, [v_81]), (2, [v_76]), (3, [v_86])]) (pls := [(0, 1), (1, 1), (2, 1), (3, 1)]) Try.pu45 Try.pi45 rfl (by kernel_rfl) rfl ⟨rfl, rfl, ⟨rfl, (one_cells h_91), ⟨rfl, (one_cells h_92), ⟨rfl, (one_cells h_93), trivial⟩⟩⟩⟩ rfl) ?_
              refine J_select (PV' := [.row (t_Gmem_Value).o 29 v_81 k_12, .row ((tInt .i64)).o 3 v_76 k_14, .row (tBool).o 4 v_86 k_16, .cell c_6 [.int .i64 0, .int .i64 0, .int .i64 0], .cell a_1 [v_2, .int .i64 (IntKind.i64.wrap (used_4 + (IntKind.i64.wrap (n_5 + 1))))], .row o_Gmem_Block 45 v_2 x_3]) [1, 2, 0, 3, 4, 5] (by decide) rfl ?_
              have hS_96 : HeldOK σ [.cell c_6 [.int .i64 0, .int .i64 0, .int .i64 0], .cell a_1 [v_2, .int .i64 (IntKind.i64.wrap (used_4 + (IntKind.i64.wrap (n_5 + 1))))], .row o_Gmem_Block 45 v_2 x_3] σ [.row (t_Gmem_Value).o 29 v_81 k_12, .row ((tInt .i64)).o 3 v_76 k_14, .row (tBool).o 4 v_86 k_16, .cell c_6 [.int .i64 0, .int .i64 0, .int .i64 0], .cell a_1 [v_2, .int .i64 (IntKind.i64.wrap (used_4 + (IntKind.i64.wrap (n_5 + 1))))], .row o_Gmem_Block 45 v_2 x_3] := HeldOK.same [3, 4, 5] (by decide) rfl
              refine JA_op (i := 12) (by kernel_rfl) rfl rfl (op_buildSlice (T := o_Gmem_Block) (vs := [.agg #[.bool true, v_81, v_76, v_86]]) (xs := [(⟨true, k_12, k_14, k_16⟩ : Gmem_Block)]) [.row (t_Gmem_Value).o 29 v_81 k_12, .row ((tInt .i64)).o 3 v_76 k_14, .row (tBool).o 4 v_86 k_16] [.cell c_6 [.int .i64 0, .int .i64 0, .int .i64 0], .cell a_1 [v_2, .int .i64 (IntKind.i64.wrap (used_4 + (IntKind.i64.wrap (n_5 + 1))))], .row o_Gmem_Block 45 v_2 x_3] rfl Try.pu41 Try.pi45 rfl rfl rfl rfl rfl rfl (relsO_cons (A := [.row (t_Gmem_Value).o 29 v_81 k_12, .row ((tInt .i64)).o 3 v_76 k_14, .row (tBool).o 4 v_86 k_16]) (B := []) (u := .agg #[.bool true, v_81, v_76, v_86]) (x := (⟨true, k_12, k_14, k_16⟩ : Gmem_Block)) (opn_vrel (T := o_Gmem_Block) (u := ((), v_81, v_76, v_86)) ⟨trivial, trivial, trivial, trivial⟩ rfl rfl rfl) relsO_nil) ?_)
              intro v_94
              have hS_97 : HeldOK σ [.cell c_6 [.int .i64 0, .int .i64 0, .int .i64 0], .cell a_1 [v_2, .int .i64 (IntKind.i64.wrap (used_4 + (IntKind.i64.wrap (n_5 + 1))))], .row o_Gmem_Block 45 v_2 x_3] σ [.row o_Gmem_Block 45 v_94 (⟨[(⟨true, k_12, k_14, k_16⟩ : Gmem_Block)], true⟩ : Sl Gmem_Block), .cell c_6 [.int .i64 0, .int .i64 0, .int .i64 0], .cell a_1 [v_2, .int .i64 (IntKind.i64.wrap (used_4 + (IntKind.i64.wrap (n_5 + 1))))], .row o_Gmem_Block 45 v_2 x_3] := HeldOK.same [1, 2, 3] (by decide) rfl
              refine ⟨.inr hS_97, ?_⟩
              refine J_select (PV' := [.row o_Gmem_Block 45 v_2 x_3, .row o_Gmem_Block 45 v_94 (⟨[(⟨true, k_12, k_14, k_16⟩ : Gmem_Block)], true⟩ : Sl Gmem_Block), .cell c_6 [.int .i64 0, .int .i64 0, .int .i64 0], .cell a_1 [v_2, .int .i64 (IntKind.i64.wrap (used_4 + (IntKind.i64.wrap (n_5 + 1))))]]) [3, 0, 1, 2] (by decide) rfl ?_
              have hS_99 : HeldOK σ [.cell c_6 [.int .i64 0, .int .i64 0, .int .i64 0], .cell a_1 [v_2, .int .i64 (IntKind.i64.wrap (used_4 + (IntKind.i64.wrap (n_5 + 1))))], .row o_Gmem_Block 45 v_2 x_3] σ [.row o_Gmem_Block 45 v_2 x_3, .row o_Gmem_Block 45 v_94 (⟨[(⟨true, k_12, k_14, k_16⟩ : Gmem_Block)], true⟩ : Sl Gmem_Block), .cell c_6 [.int .i64 0, .int .i64 0, .int .i64 0], .cell a_1 [v_2, .int .i64 (IntKind.i64.wrap (used_4 + (IntKind.i64.wrap (n_5 + 1))))]] := HeldOK.same [2, 3, 0] (by decide) rfl
              refine JA_op (i := 13) (by kernel_rfl) rfl rfl (op_known hk_19 (op_append (v := v_2) (u := v_94) (T := o_Gmem_Block) (ts := [(⟨true, k_12, k_14, k_16⟩ : Gmem_Block)]) [.row o_Gmem_Block 45 v_94 (⟨[(⟨true, k_12, k_14, k_16⟩ : Gmem_Block)], true⟩ : Sl Gmem_Block)] [.cell c_6 [.int .i64 0, .int .i64 0, .int .i64 0], .cell a_1 [v_2, .int .i64 (IntKind.i64.wrap (used_4 + (IntKind.i64.wrap (n_5 + 1))))]] rfl Try.pu41 Try.pi45 rfl rfl rfl rfl rfl rfl source_move ?_))
              intro z_100 v_98 hz_101
              obtain rfl := Option.some.inj (hk_19.symm.trans hz_101)
              refine ⟨.inl (.inl rfl), ?_⟩
              refine JA_takep 14 rfl hns (by kernel_rfl) (by kernel_rfl) rfl (.inl rfl) rfl rfl rfl (r_nilCheck (a := (Addr.add a_1 0)) rfl) ?_
              refine JA_takep 15 rfl hns (by kernel_rfl) (by kernel_rfl) rfl (.inl rfl) rfl rfl rfl (r_fieldAddr (r := Addr.add a_1 0) Try.pu64 (f := Try.pf64.getD 0 default) rfl Try.pi41 (by decide) rfl (Addr.add_add _ _ _)) ?_
              refine J_row_one 0 rfl fun h_102 => ?_
              refine JA_op (i := 16) (by kernel_rfl) rfl rfl (op_store_priv (a := a_1) (off := 0) (vs := [v_98]) (cs' := [v_98, .int .i64 (IntKind.i64.wrap (used_4 + (IntKind.i64.wrap (n_5 + 1))))]) (PV' := [.row o_Gmem_Block 45 v_98 k_18, .cell c_6 [.int .i64 0, .int .i64 0, .int .i64 0], .cell a_1 [v_98, .int .i64 (IntKind.i64.wrap (used_4 + (IntKind.i64.wrap (n_5 + 1))))]]) 2 Try.pi41 rfl (one_cells h_102) rfl ⟨h_102, trivial⟩ rfl rfl rfl rfl rfl ?_)
              refine ⟨.inl (.inr rfl), ?_⟩
              refine J_select (PV' := [.cell a_1 [v_98, .int .i64 (IntKind.i64.wrap (used_4 + (IntKind.i64.wrap (n_5 + 1))))], .row o_Gmem_Block 45 v_98 k_18, .cell c_6 [.int .i64 0, .int .i64 0, .int .i64 0]]) [2, 0, 1] (by decide) rfl ?_
              refine J_prune _ ?_ fun b => hk () _ b _ _ ⟨v_98, rfl, rfl, rfl⟩
              exact ⟨rfl, rfl, trivial⟩
            · refine J1_op rfl rfl (op_known hk_17 (op_make (T := (tBool).o) (q := false) rfl Try.pu23 Try.pi4 rfl rfl rfl rfl rfl (fun σ => rfl) ?_))
              intro z_106 v_104 hz_107
              obtain rfl := Option.some.inj (hk_17.symm.trans hz_107)
              have hS_108 : HeldOK σ [.cell c_6 [.int .i64 0, .int .i64 0, .int .i64 0], .cell a_1 [v_2, .int .i64 (IntKind.i64.wrap (used_4 + (IntKind.i64.wrap (n_5 + 1))))], .row o_Gmem_Block 45 v_2 x_3] σ [.row (tBool).o 4 v_104 k_16, .row ((tInt .i64)).o 3 v_76 k_14, .cell c_6 [.int .i64 0, .int .i64 0, .int .i64 0], .cell a_1 [v_2, .int .i64 (IntKind.i64.wrap (used_4 + (IntKind.i64.wrap (n_5 + 1))))], .row o_Gmem_Block 45 v_2 x_3] := HeldOK.same [2, 3, 4] (by decide) rfl
              refine ⟨.inr hS_108, ?_⟩
              refine JA_op (i := 6) (by kernel_rfl) rfl rfl (op_known hk_13 (op_make (T := (t_Gmem_Value).o) (q := (⟨0, 0, 0⟩ : Gmem_Value)) rfl Try.pu43 Try.pi29 rfl rfl rfl rfl rfl (fun σ => (Plain.spec (T := t_Gmem_Value) σ _ _).2 rfl) ?_))
              intro z_111 v_109 hz_112
              obtain rfl := Option.some.inj (hk_13.symm.trans hz_112)
              have hS_113 : HeldOK σ [.cell c_6 [.int .i64 0, .int .i64 0, .int .i64 0], .cell a_1 [v_2, .int .i64 (IntKind.i64.wrap (used_4 + (IntKind.i64.wrap (n_5 + 1))))], .row o_Gmem_Block 45 v_2 x_3] σ [.row (t_Gmem_Value).o 29 v_109 k_12, .row (tBool).o 4 v_104 k_16, .row ((tInt .i64)).o 3 v_76 k_14, .cell c_6 [.int .i64 0, .int .i64 0, .int .i64 0], .cell a_1 [v_2, .int .i64 (IntKind.i64.wrap (used_4 + (IntKind.i64.wrap (n_5 + 1))))], .row o_Gmem_Block 45 v_2 x_3] := HeldOK.same [3, 4, 5] (by decide) rfl
              refine ⟨.inr hS_113, ?_⟩
              refine J_row_one 0 rfl fun h_114 => ?_
              refine J_row_one 2 rfl fun h_115 => ?_
              refine J_row_one 1 rfl fun h_116 => ?_
              refine JA_takep 11 rfl hns (by kernel_rfl) (by kernel_rfl) rfl (.inr hS_113) rfl rfl rfl (r_build (cs := [.bool true, v_109, v_76, v_104]) (vs := [(0, .bool true), (1, v_109), (2, v_76), (3, v_104)]) (pcs := [(0, [.bool true]), (1, [v_109]), (2, [v_76]), (3, [v_104])]) (pls := [(0, 1), (1, 1), (2, 1), (3, 1)]) Try.pu45 Try.pi45 rfl (by kernel_rfl) rfl ⟨rfl, rfl, ⟨rfl, (one_cells h_114), ⟨rfl, (one_cells h_115), ⟨rfl, (one_cells h_116), trivial⟩⟩⟩⟩ rfl) ?_
              refine J_select (PV' := [.row (t_Gmem_Value).o 29 v_109 k_12, .row ((tInt .i64)).o 3 v_76 k_14, .row (tBool).o 4 v_104 k_16, .cell c_6 [.int .i64 0, .int .i64 0, .int .i64 0], .cell a_1 [v_2, .int .i64 (IntKind.i64.wrap (used_4 + (IntKind.i64.wrap (n_5 + 1))))], .row o_Gmem_Block 45 v_2 x_3]) [0, 2, 1, 3, 4, 5] (by decide) rfl ?_
              have hS_119 : HeldOK σ [.cell c_6 [.int .i64 0, .int .i64 0, .int .i64 0], .cell a_1 [v_2, .int .i64 (IntKind.i64.wrap (used_4 + (IntKind.i64.wrap (n_5 + 1))))], .row o_Gmem_Block 45 v_2 x_3] σ [.row (t_Gmem_Value).o 29 v_109 k_12, .row ((tInt .i64)).o 3 v_76 k_14, .row (tBool).o 4 v_104 k_16, .cell c_6 [.int .i64 0, .int .i64 0, .int .i64 0], .cell a_1 [v_2, .int .i64 (IntKind.i64.wrap (used_4 + (IntKind.i64.wrap (n_5 + 1))))], .row o_Gmem_Block 45 v_2 x_3] := HeldOK.same [3, 4, 5] (by decide) rfl
              refine JA_op (i := 12) (by kernel_rfl) rfl rfl (op_buildSlice (T := o_Gmem_Block) (vs := [.agg #[.bool true, v_109, v_76, v_104]]) (xs := [(⟨true, k_12, k_14, k_16⟩ : Gmem_Block)]) [.row (t_Gmem_Value).o 29 v_109 k_12, .row ((tInt .i64)).o 3 v_76 k_14, .row (tBool).o 4 v_104 k_16] [.cell c_6 [.int .i64 0, .int .i64 0, .int .i64 0], .cell a_1 [v_2, .int .i64 (IntKind.i64.wrap (used_4 + (IntKind.i64.wrap (n_5 + 1))))], .row o_Gmem_Block 45 v_2 x_3] rfl Try.pu41 Try.pi45 rfl rfl rfl rfl rfl rfl (relsO_cons (A := [.row (t_Gmem_Value).o 29 v_109 k_12, .row ((tInt .i64)).o 3 v_76 k_14, .row (tBool).o 4 v_104 k_16]) (B := []) (u := .agg #[.bool true, v_109, v_76, v_104]) (x := (⟨true, k_12, k_14, k_16⟩ : Gmem_Block)) (opn_vrel (T := o_Gmem_Block) (u := ((), v_109, v_76, v_104)) ⟨trivial, trivial, trivial, trivial⟩ rfl rfl rfl) relsO_nil) ?_)
              intro v_117
              have hS_120 : HeldOK σ [.cell c_6 [.int .i64 0, .int .i64 0, .int .i64 0], .cell a_1 [v_2, .int .i64 (IntKind.i64.wrap (used_4 + (IntKind.i64.wrap (n_5 + 1))))], .row o_Gmem_Block 45 v_2 x_3] σ [.row o_Gmem_Block 45 v_117 (⟨[(⟨true, k_12, k_14, k_16⟩ : Gmem_Block)], true⟩ : Sl Gmem_Block), .cell c_6 [.int .i64 0, .int .i64 0, .int .i64 0], .cell a_1 [v_2, .int .i64 (IntKind.i64.wrap (used_4 + (IntKind.i64.wrap (n_5 + 1))))], .row o_Gmem_Block 45 v_2 x_3] := HeldOK.same [1, 2, 3] (by decide) rfl
              refine ⟨.inr hS_120, ?_⟩
              refine J_select (PV' := [.row o_Gmem_Block 45 v_2 x_3, .row o_Gmem_Block 45 v_117 (⟨[(⟨true, k_12, k_14, k_16⟩ : Gmem_Block)], true⟩ : Sl Gmem_Block), .cell c_6 [.int .i64 0, .int .i64 0, .int .i64 0], .cell a_1 [v_2, .int .i64 (IntKind.i64.wrap (used_4 + (IntKind.i64.wrap (n_5 + 1))))]]) [3, 0, 1, 2] (by decide) rfl ?_
              have hS_122 : HeldOK σ [.cell c_6 [.int .i64 0, .int .i64 0, .int .i64 0], .cell a_1 [v_2, .int .i64 (IntKind.i64.wrap (used_4 + (IntKind.i64.wrap (n_5 + 1))))], .row o_Gmem_Block 45 v_2 x_3] σ [.row o_Gmem_Block 45 v_2 x_3, .row o_Gmem_Block 45 v_117 (⟨[(⟨true, k_12, k_14, k_16⟩ : Gmem_Block)], true⟩ : Sl Gmem_Block), .cell c_6 [.int .i64 0, .int .i64 0, .int .i64 0], .cell a_1 [v_2, .int .i64 (IntKind.i64.wrap (used_4 + (IntKind.i64.wrap (n_5 + 1))))]] := HeldOK.same [2, 3, 0] (by decide) rfl
              refine JA_op (i := 13) (by kernel_rfl) rfl rfl (op_known hk_19 (op_append (v := v_2) (u := v_117) (T := o_Gmem_Block) (ts := [(⟨true, k_12, k_14, k_16⟩ : Gmem_Block)]) [.row o_Gmem_Block 45 v_117 (⟨[(⟨true, k_12, k_14, k_16⟩ : Gmem_Block)], true⟩ : Sl Gmem_Block)] [.cell c_6 [.int .i64 0, .int .i64 0, .int .i64 0], .cell a_1 [v_2, .int .i64 (IntKind.i64.wrap (used_4 + (IntKind.i64.wrap (n_5 + 1))))]] rfl Try.pu41 Try.pi45 rfl rfl rfl rfl rfl rfl source_move ?_))
              intro z_123 v_121 hz_124
              obtain rfl := Option.some.inj (hk_19.symm.trans hz_124)
              refine ⟨.inl (.inl rfl), ?_⟩
              refine JA_takep 14 rfl hns (by kernel_rfl) (by kernel_rfl) rfl (.inl rfl) rfl rfl rfl (r_nilCheck (a := (Addr.add a_1 0)) rfl) ?_
              refine JA_takep 15 rfl hns (by kernel_rfl) (by kernel_rfl) rfl (.inl rfl) rfl rfl rfl (r_fieldAddr (r := Addr.add a_1 0) Try.pu64 (f := Try.pf64.getD 0 default) rfl Try.pi41 (by decide) rfl (Addr.add_add _ _ _)) ?_
              refine J_row_one 0 rfl fun h_125 => ?_
              refine JA_op (i := 16) (by kernel_rfl) rfl rfl (op_store_priv (a := a_1) (off := 0) (vs := [v_121]) (cs' := [v_121, .int .i64 (IntKind.i64.wrap (used_4 + (IntKind.i64.wrap (n_5 + 1))))]) (PV' := [.row o_Gmem_Block 45 v_121 k_18, .cell c_6 [.int .i64 0, .int .i64 0, .int .i64 0], .cell a_1 [v_121, .int .i64 (IntKind.i64.wrap (used_4 + (IntKind.i64.wrap (n_5 + 1))))]]) 2 Try.pi41 rfl (one_cells h_125) rfl ⟨h_125, trivial⟩ rfl rfl rfl rfl rfl ?_)
              refine ⟨.inl (.inr rfl), ?_⟩
              refine J_select (PV' := [.cell a_1 [v_121, .int .i64 (IntKind.i64.wrap (used_4 + (IntKind.i64.wrap (n_5 + 1))))], .row o_Gmem_Block 45 v_121 k_18, .cell c_6 [.int .i64 0, .int .i64 0, .int .i64 0]]) [2, 0, 1] (by decide) rfl ?_
              refine J_prune _ ?_ fun b => hk () _ b _ _ ⟨v_121, rfl, rfl, rfl⟩
              exact ⟨rfl, rfl, trivial⟩
          · refine J1_op rfl rfl (op_known hk_17 (op_make (T := (tBool).o) (q := false) rfl Try.pu23 Try.pi4 rfl rfl rfl rfl rfl (fun σ => rfl) ?_))
            intro z_129 v_127 hz_130
            obtain rfl := Option.some.inj (hk_17.symm.trans hz_130)
            have hS_131 : HeldOK σ [.cell c_6 [.int .i64 0, .int .i64 0, .int .i64 0], .cell a_1 [v_2, .int .i64 (IntKind.i64.wrap (used_4 + (IntKind.i64.wrap (n_5 + 1))))], .row o_Gmem_Block 45 v_2 x_3] σ [.row (tBool).o 4 v_127 k_16, .cell c_6 [.int .i64 0, .int .i64 0, .int .i64 0], .cell a_1 [v_2, .int .i64 (IntKind.i64.wrap (used_4 + (IntKind.i64.wrap (n_5 + 1))))], .row o_Gmem_Block 45 v_2 x_3] := HeldOK.same [1, 2, 3] (by decide) rfl
            refine ⟨.inr hS_131, ?_⟩
            refine JA_two (i := 6) (j := 8) (by kernel_rfl) ?_ ?_
            · refine J1_op rfl rfl (op_known hk_13 (op_make (T := (t_Gmem_Value).o) (q := (⟨0, 0, 0⟩ : Gmem_Value)) rfl Try.pu43 Try.pi29 rfl rfl rfl rfl rfl (fun σ => (Plain.spec (T := t_Gmem_Value) σ _ _).2 rfl) ?_))
              intro z_134 v_132 hz_135
              obtain rfl := Option.some.inj (hk_13.symm.trans hz_135)
              have hS_136 : HeldOK σ [.cell c_6 [.int .i64 0, .int .i64 0, .int .i64 0], .cell a_1 [v_2, .int .i64 (IntKind.i64.wrap (used_4 + (IntKind.i64.wrap (n_5 + 1))))], .row o_Gmem_Block 45 v_2 x_3] σ [.row (t_Gmem_Value).o 29 v_132 k_12, .row (tBool).o 4 v_127 k_16, .cell c_6 [.int .i64 0, .int .i64 0, .int .i64 0], .cell a_1 [v_2, .int .i64 (IntKind.i64.wrap (used_4 + (IntKind.i64.wrap (n_5 + 1))))], .row o_Gmem_Block 45 v_2 x_3] := HeldOK.same [2, 3, 4] (by decide) rfl
              refine ⟨.inr hS_136, ?_⟩
              refine JA_op (i := 8) (by kernel_rfl) rfl rfl (op_known hk_15 (op_make (T := ((tInt .i64)).o) (q := 0) rfl Try.pu36 Try.pi3 rfl rfl rfl rfl rfl (fun σ => rfl) ?_))
              intro z_139 v_137 hz_140
              obtain rfl := Option.some.inj (hk_15.symm.trans hz_140)
              have hS_141 : HeldOK σ [.cell c_6 [.int .i64 0, .int .i64 0, .int .i64 0], .cell a_1 [v_2, .int .i64 (IntKind.i64.wrap (used_4 + (IntKind.i64.wrap (n_5 + 1))))], .row o_Gmem_Block 45 v_2 x_3] σ [.row ((tInt .i64)).o 3 v_137 k_14, .row (t_Gmem_Value).o 29 v_132 k_12, .row (tBool).o 4 v_127 k_16, .cell c_6 [.int .i64 0, .int .i64 0, .int .i64 0], .cell a_1 [v_2, .int .i64 (IntKind.i64.wrap (used_4 + (IntKind.i64.wrap (n_5 + 1))))], .row o_Gmem_Block 45 v_2 x_3] := HeldOK.same [3, 4, 5] (by decide) rfl
              refine ⟨.inr hS_141, ?_⟩
              refine J_row_one 1 rfl fun h_142 => ?_
              refine J_row_one 0 rfl fun h_143 => ?_
              refine J_row_one 2 rfl fun h_144 => ?_
              refine JA_takep 11 rfl hns (by kernel_rfl) (by kernel_rfl) rfl (.inr hS_141) rfl rfl rfl (r_build (cs := [.bool true, v_132, v_137, v_127]) (vs := [(0, .bool true), (1, v_132), (2, v_137), (3, v_127)]) (pcs := [(0, [.bool true]), (1, [v_132]), (2, [v_137]), (3, [v_127])]) (pls := [(0, 1), (1, 1), (2, 1), (3, 1)]) Try.pu45 Try.pi45 rfl (by kernel_rfl) rfl ⟨rfl, rfl, ⟨rfl, (one_cells h_142), ⟨rfl, (one_cells h_143), ⟨rfl, (one_cells h_144), trivial⟩⟩⟩⟩ rfl) ?_
              refine J_select (PV' := [.row (t_Gmem_Value).o 29 v_132 k_12, .row ((tInt .i64)).o 3 v_137 k_14, .row (tBool).o 4 v_127 k_16, .cell c_6 [.int .i64 0, .int .i64 0, .int .i64 0], .cell a_1 [v_2, .int .i64 (IntKind.i64.wrap (used_4 + (IntKind.i64.wrap (n_5 + 1))))], .row o_Gmem_Block 45 v_2 x_3]) [1, 0, 2, 3, 4, 5] (by decide) rfl ?_
              have hS_147 : HeldOK σ [.cell c_6 [.int .i64 0, .int .i64 0, .int .i64 0], .cell a_1 [v_2, .int .i64 (IntKind.i64.wrap (used_4 + (IntKind.i64.wrap (n_5 + 1))))], .row o_Gmem_Block 45 v_2 x_3] σ [.row (t_Gmem_Value).o 29 v_132 k_12, .row ((tInt .i64)).o 3 v_137 k_14, .row (tBool).o 4 v_127 k_16, .cell c_6 [.int .i64 0, .int .i64 0, .int .i64 0], .cell a_1 [v_2, .int .i64 (IntKind.i64.wrap (used_4 + (IntKind.i64.wrap (n_5 + 1))))], .row o_Gmem_Block 45 v_2 x_3] := HeldOK.same [3, 4, 5] (by decide) rfl
              refine JA_op (i := 12) (by kernel_rfl) rfl rfl (op_buildSlice (T := o_Gmem_Block) (vs := [.agg #[.bool true, v_132, v_137, v_127]]) (xs := [(⟨true, k_12, k_14, k_16⟩ : Gmem_Block)]) [.row (t_Gmem_Value).o 29 v_132 k_12, .row ((tInt .i64)).o 3 v_137 k_14, .row (tBool).o 4 v_127 k_16] [.cell c_6 [.int .i64 0, .int .i64 0, .int .i64 0], .cell a_1 [v_2, .int .i64 (IntKind.i64.wrap (used_4 + (IntKind.i64.wrap (n_5 + 1))))], .row o_Gmem_Block 45 v_2 x_3] rfl Try.pu41 Try.pi45 rfl rfl rfl rfl rfl rfl (relsO_cons (A := [.row (t_Gmem_Value).o 29 v_132 k_12, .row ((tInt .i64)).o 3 v_137 k_14, .row (tBool).o 4 v_127 k_16]) (B := []) (u := .agg #[.bool true, v_132, v_137, v_127]) (x := (⟨true, k_12, k_14, k_16⟩ : Gmem_Block)) (opn_vrel (T := o_Gmem_Block) (u := ((), v_132, v_137, v_127)) ⟨trivial, trivial, trivial, trivial⟩ rfl rfl rfl) relsO_nil) ?_)
              intro v_145
              have hS_148 : HeldOK σ [.cell c_6 [.int .i64 0, .int .i64 0, .int .i64 0], .cell a_1 [v_2, .int .i64 (IntKind.i64.wrap (used_4 + (IntKind.i64.wrap (n_5 + 1))))], .row o_Gmem_Block 45 v_2 x_3] σ [.row o_Gmem_Block 45 v_145 (⟨[(⟨true, k_12, k_14, k_16⟩ : Gmem_Block)], true⟩ : Sl Gmem_Block), .cell c_6 [.int .i64 0, .int .i64 0, .int .i64 0], .cell a_1 [v_2, .int .i64 (IntKind.i64.wrap (used_4 + (IntKind.i64.wrap (n_5 + 1))))], .row o_Gmem_Block 45 v_2 x_3] := HeldOK.same [1, 2, 3] (by decide) rfl
              refine ⟨.inr hS_148, ?_⟩
              refine J_select (PV' := [.row o_Gmem_Block 45 v_2 x_3, .row o_Gmem_Block 45 v_145 (⟨[(⟨true, k_12, k_14, k_16⟩ : Gmem_Block)], true⟩ : Sl Gmem_Block), .cell c_6 [.int .i64 0, .int .i64 0, .int .i64 0], .cell a_1 [v_2, .int .i64 (IntKind.i64.wrap (used_4 + (IntKind.i64.wrap (n_5 + 1))))]]) [3, 0, 1, 2] (by decide) rfl ?_
              have hS_150 : HeldOK σ [.cell c_6 [.int .i64 0, .int .i64 0, .int .i64 0], .cell a_1 [v_2, .int .i64 (IntKind.i64.wrap (used_4 + (IntKind.i64.wrap (n_5 + 1))))], .row o_Gmem_Block 45 v_2 x_3] σ [.row o_Gmem_Block 45 v_2 x_3, .row o_Gmem_Block 45 v_145 (⟨[(⟨true, k_12, k_14, k_16⟩ : Gmem_Block)], true⟩ : Sl Gmem_Block), .cell c_6 [.int .i64 0, .int .i64 0, .int .i64 0], .cell a_1 [v_2, .int .i64 (IntKind.i64.wrap (used_4 + (IntKind.i64.wrap (n_5 + 1))))]] := HeldOK.same [2, 3, 0] (by decide) rfl
              refine JA_op (i := 13) (by kernel_rfl) rfl rfl (op_known hk_19 (op_append (v := v_2) (u := v_145) (T := o_Gmem_Block) (ts := [(⟨true, k_12, k_14, k_16⟩ : Gmem_Block)]) [.row o_Gmem_Block 45 v_145 (⟨[(⟨true, k_12, k_14, k_16⟩ : Gmem_Block)], true⟩ : Sl Gmem_Block)] [.cell c_6 [.int .i64 0, .int .i64 0, .int .i64 0], .cell a_1 [v_2, .int .i64 (IntKind.i64.wrap (used_4 + (IntKind.i64.wrap (n_5 + 1))))]] rfl Try.pu41 Try.pi45 rfl rfl rfl rfl rfl rfl source_move ?_))
              intro z_151 v_149 hz_152
              obtain rfl := Option.some.inj (hk_19.symm.trans hz_152)
              refine ⟨.inl (.inl rfl), ?_⟩
              refine JA_takep 14 rfl hns (by kernel_rfl) (by kernel_rfl) rfl (.inl rfl) rfl rfl rfl (r_nilCheck (a := (Addr.add a_1 0)) rfl) ?_
              refine JA_takep 15 rfl hns (by kernel_rfl) (by kernel_rfl) rfl (.inl rfl) rfl rfl rfl (r_fieldAddr (r := Addr.add a_1 0) Try.pu64 (f := Try.pf64.getD 0 default) rfl Try.pi41 (by decide) rfl (Addr.add_add _ _ _)) ?_
              refine J_row_one 0 rfl fun h_153 => ?_
              refine JA_op (i := 16) (by kernel_rfl) rfl rfl (op_store_priv (a := a_1) (off := 0) (vs := [v_149]) (cs' := [v_149, .int .i64 (IntKind.i64.wrap (used_4 + (IntKind.i64.wrap (n_5 + 1))))]) (PV' := [.row o_Gmem_Block 45 v_149 k_18, .cell c_6 [.int .i64 0, .int .i64 0, .int .i64 0], .cell a_1 [v_149, .int .i64 (IntKind.i64.wrap (used_4 + (IntKind.i64.wrap (n_5 + 1))))]]) 2 Try.pi41 rfl (one_cells h_153) rfl ⟨h_153, trivial⟩ rfl rfl rfl rfl rfl ?_)
              refine ⟨.inl (.inr rfl), ?_⟩
              refine J_select (PV' := [.cell a_1 [v_149, .int .i64 (IntKind.i64.wrap (used_4 + (IntKind.i64.wrap (n_5 + 1))))], .row o_Gmem_Block 45 v_149 k_18, .cell c_6 [.int .i64 0, .int .i64 0, .int .i64 0]]) [2, 0, 1] (by decide) rfl ?_
              refine J_prune _ ?_ fun b => hk () _ b _ _ ⟨v_149, rfl, rfl, rfl⟩
              exact ⟨rfl, rfl, trivial⟩
            · refine J1_op rfl rfl (op_known hk_15 (op_make (T := ((tInt .i64)).o) (q := 0) rfl Try.pu36 Try.pi3 rfl rfl rfl rfl rfl (fun σ => rfl) ?_))
              intro z_157 v_155 hz_158
              obtain rfl := Option.some.inj (hk_15.symm.trans hz_158)
              have hS_159 : HeldOK σ [.cell c_6 [.int .i64 0, .int .i64 0, .int .i64 0], .cell a_1 [v_2, .int .i64 (IntKind.i64.wrap (used_4 + (IntKind.i64.wrap (n_5 + 1))))], .row o_Gmem_Block 45 v_2 x_3] σ [.row ((tInt .i64)).o 3 v_155 k_14, .row (tBool).o 4 v_127 k_16, .cell c_6 [.int .i64 0, .int .i64 0, .int .i64 0], .cell a_1 [v_2, .int .i64 (IntKind.i64.wrap (used_4 + (IntKind.i64.wrap (n_5 + 1))))], .row o_Gmem_Block 45 v_2 x_3] := HeldOK.same [2, 3, 4] (by decide) rfl
              refine ⟨.inr hS_159, ?_⟩
              refine JA_op (i := 6) (by kernel_rfl) rfl rfl (op_known hk_13 (op_make (T := (t_Gmem_Value).o) (q := (⟨0, 0, 0⟩ : Gmem_Value)) rfl Try.pu43 Try.pi29 rfl rfl rfl rfl rfl (fun σ => (Plain.spec (T := t_Gmem_Value) σ _ _).2 rfl) ?_))
              intro z_162 v_160 hz_163
              obtain rfl := Option.some.inj (hk_13.symm.trans hz_163)
              have hS_164 : HeldOK σ [.cell c_6 [.int .i64 0, .int .i64 0, .int .i64 0], .cell a_1 [v_2, .int .i64 (IntKind.i64.wrap (used_4 + (IntKind.i64.wrap (n_5 + 1))))], .row o_Gmem_Block 45 v_2 x_3] σ [.row (t_Gmem_Value).o 29 v_160 k_12, .row ((tInt .i64)).o 3 v_155 k_14, .row (tBool).o 4 v_127 k_16, .cell c_6 [.int .i64 0, .int .i64 0, .int .i64 0], .cell a_1 [v_2, .int .i64 (IntKind.i64.wrap (used_4 + (IntKind.i64.wrap (n_5 + 1))))], .row o_Gmem_Block 45 v_2 x_3] := HeldOK.same [3, 4, 5] (by decide) rfl
              refine ⟨.inr hS_164, ?_⟩
              refine J_row_one 0 rfl fun h_165 => ?_
              refine J_row_one 1 rfl fun h_166 => ?_
              refine J_row_one 2 rfl fun h_167 => ?_
              refine JA_takep 11 rfl hns (by kernel_rfl) (by kernel_rfl) rfl (.inr hS_164) rfl rfl rfl (r_build (cs := [.bool true, v_160, v_155, v_127]) (vs := [(0, .bool true), (1, v_160), (2, v_155), (3, v_127)]) (pcs := [(0, [.bool true]), (1, [v_160]), (2, [v_155]), (3, [v_127])]) (pls := [(0, 1), (1, 1), (2, 1), (3, 1)]) Try.pu45 Try.pi45 rfl (by kernel_rfl) rfl ⟨rfl, rfl, ⟨rfl, (one_cells h_165), ⟨rfl, (one_cells h_166), ⟨rfl, (one_cells h_167), trivial⟩⟩⟩⟩ rfl) ?_
              refine JA_op (i := 12) (by kernel_rfl) rfl rfl (op_buildSlice (T := o_Gmem_Block) (vs := [.agg #[.bool true, v_160, v_155, v_127]]) (xs := [(⟨true, k_12, k_14, k_16⟩ : Gmem_Block)]) [.row (t_Gmem_Value).o 29 v_160 k_12, .row ((tInt .i64)).o 3 v_155 k_14, .row (tBool).o 4 v_127 k_16] [.cell c_6 [.int .i64 0, .int .i64 0, .int .i64 0], .cell a_1 [v_2, .int .i64 (IntKind.i64.wrap (used_4 + (IntKind.i64.wrap (n_5 + 1))))], .row o_Gmem_Block 45 v_2 x_3] rfl Try.pu41 Try.pi45 rfl rfl rfl rfl rfl rfl (relsO_cons (A := [.row (t_Gmem_Value).o 29 v_160 k_12, .row ((tInt .i64)).o 3 v_155 k_14, .row (tBool).o 4 v_127 k_16]) (B := []) (u := .agg #[.bool true, v_160, v_155, v_127]) (x := (⟨true, k_12, k_14, k_16⟩ : Gmem_Block)) (opn_vrel (T := o_Gmem_Block) (u := ((), v_160, v_155, v_127)) ⟨trivial, trivial, trivial, trivial⟩ rfl rfl rfl) relsO_nil) ?_)
              intro v_168
              have hS_170 : HeldOK σ [.cell c_6 [.int .i64 0, .int .i64 0, .int .i64 0], .cell a_1 [v_2, .int .i64 (IntKind.i64.wrap (used_4 + (IntKind.i64.wrap (n_5 + 1))))], .row o_Gmem_Block 45 v_2 x_3] σ [.row o_Gmem_Block 45 v_168 (⟨[(⟨true, k_12, k_14, k_16⟩ : Gmem_Block)], true⟩ : Sl Gmem_Block), .cell c_6 [.int .i64 0, .int .i64 0, .int .i64 0], .cell a_1 [v_2, .int .i64 (IntKind.i64.wrap (used_4 + (IntKind.i64.wrap (n_5 + 1))))], .row o_Gmem_Block 45 v_2 x_3] := HeldOK.same [1, 2, 3] (by decide) rfl
              refine ⟨.inr hS_170, ?_⟩
              refine J_select (PV' := [.row o_Gmem_Block 45 v_2 x_3, .row o_Gmem_Block 45 v_168 (⟨[(⟨true, k_12, k_14, k_16⟩ : Gmem_Block)], true⟩ : Sl Gmem_Block), .cell c_6 [.int .i64 0, .int .i64 0, .int .i64 0], .cell a_1 [v_2, .int .i64 (IntKind.i64.wrap (used_4 + (IntKind.i64.wrap (n_5 + 1))))]]) [3, 0, 1, 2] (by decide) rfl ?_
              have hS_172 : HeldOK σ [.cell c_6 [.int .i64 0, .int .i64 0, .int .i64 0], .cell a_1 [v_2, .int .i64 (IntKind.i64.wrap (used_4 + (IntKind.i64.wrap (n_5 + 1))))], .row o_Gmem_Block 45 v_2 x_3] σ [.row o_Gmem_Block 45 v_2 x_3, .row o_Gmem_Block 45 v_168 (⟨[(⟨true, k_12, k_14, k_16⟩ : Gmem_Block)], true⟩ : Sl Gmem_Block), .cell c_6 [.int .i64 0, .int .i64 0, .int .i64 0], .cell a_1 [v_2, .int .i64 (IntKind.i64.wrap (used_4 + (IntKind.i64.wrap (n_5 + 1))))]] := HeldOK.same [2, 3, 0] (by decide) rfl
              refine JA_op (i := 13) (by kernel_rfl) rfl rfl (op_known hk_19 (op_append (v := v_2) (u := v_168) (T := o_Gmem_Block) (ts := [(⟨true, k_12, k_14, k_16⟩ : Gmem_Block)]) [.row o_Gmem_Block 45 v_168 (⟨[(⟨true, k_12, k_14, k_16⟩ : Gmem_Block)], true⟩ : Sl Gmem_Block)] [.cell c_6 [.int .i64 0, .int .i64 0, .int .i64 0], .cell a_1 [v_2, .int .i64 (IntKind.i64.wrap (used_4 + (IntKind.i64.wrap (n_5 + 1))))]] rfl Try.pu41 Try.pi45 rfl rfl rfl rfl rfl rfl source_move ?_))
              intro z_173 v_171 hz_174
              obtain rfl := Option.some.inj (hk_19.symm.trans hz_174)
              refine ⟨.inl (.inl rfl), ?_⟩
              refine JA_takep 14 rfl hns (by kernel_rfl) (by kernel_rfl) rfl (.inl rfl) rfl rfl rfl (r_nilCheck (a := (Addr.add a_1 0)) rfl) ?_
              refine JA_takep 15 rfl hns (by kernel_rfl) (by kernel_rfl) rfl (.inl rfl) rfl rfl rfl (r_fieldAddr (r := Addr.add a_1 0) Try.pu64 (f := Try.pf64.getD 0 default) rfl Try.pi41 (by decide) rfl (Addr.add_add _ _ _)) ?_
              refine J_row_one 0 rfl fun h_175 => ?_
              refine JA_op (i := 16) (by kernel_rfl) rfl rfl (op_store_priv (a := a_1) (off := 0) (vs := [v_171]) (cs' := [v_171, .int .i64 (IntKind.i64.wrap (used_4 + (IntKind.i64.wrap (n_5 + 1))))]) (PV' := [.row o_Gmem_Block 45 v_171 k_18, .cell c_6 [.int .i64 0, .int .i64 0, .int .i64 0], .cell a_1 [v_171, .int .i64 (IntKind.i64.wrap (used_4 + (IntKind.i64.wrap (n_5 + 1))))]]) 2 Try.pi41 rfl (one_cells h_175) rfl ⟨h_175, trivial⟩ rfl rfl rfl rfl rfl ?_)
              refine ⟨.inl (.inr rfl), ?_⟩
              refine J_select (PV' := [.cell a_1 [v_171, .int .i64 (IntKind.i64.wrap (used_4 + (IntKind.i64.wrap (n_5 + 1))))], .row o_Gmem_Block 45 v_171 k_18, .cell c_6 [.int .i64 0, .int .i64 0, .int .i64 0]]) [2, 0, 1] (by decide) rfl ?_
              refine J_prune _ ?_ fun b => hk () _ b _ _ ⟨v_171, rfl, rfl, rfl⟩
              exact ⟨rfl, rfl, trivial⟩
        · rintro y_20 _ b s_24 _ ⟨v_23, rfl, rfl, rfl⟩
          unfold mem_Memory_Alloc_K1
          refine JA_done (by kernel_rfl) ?_
          refine J_then ?_
          refine J_seq ?_
          refine J_region ?_
          refine JL_op rfl (op_read rfl rfl (r_move (v := .pointer (some (Addr.add a_1 0))) rfl) ?_)
          refine JL_op rfl (op_read rfl rfl (r_nilCheck (a := (Addr.add a_1 0)) rfl) ?_)
          refine JL_op rfl (op_read rfl rfl (r_fieldAddr (r := Addr.add a_1 0) Try.pu64 (f := Try.pf64.getD 0 default) rfl Try.pi41 (by decide) rfl (Addr.add_add _ _ _)) ?_)
          refine JL_op rfl (op_read rfl rfl (r_load_priv (a := a_1) (off := 0) (cs' := [v_23]) (v := v_23) 0 Try.pu41 Try.pi41 rfl rfl rfl rfl (by decide) rfl) ?_)
          refine JL_op rfl (op_read rfl rfl (r_len_row (v := v_23) 1 Try.pu41 rfl rfl) ?_)
          refine JL_op rfl (op_read rfl rfl (r_build (cs := [.int .i64 2, .int .i64 0, .int .i64 k_18.len]) (vs := [(0, .int .i64 2), (2, .int .i64 k_18.len)]) (pcs := [(0, [.int .i64 2]), (2, [.int .i64 k_18.len])]) (pls := [(0, 1), (1, 1), (2, 1)]) Try.pu29 Try.pi29 rfl (by kernel_rfl) rfl ⟨rfl, rfl, ⟨rfl, rfl, trivial⟩⟩ rfl) ?_)
          refine JL_op rfl (op_store_priv (a := c_6) (off := 0) (vs := [.int .i64 2, .int .i64 0, .int .i64 k_18.len]) (cs' := [.int .i64 2, .int .i64 0, .int .i64 k_18.len]) (PV' := [.cell a_1 [v_23, .int .i64 (IntKind.i64.wrap (used_4 + (IntKind.i64.wrap (n_5 + 1))))], .row o_Gmem_Block 45 v_23 k_18, .cell c_6 [.int .i64 2, .int .i64 0, .int .i64 k_18.len]]) 2 Try.pi29 rfl rfl rfl ⟨rfl, rfl, rfl, trivial⟩ rfl rfl rfl rfl rfl ?_)
          refine JL_op rfl (op_read rfl rfl (r_assign (v := .bool true) rfl) ?_)
          refine JL_nil ?_
          refine J_then ?_
          refine J_ret ?_
          exact J_returnV2 (PV' := [.cell a_1 [v_23, .int .i64 (IntKind.i64.wrap (used_4 + (IntKind.i64.wrap (n_5 + 1))))], .row o_Gmem_Block 45 v_23 k_18]) rfl (rv_cell (cs := [.int .i64 2, .int .i64 0, .int .i64 k_18.len]) (v := .agg #[.int .i64 2, .int .i64 0, .int .i64 k_18.len]) 2 Try.pu29 Try.pi29 rfl rfl rfl (by decide) rfl) rv_tmp [0, 1] (by decide) rfl ⟨v_23, rfl, rfl, rfl⟩
def mem_Memory_Used_post (σ0 : FS) (a_1 : Addr) (v_2 : Value) (x_3 : Sl Gmem_Block) (used_4 : Int) (r : Unit) (σ : FS) (PV : List Priv) (v : Value) : Prop :=
  σ0 = σ ∧ .int .i64 used_4 = v ∧ PV = [.cell a_1 [v_2, .int .i64 used_4], .row o_Gmem_Block 45 v_2 x_3]
set_option maxRecDepth 100000 in
theorem mem_Memory_Used_ref (s : Start) (σ : FS) (a_1 : Addr) (v_2 : Value) (x_3 : Sl Gmem_Block) (used_4 : Int) (hs : Pre s σ [.cell a_1 [v_2, .int .i64 used_4], .row o_Gmem_Block 45 v_2 x_3]) (r : Unit) (hr : mem_Memory_Used x_3 used_4 = some r) : Does Try.prog 13 [.pointer (some (Addr.add a_1 0))] s σ (mem_Memory_Used_post σ a_1 v_2 x_3 used_4 r) := by
  unfold mem_Memory_Used at hr
  refine does_of_J Try.func13 rfl (n := 9) rfl rfl hs hr ?_
  refine J_seq ?_
  refine J_region ?_
  refine JL_op rfl (op_read rfl rfl (r_assign (v := .int .i64 0) rfl) ?_)
  refine JL_nil ?_
  refine J_then ?_
  refine J_seq ?_
  refine J_seq ?_
  refine J_region ?_
  refine JL_op rfl (op_read rfl rfl (r_move (v := .pointer (some (Addr.add a_1 0))) rfl) ?_)
  refine JL_op rfl (op_read rfl rfl (r_eqnil_ptr Try.pu25 rfl rfl rfl) ?_)
  refine JL_nil ?_
  refine J_then ?_
  refine J_cond_f rfl ?_
  refine J_skip ?_
  refine J_then ?_
  refine J_seq ?_
  refine J_region ?_
  refine JL_op rfl (op_read rfl rfl (r_move (v := .pointer (some (Addr.add a_1 0))) rfl) ?_)
  refine JL_op rfl (op_read rfl rfl (r_nilCheck (a := (Addr.add a_1 0)) rfl) ?_)
  refine JL_op rfl (op_read rfl rfl (r_fieldAddr (r := Addr.add a_1 1) Try.pu64 (f := Try.pf64.getD 1 default) rfl Try.pi3 (by decide) rfl (Addr.add_add _ _ _)) ?_)
  refine JL_op rfl (op_read rfl rfl (r_load_priv (a := a_1) (off := 1) (cs' := [.int .i64 used_4]) (v := .int .i64 used_4) 0 Try.pu3 Try.pi3 rfl rfl rfl rfl (by decide) rfl) ?_)
  refine JL_op rfl (op_read rfl rfl (r_assign (v := .int .i64 used_4) rfl) ?_)
  refine JL_nil ?_
  refine J_then ?_
  refine J_ret ?_
  exact J_returnV1 (PV' := [.cell a_1 [v_2, .int .i64 used_4], .row o_Gmem_Block 45 v_2 x_3]) rfl rv_tmp [0, 1] (by decide) rfl ⟨rfl, rfl, rfl⟩
def mem_Memory_block_post (σ0 : FS) (a_1 : Addr) (v_2 : Value) (x_3 : Sl Gmem_Block) (used_4 : Int) (v_5 : Value) (p_6 : Gmem_Value) (r : (Option Int) × Int) (σ : FS) (PV : List Priv) (v : Value) : Prop :=
  σ0 = σ ∧ .tuple #[peOpt v_2 (o_Gmem_Block).size r.1, .int .i64 r.2] = v ∧ PV = [.row o_Gmem_Block 45 v_2 x_3, .cell a_1 [v_2, .int .i64 used_4]]
set_option maxRecDepth 100000 in
theorem mem_Memory_block_ref (s : Start) (σ : FS) (a_1 : Addr) (v_2 : Value) (x_3 : Sl Gmem_Block) (used_4 : Int) (v_5 : Value) (p_6 : Gmem_Value) (h_7 : t_Gmem_Value.vrel σ v_5 p_6) (hs : Pre s σ [.cell a_1 [v_2, .int .i64 used_4], .row o_Gmem_Block 45 v_2 x_3]) (r : (Option Int) × Int) (hr : mem_Memory_block x_3 used_4 p_6 = some r) : Does Try.prog 22 [.pointer (some (Addr.add a_1 0)), v_5] s σ (mem_Memory_block_post σ a_1 v_2 x_3 used_4 v_5 p_6 r) := by
  unfold mem_Memory_block at hr
  obtain rfl := t_Gmem_Value_v.1 h_7
  refine does_of_J Try.func22 rfl (n := 49) rfl rfl hs hr ?_
  refine J_seq ?_
  refine J_region ?_
  refine JL_op rfl (op_box (cs := [.int .i64 p_6.Kind, .int .i64 p_6.N, .int .i64 p_6.Block]) rfl rfl ?_)
  intro c_8
  refine JL_op rfl (op_read rfl rfl (r_assign (v := .pointer none) rfl) ?_)
  refine JL_op rfl (op_read rfl rfl (r_assign (v := .int .i64 0) rfl) ?_)
  refine JL_nil ?_
  refine J_then ?_
  refine J_seq ?_
  refine J_block ?_
  refine J_seq ?_
  refine J_region ?_
  refine JL_op rfl (op_read rfl rfl (r_fieldAddr (r := Addr.add c_8 0) Try.pu29 (f := Try.pf29.getD 0 default) rfl Try.pi27 (by decide) rfl (Addr.add_add _ _ _)) ?_)
  refine JL_op rfl (op_read rfl rfl (r_load_priv (a := c_8) (off := 0) (cs' := [.int .i64 p_6.Kind]) (v := .int .i64 p_6.Kind) 0 Try.pu27 Try.pi27 rfl rfl rfl rfl (by decide) rfl) ?_)
  refine JL_op rfl (op_read rfl rfl (r_neq rfl rfl) ?_)
  refine JL_op rfl (op_read rfl rfl (r_assign (v := .bool (decide (p_6.Kind ≠ 2))) rfl) ?_)
  refine JL_nil ?_
  refine J_then ?_
  refine J_cond rfl (fun hc_10 => ?_) (fun hc_10 => ?_)
  · refine J_seq ?_
    refine J_region ?_
    refine JL_op rfl (op_read rfl rfl (r_assign (v := .pointer none) rfl) ?_)
    refine JL_op rfl (op_read rfl rfl (r_assign (v := .int .i64 1) rfl) ?_)
    refine JL_nil ?_
    refine J_then ?_
    refine J_ret ?_
    refine J_in_ret ?_
    refine J_then_ret ?_
    exact J_returnV2 (PV' := [.row o_Gmem_Block 45 v_2 x_3, .cell a_1 [v_2, .int .i64 used_4]]) rfl rv_tmp rv_tmp [2, 1] (by decide) rfl ⟨rfl, rfl, rfl⟩
  · refine J_seq ?_
    refine J_region_any 31 [.cell c_8 [.int .i64 p_6.Kind, .int .i64 p_6.N, .int .i64 p_6.Block], .cell a_1 [v_2, .int .i64 used_4], .row o_Gmem_Block 45 v_2 x_3] Try.mixed (by kernel_rfl) fun hns => ?_
    have hS_11 : HeldOK σ [.cell c_8 [.int .i64 p_6.Kind, .int .i64 p_6.N, .int .i64 p_6.Block], .cell a_1 [v_2, .int .i64 used_4], .row o_Gmem_Block 45 v_2 x_3] σ [.cell c_8 [.int .i64 p_6.Kind, .int .i64 p_6.N, .int .i64 p_6.Block], .cell a_1 [v_2, .int .i64 used_4], .row o_Gmem_Block 45 v_2 x_3] := HeldOK.same [0, 1, 2] (by decide) rfl
    refine JA_takep 0 rfl hns (by kernel_rfl) (by kernel_rfl) rfl (.inr hS_11) rfl rfl rfl (r_move (v := .pointer (some (Addr.add a_1 0))) rfl) ?_
    refine JA_takep 1 rfl hns (by kernel_rfl) (by kernel_rfl) rfl (.inr hS_11) rfl rfl rfl (r_eqnil_ptr Try.pu25 rfl rfl rfl) ?_
    refine JA_takep 2 rfl hns (by kernel_rfl) (by kernel_rfl) rfl (.inr hS_11) rfl rfl rfl (r_move (v := .bool false) rfl) ?_
    refine JA_takepg 3 rfl hns (by kernel_rfl) (by kernel_rfl) rfl (.inr hS_11) rfl rfl rfl rfl rfl (r_fieldAddr (r := Addr.add c_8 2) Try.pu29 (f := Try.pf29.getD 2 default) rfl Try.pi3 (by decide) rfl (Addr.add_add _ _ _)) ?_
    refine JA_takeg 4 rfl hns (by kernel_rfl) (by kernel_rfl) (by kernel_rfl) rfl (by kernel_rfl) hS_11 rfl rfl rfl rfl rfl (r_load_priv (a := c_8) (off := 2) (cs' := [.int .i64 p_6.Block]) (v := .int .i64 p_6.Block) 0 Try.pu3 Try.pi3 rfl rfl rfl rfl (by decide) rfl) ?_
    refine JA_takepg 5 rfl hns (by kernel_rfl) (by kernel_rfl) rfl (.inr hS_11) rfl rfl rfl rfl rfl (r_lss rfl rfl) ?_
    refine JA_takep 6 rfl hns (by kernel_rfl) (by kernel_rfl) rfl (.inr hS_11) rfl rfl rfl (r_pick_f (v := .bool (decide (p_6.Block < 1))) rfl rfl rfl) ?_
    refine JA_takep 7 rfl hns (by kernel_rfl) (by kernel_rfl) rfl (.inr hS_11) rfl rfl rfl (r_move (v := .bool (decide (p_6.Block < 1))) rfl) ?_
    refine J_forkA (e := (decide (p_6.Block < 1))) 14 #[true, true, true, true, true, true, true, true, true, true, true, true, true, true, true, true, true, false, false, false, false, false, false, false, false, false, false, false, false, false, false] [(0, .pointer (some (Addr.add a_1 0))), (3, .pointer (some (Addr.add c_8 0))), (27, .bool (decide (p_6.Block < 1) || decide (x_3.len < p_6.Block)))] (fun hc_12 hk => ?_) (fun hc_12 hk => ?_) (fun b => ?_)
    · refine JA_skip (y := some (decide (p_6.Block < 1))) 8 rfl hns (by kernel_rfl) (by kernel_rfl) rfl (.inr hS_11) rfl rfl (by rw [hc_12]; decide) rfl rfl ?_
      refine JA_skip (y := some (decide (p_6.Block < 1))) 9 rfl hns (by kernel_rfl) (by kernel_rfl) rfl (.inr hS_11) rfl rfl (by rw [hc_12]; decide) rfl rfl ?_
      refine JA_skip (y := some (decide (p_6.Block < 1))) 10 rfl hns (by kernel_rfl) (by kernel_rfl) rfl (.inr hS_11) rfl rfl (by rw [hc_12]; decide) rfl rfl ?_
      refine JA_skip (y := some (decide (p_6.Block < 1))) 11 rfl hns (by kernel_rfl) (by kernel_rfl) rfl (.inr hS_11) rfl rfl (by rw [hc_12]; decide) rfl rfl ?_
      refine JA_skip (y := some (decide (p_6.Block < 1))) 12 rfl hns (by kernel_rfl) (by kernel_rfl) rfl (.inr hS_11) rfl rfl (by rw [hc_12]; decide) rfl rfl ?_
      refine JA_skip (y := some (decide (p_6.Block < 1))) 13 rfl hns (by kernel_rfl) (by kernel_rfl) rfl (.inr hS_11) rfl rfl (by rw [hc_12]; decide) rfl rfl ?_
      refine JA_skip (y := some (decide (p_6.Block < 1))) 14 rfl hns (by kernel_rfl) (by kernel_rfl) rfl (.inr hS_11) rfl rfl (by rw [hc_12]; decide) rfl rfl ?_
      refine JA_skip (y := some (decide (p_6.Block < 1))) 15 rfl hns (by kernel_rfl) (by kernel_rfl) rfl (.inr hS_11) rfl rfl (by rw [hc_12]; decide) rfl rfl ?_
      refine JA_takep 16 rfl hns (by kernel_rfl) (by kernel_rfl) rfl (.inr hS_11) rfl rfl rfl (r_pick_t (v := .bool true) rfl hc_12 rfl) ?_
      refine J_prune [(0, .pointer (some (Addr.add a_1 0))), (3, .pointer (some (Addr.add c_8 0))), (27, .bool (decide (p_6.Block < 1) || decide (x_3.len < p_6.Block)))] ⟨rfl, rfl, (by show Value.bool _ = Value.bool _; rw [hc_12]; rfl), trivial⟩ hk
    · refine JA_takepg 8 rfl hns (by kernel_rfl) (by kernel_rfl) rfl (.inr hS_11) rfl rfl hc_12 rfl rfl (r_fieldAddr (r := Addr.add c_8 2) Try.pu29 (f := Try.pf29.getD 2 default) rfl Try.pi3 (by decide) rfl (Addr.add_add _ _ _)) ?_
      refine JA_takeg 9 rfl hns (by kernel_rfl) (by kernel_rfl) (by kernel_rfl) rfl (by kernel_rfl) hS_11 rfl rfl hc_12 rfl rfl (r_load_priv (a := c_8) (off := 2) (cs' := [.int .i64 p_6.Block]) (v := .int .i64 p_6.Block) 0 Try.pu3 Try.pi3 rfl rfl rfl rfl (by decide) rfl) ?_
      refine JA_takepg 10 rfl hns (by kernel_rfl) (by kernel_rfl) rfl (.inr hS_11) rfl rfl hc_12 rfl rfl (r_move (v := .pointer (some (Addr.add a_1 0))) rfl) ?_
      refine JA_takepg 11 rfl hns (by kernel_rfl) (by kernel_rfl) rfl (.inr hS_11) rfl rfl hc_12 rfl rfl (r_nilCheck (a := (Addr.add a_1 0)) rfl) ?_
      refine JA_takepg 12 rfl hns (by kernel_rfl) (by kernel_rfl) rfl (.inr hS_11) rfl rfl hc_12 rfl rfl (r_fieldAddr (r := Addr.add a_1 0) Try.pu64 (f := Try.pf64.getD 0 default) rfl Try.pi41 (by decide) rfl (Addr.add_add _ _ _)) ?_
      refine JA_takeg 13 rfl hns (by kernel_rfl) (by kernel_rfl) (by kernel_rfl) rfl (by kernel_rfl) hS_11 rfl rfl hc_12 rfl rfl (r_load_priv (a := a_1) (off := 0) (cs' := [v_2]) (v := v_2) 1 Try.pu41 Try.pi41 rfl rfl rfl rfl (by decide) rfl) ?_
      refine JA_takeg 14 rfl hns (by kernel_rfl) (by kernel_rfl) (by kernel_rfl) rfl (by kernel_rfl) hS_11 rfl rfl hc_12 rfl rfl (r_len_row (v := v_2) 2 Try.pu41 rfl rfl) ?_
      refine JA_takepg 15 rfl hns (by kernel_rfl) (by kernel_rfl) rfl (.inr hS_11) rfl rfl hc_12 rfl rfl (r_gtr rfl rfl) ?_
      refine JA_takep 16 rfl hns (by kernel_rfl) (by kernel_rfl) rfl (.inr hS_11) rfl rfl rfl (r_pick_f (v := .bool (decide (x_3.len < p_6.Block))) rfl hc_12 rfl) ?_
      refine J_prune [(0, .pointer (some (Addr.add a_1 0))), (3, .pointer (some (Addr.add c_8 0))), (27, .bool (decide (p_6.Block < 1) || decide (x_3.len < p_6.Block)))] ⟨rfl, rfl, (by show Value.bool _ = Value.bool _; rw [hc_12]; rfl), trivial⟩ hk
    · refine JA_takep 17 rfl hns (by kernel_rfl) (by kernel_rfl) rfl (.inr hS_11) rfl rfl rfl (r_move (v := .bool (decide (p_6.Block < 1) || decide (x_3.len < p_6.Block))) rfl) ?_
      refine J_forkAB (e := (decide (p_6.Block < 1) || decide (x_3.len < p_6.Block))) 1 #[true, true, true, true, true, true, true, true, true, true, true, true, true, true, true, true, true, true, true, true, true, true, true, true, true, true, true, true, true, true, false] (fun (y : Bool) L τ PV => σ = τ ∧ L = [(0, .pointer (some (Addr.add a_1 0))), (3, .pointer (some (Addr.add c_8 0))), (40, .bool y)] ∧ PV = [.cell a_1 [v_2, .int .i64 used_4], .row o_Gmem_Block 45 v_2 x_3, .cell c_8 [.int .i64 p_6.Kind, .int .i64 p_6.N, .int .i64 p_6.Block]]) (fun hc_13 hk => ?_) (fun hc_13 hk => ?_) ?_
      · refine JA_skip (y := some (decide (p_6.Block < 1) || decide (x_3.len < p_6.Block))) 18 rfl hns (by kernel_rfl) (by kernel_rfl) rfl (.inr hS_11) rfl rfl (by rw [hc_13]; decide) rfl rfl ?_
        refine JA_skip (y := some (decide (p_6.Block < 1) || decide (x_3.len < p_6.Block))) 19 rfl hns (by kernel_rfl) (by kernel_rfl) rfl (.inr hS_11) rfl rfl (by rw [hc_13]; decide) rfl rfl ?_
        refine JA_skip (y := some (decide (p_6.Block < 1) || decide (x_3.len < p_6.Block))) 20 rfl hns (by kernel_rfl) (by kernel_rfl) rfl (.inr hS_11) rfl rfl (by rw [hc_13]; decide) rfl rfl ?_
        refine JA_skip (y := some (decide (p_6.Block < 1) || decide (x_3.len < p_6.Block))) 21 rfl hns (by kernel_rfl) (by kernel_rfl) rfl (.inr hS_11) rfl rfl (by rw [hc_13]; decide) rfl rfl ?_
        refine JA_skip (y := some (decide (p_6.Block < 1) || decide (x_3.len < p_6.Block))) 22 rfl hns (by kernel_rfl) (by kernel_rfl) rfl (.inr hS_11) rfl rfl (by rw [hc_13]; decide) rfl rfl ?_
        refine JA_skip (y := some (decide (p_6.Block < 1) || decide (x_3.len < p_6.Block))) 23 rfl hns (by kernel_rfl) (by kernel_rfl) rfl (.inr hS_11) rfl rfl (by rw [hc_13]; decide) rfl rfl ?_
        refine JA_skip (y := some (decide (p_6.Block < 1) || decide (x_3.len < p_6.Block))) 24 rfl hns (by kernel_rfl) (by kernel_rfl) rfl (.inr hS_11) rfl rfl (by rw [hc_13]; decide) rfl rfl ?_
        refine JA_skip (y := some (decide (p_6.Block < 1) || decide (x_3.len < p_6.Block))) 25 rfl hns (by kernel_rfl) (by kernel_rfl) rfl (.inr hS_11) rfl rfl (by rw [hc_13]; decide) rfl rfl ?_
        refine JA_skip (y := some (decide (p_6.Block < 1) || decide (x_3.len < p_6.Block))) 26 rfl hns (by kernel_rfl) (by kernel_rfl) rfl (.inr hS_11) rfl rfl (by rw [hc_13]; decide) rfl rfl ?_
        refine JA_skip (y := some (decide (p_6.Block < 1) || decide (x_3.len < p_6.Block))) 27 rfl hns (by kernel_rfl) (by kernel_rfl) rfl (.inr hS_11) rfl rfl (by rw [hc_13]; decide) rfl rfl ?_
        refine JA_skip (y := some (decide (p_6.Block < 1) || decide (x_3.len < p_6.Block))) 28 rfl hns (by kernel_rfl) (by kernel_rfl) rfl (.inr hS_11) rfl rfl (by rw [hc_13]; decide) rfl rfl ?_
        refine JA_takep 29 rfl hns (by kernel_rfl) (by kernel_rfl) rfl (.inr hS_11) rfl rfl rfl (r_pick_t (v := .bool true) rfl hc_13 rfl) ?_
        refine J_select (PV' := [.cell a_1 [v_2, .int .i64 used_4], .row o_Gmem_Block 45 v_2 x_3, .cell c_8 [.int .i64 p_6.Kind, .int .i64 p_6.N, .int .i64 p_6.Block]]) [1, 2, 0] (by decide) rfl ?_
        refine J_prune _ ?_ fun b => hk true _ b _ _ ⟨rfl, rfl, rfl⟩
        exact ⟨rfl, rfl, rfl, trivial⟩
      · refine JA_takepg 18 rfl hns (by kernel_rfl) (by kernel_rfl) rfl (.inr hS_11) rfl rfl hc_13 rfl rfl (r_move (v := .pointer (some (Addr.add a_1 0))) rfl) ?_
        refine JA_takepg 19 rfl hns (by kernel_rfl) (by kernel_rfl) rfl (.inr hS_11) rfl rfl hc_13 rfl rfl (r_nilCheck (a := (Addr.add a_1 0)) rfl) ?_
        refine JA_takepg 20 rfl hns (by kernel_rfl) (by kernel_rfl) rfl (.inr hS_11) rfl rfl hc_13 rfl rfl (r_fieldAddr (r := Addr.add a_1 0) Try.pu64 (f := Try.pf64.getD 0 default) rfl Try.pi41 (by decide) rfl (Addr.add_add _ _ _)) ?_
        refine JA_takeg 21 rfl hns (by kernel_rfl) (by kernel_rfl) (by kernel_rfl) rfl (by kernel_rfl) hS_11 rfl rfl hc_13 rfl rfl (r_load_priv (a := a_1) (off := 0) (cs' := [v_2]) (v := v_2) 1 Try.pu41 Try.pi41 rfl rfl rfl rfl (by decide) rfl) ?_
        refine JA_takepg 22 rfl hns (by kernel_rfl) (by kernel_rfl) rfl (.inr hS_11) rfl rfl hc_13 rfl rfl (r_fieldAddr (r := Addr.add c_8 2) Try.pu29 (f := Try.pf29.getD 2 default) rfl Try.pi3 (by decide) rfl (Addr.add_add _ _ _)) ?_
        refine JA_takeg 23 rfl hns (by kernel_rfl) (by kernel_rfl) (by kernel_rfl) rfl (by kernel_rfl) hS_11 rfl rfl hc_13 rfl rfl (r_load_priv (a := c_8) (off := 2) (cs' := [.int .i64 p_6.Block]) (v := .int .i64 p_6.Block) 0 Try.pu3 Try.pi3 rfl rfl rfl rfl (by decide) rfl) ?_
        refine JA_takepg 24 rfl hns (by kernel_rfl) (by kernel_rfl) rfl (.inr hS_11) rfl rfl hc_13 rfl rfl (r_sub rfl rfl) ?_
        refine J_assoc ?_
        refine J_bind fun x_15 hx_16 => ?_
        refine JA_takeg 25 rfl hns (by kernel_rfl) (by kernel_rfl) (by kernel_rfl) rfl (by kernel_rfl) hS_11 rfl rfl hc_13 rfl rfl (r_index_row (v := v_2) (T := o_Gmem_Block) (q := x_15) 2 Try.pu41 Try.pi45 rfl rfl rfl rfl hx_16) ?_
        refine JA_takepg 26 rfl hns (by kernel_rfl) (by kernel_rfl) rfl (.inr hS_11) rfl rfl hc_13 rfl rfl (r_fieldAddr (r := elemAddr v_2 ((IntKind.i64.wrap (p_6.Block - 1)).toNat * (o_Gmem_Block).size + 0)) Try.pu45 (f := Try.pf45.getD 0 default) rfl Try.pi4 (by decide) rfl (elemAddr_add _ _ _)) ?_
        refine JA_takesg 27 rfl hns (by kernel_rfl) (by kernel_rfl) (by kernel_rfl) rfl (by kernel_rfl) hS_11 rfl rfl hc_13 rfl rfl (l_elem_orow (v := v_2) (T := o_Gmem_Block) (Tf := tBool) (q := x_15) (i := (IntKind.i64.wrap (p_6.Block - 1))) (off := 0) 2 Try.pu4 Try.pi4 rfl rfl rfl rfl hx_16 of_Gmem_Block_Live (by decide)) ?_
        intro v_17 h_18
        obtain rfl := tBool_v.1 h_18
        refine JA_takepg 28 rfl hns (by kernel_rfl) (by kernel_rfl) rfl (.inr hS_11) rfl rfl hc_13 rfl rfl (r_not rfl) ?_
        refine JA_takep 29 rfl hns (by kernel_rfl) (by kernel_rfl) rfl (.inr hS_11) rfl rfl rfl (r_pick_f (v := .bool (!x_15.Live)) rfl hc_13 rfl) ?_
        refine J_select (PV' := [.cell a_1 [v_2, .int .i64 used_4], .row o_Gmem_Block 45 v_2 x_3, .cell c_8 [.int .i64 p_6.Kind, .int .i64 p_6.N, .int .i64 p_6.Block]]) [1, 2, 0] (by decide) rfl ?_
        refine J_prune _ ?_ fun b => hk (!x_15.Live) _ b _ _ ⟨rfl, rfl, rfl⟩
        exact ⟨rfl, rfl, rfl, trivial⟩
      · rintro y_14 _ b s_21 _ ⟨rfl, rfl, rfl⟩
        have hS_22 : HeldOK σ [.cell c_8 [.int .i64 p_6.Kind, .int .i64 p_6.N, .int .i64 p_6.Block], .cell a_1 [v_2, .int .i64 used_4], .row o_Gmem_Block 45 v_2 x_3] σ [.cell a_1 [v_2, .int .i64 used_4], .row o_Gmem_Block 45 v_2 x_3, .cell c_8 [.int .i64 p_6.Kind, .int .i64 p_6.N, .int .i64 p_6.Block]] := HeldOK.same [2, 0, 1] (by decide) rfl
        refine JA_takep 30 rfl hns (by kernel_rfl) (by kernel_rfl) rfl (.inr hS_22) rfl rfl rfl (r_assign (v := .bool y_14) rfl) ?_
        refine JA_done (by kernel_rfl) ?_
        refine J_then ?_
        refine J_cond rfl (fun hc_23 => ?_) (fun hc_23 => ?_)
        · refine J_seq ?_
          refine J_region ?_
          refine JL_op rfl (op_read rfl rfl (r_assign (v := .pointer none) rfl) ?_)
          refine JL_op rfl (op_read rfl rfl (r_assign (v := .int .i64 2) rfl) ?_)
          refine JL_nil ?_
          refine J_then ?_
          refine J_ret ?_
          refine J_in_ret ?_
          refine J_then_ret ?_
          exact J_returnV2 (PV' := [.row o_Gmem_Block 45 v_2 x_3, .cell a_1 [v_2, .int .i64 used_4]]) rfl rv_tmp rv_tmp [1, 0] (by decide) rfl ⟨rfl, rfl, rfl⟩
        · refine J_skip ?_
          refine J_in_normal ?_
          refine J_then ?_
          refine J_seq ?_
          refine J_region_any 10 [.cell a_1 [v_2, .int .i64 used_4], .row o_Gmem_Block 45 v_2 x_3, .cell c_8 [.int .i64 p_6.Kind, .int .i64 p_6.N, .int .i64 p_6.Block]] Try.mixed (by kernel_rfl) fun hns => ?_
          have hS_24 : HeldOK σ [.cell a_1 [v_2, .int .i64 used_4], .row o_Gmem_Block 45 v_2 x_3, .cell c_8 [.int .i64 p_6.Kind, .int .i64 p_6.N, .int .i64 p_6.Block]] σ [.cell a_1 [v_2, .int .i64 used_4], .row o_Gmem_Block 45 v_2 x_3, .cell c_8 [.int .i64 p_6.Kind, .int .i64 p_6.N, .int .i64 p_6.Block]] := HeldOK.same [0, 1, 2] (by decide) rfl
          refine JA_takep 0 rfl hns (by kernel_rfl) (by kernel_rfl) rfl (.inr hS_24) rfl rfl rfl (r_move (v := .pointer (some (Addr.add a_1 0))) rfl) ?_
          refine JA_takep 1 rfl hns (by kernel_rfl) (by kernel_rfl) rfl (.inr hS_24) rfl rfl rfl (r_nilCheck (a := (Addr.add a_1 0)) rfl) ?_
          refine JA_takep 2 rfl hns (by kernel_rfl) (by kernel_rfl) rfl (.inr hS_24) rfl rfl rfl (r_fieldAddr (r := Addr.add a_1 0) Try.pu64 (f := Try.pf64.getD 0 default) rfl Try.pi41 (by decide) rfl (Addr.add_add _ _ _)) ?_
          refine JA_take 3 rfl hns (by kernel_rfl) (by kernel_rfl) (by kernel_rfl) rfl (by kernel_rfl) hS_24 rfl rfl rfl (r_load_priv (a := a_1) (off := 0) (cs' := [v_2]) (v := v_2) 0 Try.pu41 Try.pi41 rfl rfl rfl rfl (by decide) rfl) ?_
          refine JA_takep 4 rfl hns (by kernel_rfl) (by kernel_rfl) rfl (.inr hS_24) rfl rfl rfl (r_fieldAddr (r := Addr.add c_8 2) Try.pu29 (f := Try.pf29.getD 2 default) rfl Try.pi3 (by decide) rfl (Addr.add_add _ _ _)) ?_
          refine JA_take 5 rfl hns (by kernel_rfl) (by kernel_rfl) (by kernel_rfl) rfl (by kernel_rfl) hS_24 rfl rfl rfl (r_load_priv (a := c_8) (off := 2) (cs' := [.int .i64 p_6.Block]) (v := .int .i64 p_6.Block) 2 Try.pu3 Try.pi3 rfl rfl rfl rfl (by decide) rfl) ?_
          refine JA_takep 6 rfl hns (by kernel_rfl) (by kernel_rfl) rfl (.inr hS_24) rfl rfl rfl (r_sub rfl rfl) ?_
          refine J_bind fun x_25 hx_26 => ?_
          refine JA_take 7 rfl hns (by kernel_rfl) (by kernel_rfl) (by kernel_rfl) rfl (by kernel_rfl) hS_24 rfl rfl rfl (r_index_row (v := v_2) (T := o_Gmem_Block) (q := x_25) 1 Try.pu41 Try.pi45 rfl rfl rfl rfl hx_26) ?_
          refine JA_takep 8 rfl hns (by kernel_rfl) (by kernel_rfl) rfl (.inr hS_24) rfl rfl rfl (r_assign (v := .pointer (some (elemAddr v_2 ((IntKind.i64.wrap (p_6.Block - 1)).toNat * (o_Gmem_Block).size + 0)))) rfl) ?_
          refine JA_takep 9 rfl hns (by kernel_rfl) (by kernel_rfl) rfl (.inr hS_24) rfl rfl rfl (r_assign (v := .int .i64 0) rfl) ?_
          refine JA_done (by kernel_rfl) ?_
          refine J_then ?_
          refine J_ret ?_
          exact J_returnV2 (PV' := [.row o_Gmem_Block 45 v_2 x_3, .cell a_1 [v_2, .int .i64 used_4]]) rfl rv_tmp rv_tmp [1, 0] (by decide) rfl ⟨rfl, rfl, rfl⟩
def mem_Memory_cell_post (σ0 : FS) (a_1 : Addr) (v_2 : Value) (x_3 : Sl Gmem_Block) (used_4 : Int) (v_5 : Value) (p_6 : Gmem_Value) (r : (Option Int) × Int) (σ : FS) (PV : List Priv) (v : Value) : Prop :=
  σ0 = σ ∧ .tuple #[peOpt v_2 (o_Gmem_Block).size r.1, .int .i64 r.2] = v ∧ PV = [.row o_Gmem_Block 45 v_2 x_3, .cell a_1 [v_2, .int .i64 used_4]]
set_option maxRecDepth 100000 in
theorem mem_Memory_cell_ref (s : Start) (σ : FS) (a_1 : Addr) (v_2 : Value) (x_3 : Sl Gmem_Block) (used_4 : Int) (v_5 : Value) (p_6 : Gmem_Value) (h_7 : t_Gmem_Value.vrel σ v_5 p_6) (hs : Pre s σ [.cell a_1 [v_2, .int .i64 used_4], .row o_Gmem_Block 45 v_2 x_3]) (r : (Option Int) × Int) (hr : mem_Memory_cell x_3 used_4 p_6 = some r) : Does Try.prog 24 [.pointer (some (Addr.add a_1 0)), v_5] s σ (mem_Memory_cell_post σ a_1 v_2 x_3 used_4 v_5 p_6 r) := by
  unfold mem_Memory_cell at hr
  obtain rfl := t_Gmem_Value_v.1 h_7
  refine does_of_J Try.func24 rfl (n := 33) rfl rfl hs hr ?_
  refine J_seq ?_
  refine J_region ?_
  refine JL_op rfl (op_box (cs := [.int .i64 p_6.Kind, .int .i64 p_6.N, .int .i64 p_6.Block]) rfl rfl ?_)
  intro c_8
  refine JL_op rfl (op_read rfl rfl (r_assign (v := .pointer none) rfl) ?_)
  refine JL_op rfl (op_read rfl rfl (r_assign (v := .int .i64 0) rfl) ?_)
  refine JL_nil ?_
  refine J_then ?_
  refine J_seq ?_
  refine J_region ?_
  refine JL_op rfl (op_read rfl rfl (r_move (v := .pointer (some (Addr.add a_1 0))) rfl) ?_)
  refine JL_op rfl (op_read rfl rfl (r_load_priv (a := c_8) (off := 0) (cs' := [.int .i64 p_6.Kind, .int .i64 p_6.N, .int .i64 p_6.Block]) (v := .agg #[.int .i64 p_6.Kind, .int .i64 p_6.N, .int .i64 p_6.Block]) 0 Try.pu29 Try.pi29 rfl rfl rfl rfl (by decide) rfl) ?_)
  refine J_select (PV' := [.cell a_1 [v_2, .int .i64 used_4], .row o_Gmem_Block 45 v_2 x_3, .cell c_8 [.int .i64 p_6.Kind, .int .i64 p_6.N, .int .i64 p_6.Block]]) [1, 2, 0] (by decide) rfl ?_
  refine JL_op rfl (op_call (f := 22) (fn := Try.f22) (args := [.pointer (some (Addr.add a_1 0)), .agg #[.int .i64 p_6.Kind, .int .i64 p_6.N, .int .i64 p_6.Block]]) (post := mem_Memory_block_post σ a_1 v_2 x_3 used_4 (.agg #[.int .i64 p_6.Kind, .int .i64 p_6.N, .int .i64 p_6.Block]) p_6) [.cell a_1 [v_2, .int .i64 used_4], .row o_Gmem_Block 45 v_2 x_3] [.cell c_8 [.int .i64 p_6.Kind, .int .i64 p_6.N, .int .i64 p_6.Block]] rfl rfl rfl Try.func22 Try.pn22 rfl rfl (fun y st hy hpre => mem_Memory_block_ref st σ a_1 v_2 x_3 used_4 (.agg #[.int .i64 p_6.Kind, .int .i64 p_6.N, .int .i64 p_6.Block]) p_6 (t_Gmem_Value_v.2 rfl) hpre y hy) ?_)
  intro r_10 v_12 s_15 PV_13 hr_11 hle_16 hp_14
  obtain ⟨rfl, rfl, rfl⟩ := hp_14
  refine JL_op rfl (op_read rfl rfl (r_move (v := .tuple #[peOpt v_2 (o_Gmem_Block).size r_10.1, .int .i64 r_10.2]) rfl) ?_)
  refine JL_op rfl (op_read rfl rfl (r_extract (v := peOpt v_2 (o_Gmem_Block).size r_10.1) rfl rfl) ?_)
  refine JL_op rfl (op_read rfl rfl (r_extract (v := .int .i64 r_10.2) rfl rfl) ?_)
  refine JL_op rfl (op_read rfl rfl (r_assign (v := peOpt v_2 (o_Gmem_Block).size r_10.1) rfl) ?_)
  refine JL_op rfl (op_read rfl rfl (r_assign (v := .int .i64 r_10.2) rfl) ?_)
  refine JL_nil ?_
  refine J_then ?_
  refine J_seq ?_
  refine J_seq ?_
  refine J_region_any 17 [.row o_Gmem_Block 45 v_2 x_3, .cell a_1 [v_2, .int .i64 used_4], .cell c_8 [.int .i64 p_6.Kind, .int .i64 p_6.N, .int .i64 p_6.Block]] Try.mixed (by kernel_rfl) fun hns => ?_
  have hS_17 : HeldOK σ [.row o_Gmem_Block 45 v_2 x_3, .cell a_1 [v_2, .int .i64 used_4], .cell c_8 [.int .i64 p_6.Kind, .int .i64 p_6.N, .int .i64 p_6.Block]] σ [.row o_Gmem_Block 45 v_2 x_3, .cell a_1 [v_2, .int .i64 used_4], .cell c_8 [.int .i64 p_6.Kind, .int .i64 p_6.N, .int .i64 p_6.Block]] := HeldOK.same [0, 1, 2] (by decide) rfl
  refine JA_takep 0 rfl hns (by kernel_rfl) (by kernel_rfl) rfl (.inr hS_17) rfl rfl rfl (r_move (v := .int .i64 r_10.2) rfl) ?_
  refine JA_takep 1 rfl hns (by kernel_rfl) (by kernel_rfl) rfl (.inr hS_17) rfl rfl rfl (r_eql rfl rfl) ?_
  refine JA_takep 2 rfl hns (by kernel_rfl) (by kernel_rfl) rfl (.inr hS_17) rfl rfl rfl (r_move (v := .bool (decide (r_10.2 = 0))) rfl) ?_
  refine J_forkAB (e := (decide (r_10.2 = 0))) 0 #[true, true, true, true, true, true, true, true, true, true, true, true, true, true, true, true, true] (fun (y : Bool) L τ PV => σ = τ ∧ L = [(6, peOpt v_2 (o_Gmem_Block).size r_10.1), (7, .int .i64 r_10.2), (30, .bool y)] ∧ PV = [.row o_Gmem_Block 45 v_2 x_3, .cell a_1 [v_2, .int .i64 used_4], .cell c_8 [.int .i64 p_6.Kind, .int .i64 p_6.N, .int .i64 p_6.Block]]) (fun hc_18 hk => ?_) (fun hc_18 hk => ?_) ?_
  · refine JA_takepg 3 rfl hns (by kernel_rfl) (by kernel_rfl) rfl (.inr hS_17) rfl rfl hc_18 rfl rfl (r_fieldAddr (r := Addr.add c_8 1) Try.pu29 (f := Try.pf29.getD 1 default) rfl Try.pi2 (by decide) rfl (Addr.add_add _ _ _)) ?_
    refine JA_takeg 4 rfl hns (by kernel_rfl) (by kernel_rfl) (by kernel_rfl) rfl (by kernel_rfl) hS_17 rfl rfl hc_18 rfl rfl (r_load_priv (a := c_8) (off := 1) (cs' := [.int .i64 p_6.N]) (v := .int .i64 p_6.N) 2 Try.pu2 Try.pi2 rfl rfl rfl rfl (by decide) rfl) ?_
    refine JA_takepg 5 rfl hns (by kernel_rfl) (by kernel_rfl) rfl (.inr hS_17) rfl rfl hc_18 rfl rfl (r_lss rfl rfl) ?_
    refine JA_takepg 6 rfl hns (by kernel_rfl) (by kernel_rfl) rfl (.inr hS_17) rfl rfl hc_18 rfl rfl (r_move (v := .bool (decide (p_6.N < 0))) rfl) ?_
    refine J_assoc ?_
    refine J_forkAB (e := (decide (p_6.N < 0))) 1 #[true, true, true, true, true, true, true, true, true, true, true, true, true, true, true, true, false] (fun (y : Bool) L τ PV => σ = τ ∧ L = [(3, .pointer (some (Addr.add c_8 0))), (6, peOpt v_2 (o_Gmem_Block).size r_10.1), (7, .int .i64 r_10.2), (14, .int .i64 r_10.2), (15, .bool (decide (r_10.2 = 0))), (16, .bool (decide (r_10.2 = 0))), (17, .pointer (some (Addr.add c_8 1))), (18, .int .i64 p_6.N), (19, .bool (decide (p_6.N < 0))), (20, .bool (decide (p_6.N < 0))), (29, .bool y)] ∧ PV = [.cell c_8 [.int .i64 p_6.Kind, .int .i64 p_6.N, .int .i64 p_6.Block], .row o_Gmem_Block 45 v_2 x_3, .cell a_1 [v_2, .int .i64 used_4]]) (fun hc_20 hk => ?_) (fun hc_20 hk => ?_) ?_
    · refine JA_skip (y := some (decide (p_6.N < 0))) 7 rfl hns (by kernel_rfl) (by kernel_rfl) rfl (.inr hS_17) rfl rfl (by rw [hc_20]; decide) rfl rfl ?_
      refine JA_skip (y := some (decide (p_6.N < 0))) 8 rfl hns (by kernel_rfl) (by kernel_rfl) rfl (.inr hS_17) rfl rfl (by rw [hc_20]; decide) rfl rfl ?_
      refine JA_skip (y := some (decide (p_6.N < 0))) 9 rfl hns (by kernel_rfl) (by kernel_rfl) rfl (.inr hS_17) rfl rfl (by rw [hc_20]; decide) rfl rfl ?_
      refine JA_skip (y := some (decide (p_6.N < 0))) 10 rfl hns (by kernel_rfl) (by kernel_rfl) rfl (.inr hS_17) rfl rfl (by rw [hc_20]; decide) rfl rfl ?_
      refine JA_skip (y := some (decide (p_6.N < 0))) 11 rfl hns (by kernel_rfl) (by kernel_rfl) rfl (.inr hS_17) rfl rfl (by rw [hc_20]; decide) rfl rfl ?_
      refine JA_skip (y := some (decide (p_6.N < 0))) 12 rfl hns (by kernel_rfl) (by kernel_rfl) rfl (.inr hS_17) rfl rfl (by rw [hc_20]; decide) rfl rfl ?_
      refine JA_skip (y := some (decide (p_6.N < 0))) 13 rfl hns (by kernel_rfl) (by kernel_rfl) rfl (.inr hS_17) rfl rfl (by rw [hc_20]; decide) rfl rfl ?_
      refine JA_skip (y := some (decide (p_6.N < 0))) 14 rfl hns (by kernel_rfl) (by kernel_rfl) rfl (.inr hS_17) rfl rfl (by rw [hc_20]; decide) rfl rfl ?_
      refine JA_takepg 15 rfl hns (by kernel_rfl) (by kernel_rfl) rfl (.inr hS_17) rfl rfl hc_18 rfl rfl (r_pick_t (v := .bool true) rfl hc_20 rfl) ?_
      refine J_select (PV' := [.cell c_8 [.int .i64 p_6.Kind, .int .i64 p_6.N, .int .i64 p_6.Block], .row o_Gmem_Block 45 v_2 x_3, .cell a_1 [v_2, .int .i64 used_4]]) [2, 0, 1] (by decide) rfl ?_
      refine J_prune _ ?_ fun b => hk true _ b _ _ ⟨rfl, rfl, rfl⟩
      exact ⟨rfl, rfl, rfl, rfl, rfl, rfl, rfl, rfl, rfl, rfl, rfl, trivial⟩
    · refine JA_takepg 7 rfl hns (by kernel_rfl) (by kernel_rfl) rfl (.inr hS_17) rfl rfl hc_20 rfl rfl (r_fieldAddr (r := Addr.add c_8 1) Try.pu29 (f := Try.pf29.getD 1 default) rfl Try.pi2 (by decide) rfl (Addr.add_add _ _ _)) ?_
      refine JA_takeg 8 rfl hns (by kernel_rfl) (by kernel_rfl) (by kernel_rfl) rfl (by kernel_rfl) hS_17 rfl rfl hc_20 rfl rfl (r_load_priv (a := c_8) (off := 1) (cs' := [.int .i64 p_6.N]) (v := .int .i64 p_6.N) 2 Try.pu2 Try.pi2 rfl rfl rfl rfl (by decide) rfl) ?_
      refine JA_takepg 9 rfl hns (by kernel_rfl) (by kernel_rfl) rfl (.inr hS_17) rfl rfl hc_20 rfl rfl (r_move (v := peOpt v_2 (o_Gmem_Block).size r_10.1) rfl) ?_
      refine J_assoc ?_
      refine J_bind fun i_22 hi_23 => ?_
      refine JA_takepg 10 rfl hns (by kernel_rfl) (by kernel_rfl) rfl (.inr hS_17) rfl rfl hc_20 rfl rfl (r_nilCheck_opt (i := i_22) rfl hi_23) ?_
      refine JA_takepg 11 rfl hns (by kernel_rfl) (by kernel_rfl) rfl (.inr hS_17) rfl rfl hc_20 rfl rfl (r_fieldAddr (r := elemAddr v_2 ((i_22).toNat * (o_Gmem_Block).size + 1)) Try.pu45 (f := Try.pf45.getD 1 default) rfl Try.pi43 (by decide) rfl (elemAddr_add _ _ _)) ?_
      refine J_assoc ?_
      refine J_bind fun x_24 hx_25 => ?_
      refine J_take (T := o_Gmem_Block) (i := i_22) hx_25 fun u_27 hu_26 => ?_
      obtain ⟨_, v_29, v_31, v_33⟩ := u_27
      change J _ _ _ _ _ _ _ _ [.hole (fun x => .elem o_Gmem_Block (elemAddr v_2 ((i_22).toNat * (o_Gmem_Block).size)) x) (fun x => .row o_Gmem_Block 45 v_2 (Sl.set x_3 i_22 x)), .cell (elemAddr v_2 ((i_22).toNat * (o_Gmem_Block).size)) [.bool x_24.Live, v_29, v_31, v_33], .row (t_Gmem_Value).o 29 v_29 x_24.Cells, .row ((tInt .i64)).o 3 v_31 x_24.Readers, .row (tBool).o 4 v_33 x_24.Writer, .cell a_1 [v_2, .int .i64 used_4], .cell c_8 [.int .i64 p_6.Kind, .int .i64 p_6.N, .int .i64 p_6.Block]]
      have hS_35 : HeldOK σ [.row o_Gmem_Block 45 v_2 x_3, .cell a_1 [v_2, .int .i64 used_4], .cell c_8 [.int .i64 p_6.Kind, .int .i64 p_6.N, .int .i64 p_6.Block]] σ [.hole (fun x => .elem o_Gmem_Block (elemAddr v_2 ((i_22).toNat * (o_Gmem_Block).size)) x) (fun x => .row o_Gmem_Block 45 v_2 (Sl.set x_3 i_22 x)), .cell (elemAddr v_2 ((i_22).toNat * (o_Gmem_Block).size)) [.bool x_24.Live, v_29, v_31, v_33], .row (t_Gmem_Value).o 29 v_29 x_24.Cells, .row ((tInt .i64)).o 3 v_31 x_24.Readers, .row (tBool).o 4 v_33 x_24.Writer, .cell a_1 [v_2, .int .i64 used_4], .cell c_8 [.int .i64 p_6.Kind, .int .i64 p_6.N, .int .i64 p_6.Block]] := HeldOK.view (PV := [.row o_Gmem_Block 45 v_2 x_3, .cell a_1 [v_2, .int .i64 used_4], .cell c_8 [.int .i64 p_6.Kind, .int .i64 p_6.N, .int .i64 p_6.Block]]) (HeldOK.same [0, 1, 2] (by decide) rfl) (fun _ k => (take_back (T := o_Gmem_Block) (i := i_22) (s := x_3) (e := 45) (v := v_2) (q := x_24) (C := [.cell a_1 [v_2, .int .i64 used_4], .cell c_8 [.int .i64 p_6.Kind, .int .i64 p_6.N, .int .i64 p_6.Block]]) ((), v_29, v_31, v_33) ⟨trivial, trivial, trivial, trivial⟩ hx_25 (Sep.select (PV' := [.hole (fun x => .elem o_Gmem_Block (elemAddr v_2 ((i_22).toNat * (o_Gmem_Block).size)) x) (fun x => .row o_Gmem_Block 45 v_2 (Sl.set x_3 i_22 x)), .cell (elemAddr v_2 ((i_22).toNat * (o_Gmem_Block).size)) [.bool x_24.Live, v_29, v_31, v_33], .row (t_Gmem_Value).o 29 v_29 x_24.Cells, .row ((tInt .i64)).o 3 v_31 x_24.Readers, .row (tBool).o 4 v_33 x_24.Writer, .cell a_1 [v_2, .int .i64 used_4], .cell c_8 [.int .i64 p_6.Kind, .int .i64 p_6.N, .int .i64 p_6.Block]]) k [0, 1, 2, 3, 4, 5, 6] (by decide) rfl)))
      refine JA_opg (i := 12) (by kernel_rfl) rfl rfl rfl hc_20 (op_read rfl rfl (r_load_priv (a := (elemAddr v_2 ((i_22).toNat * (o_Gmem_Block).size))) (off := 1) (cs' := [v_29]) (v := v_29) 1 Try.pu43 Try.pi43 (pe_add v_2 ((i_22).toNat * (o_Gmem_Block).size) 1) rfl rfl rfl (by decide) rfl) ?_)
      have hS_36 : HeldOK σ [.row o_Gmem_Block 45 v_2 x_3, .cell a_1 [v_2, .int .i64 used_4], .cell c_8 [.int .i64 p_6.Kind, .int .i64 p_6.N, .int .i64 p_6.Block]] σ [.hole (fun x => .elem o_Gmem_Block (elemAddr v_2 ((i_22).toNat * (o_Gmem_Block).size)) x) (fun x => .row o_Gmem_Block 45 v_2 (Sl.set x_3 i_22 x)), .cell (elemAddr v_2 ((i_22).toNat * (o_Gmem_Block).size)) [.bool x_24.Live, v_29, v_31, v_33], .row (t_Gmem_Value).o 29 v_29 x_24.Cells, .row ((tInt .i64)).o 3 v_31 x_24.Readers, .row (tBool).o 4 v_33 x_24.Writer, .cell a_1 [v_2, .int .i64 used_4], .cell c_8 [.int .i64 p_6.Kind, .int .i64 p_6.N, .int .i64 p_6.Block]] := HeldOK.view (PV := [.row o_Gmem_Block 45 v_2 x_3, .cell a_1 [v_2, .int .i64 used_4], .cell c_8 [.int .i64 p_6.Kind, .int .i64 p_6.N, .int .i64 p_6.Block]]) (HeldOK.same [0, 1, 2] (by decide) rfl) (fun _ k => (take_back (T := o_Gmem_Block) (i := i_22) (s := x_3) (e := 45) (v := v_2) (q := x_24) (C := [.cell a_1 [v_2, .int .i64 used_4], .cell c_8 [.int .i64 p_6.Kind, .int .i64 p_6.N, .int .i64 p_6.Block]]) ((), v_29, v_31, v_33) ⟨trivial, trivial, trivial, trivial⟩ hx_25 (Sep.select (PV' := [.hole (fun x => .elem o_Gmem_Block (elemAddr v_2 ((i_22).toNat * (o_Gmem_Block).size)) x) (fun x => .row o_Gmem_Block 45 v_2 (Sl.set x_3 i_22 x)), .cell (elemAddr v_2 ((i_22).toNat * (o_Gmem_Block).size)) [.bool x_24.Live, v_29, v_31, v_33], .row (t_Gmem_Value).o 29 v_29 x_24.Cells, .row ((tInt .i64)).o 3 v_31 x_24.Readers, .row (tBool).o 4 v_33 x_24.Writer, .cell a_1 [v_2, .int .i64 used_4], .cell c_8 [.int .i64 p_6.Kind, .int .i64 p_6.N, .int .i64 p_6.Block]]) k [0, 1, 2, 3, 4, 5, 6] (by decide) rfl)))
      refine ⟨.inr hS_36, ?_⟩
      refine JA_opg (i := 13) (by kernel_rfl) rfl rfl rfl hc_20 (op_read rfl rfl (r_len_row (v := v_29) 2 Try.pu43 rfl rfl) ?_)
      have hS_37 : HeldOK σ [.row o_Gmem_Block 45 v_2 x_3, .cell a_1 [v_2, .int .i64 used_4], .cell c_8 [.int .i64 p_6.Kind, .int .i64 p_6.N, .int .i64 p_6.Block]] σ [.hole (fun x => .elem o_Gmem_Block (elemAddr v_2 ((i_22).toNat * (o_Gmem_Block).size)) x) (fun x => .row o_Gmem_Block 45 v_2 (Sl.set x_3 i_22 x)), .cell (elemAddr v_2 ((i_22).toNat * (o_Gmem_Block).size)) [.bool x_24.Live, v_29, v_31, v_33], .row (t_Gmem_Value).o 29 v_29 x_24.Cells, .row ((tInt .i64)).o 3 v_31 x_24.Readers, .row (tBool).o 4 v_33 x_24.Writer, .cell a_1 [v_2, .int .i64 used_4], .cell c_8 [.int .i64 p_6.Kind, .int .i64 p_6.N, .int .i64 p_6.Block]] := HeldOK.view (PV := [.row o_Gmem_Block 45 v_2 x_3, .cell a_1 [v_2, .int .i64 used_4], .cell c_8 [.int .i64 p_6.Kind, .int .i64 p_6.N, .int .i64 p_6.Block]]) (HeldOK.same [0, 1, 2] (by decide) rfl) (fun _ k => (take_back (T := o_Gmem_Block) (i := i_22) (s := x_3) (e := 45) (v := v_2) (q := x_24) (C := [.cell a_1 [v_2, .int .i64 used_4], .cell c_8 [.int .i64 p_6.Kind, .int .i64 p_6.N, .int .i64 p_6.Block]]) ((), v_29, v_31, v_33) ⟨trivial, trivial, trivial, trivial⟩ hx_25 (Sep.select (PV' := [.hole (fun x => .elem o_Gmem_Block (elemAddr v_2 ((i_22).toNat * (o_Gmem_Block).size)) x) (fun x => .row o_Gmem_Block 45 v_2 (Sl.set x_3 i_22 x)), .cell (elemAddr v_2 ((i_22).toNat * (o_Gmem_Block).size)) [.bool x_24.Live, v_29, v_31, v_33], .row (t_Gmem_Value).o 29 v_29 x_24.Cells, .row ((tInt .i64)).o 3 v_31 x_24.Readers, .row (tBool).o 4 v_33 x_24.Writer, .cell a_1 [v_2, .int .i64 used_4], .cell c_8 [.int .i64 p_6.Kind, .int .i64 p_6.N, .int .i64 p_6.Block]]) k [0, 1, 2, 3, 4, 5, 6] (by decide) rfl)))
      refine ⟨.inr hS_37, ?_⟩
      refine JA_takepg 14 rfl hns (by kernel_rfl) (by kernel_rfl) rfl (.inr hS_37) rfl rfl hc_20 rfl rfl (r_geq rfl rfl) ?_
      refine JA_takepg 15 rfl hns (by kernel_rfl) (by kernel_rfl) rfl (.inr hS_37) rfl rfl hc_18 rfl rfl (r_pick_f (v := .bool (decide (x_24.Cells.len ≤ p_6.N))) rfl hc_20 rfl) ?_
      refine J_put (T := o_Gmem_Block) (i := i_22) (s := x_3) (s' := x_3) (A := [.row (t_Gmem_Value).o 29 v_29 x_24.Cells, .row ((tInt .i64)).o 3 v_31 x_24.Readers, .row (tBool).o 4 v_33 x_24.Writer]) (C := [.cell a_1 [v_2, .int .i64 used_4], .cell c_8 [.int .i64 p_6.Kind, .int .i64 p_6.N, .int .i64 p_6.Block]]) x_24 ((), v_29, v_31, v_33) ⟨trivial, trivial, trivial, trivial⟩ rfl rfl (Sl.set_same hx_25) ?_
      refine J_select (PV' := [.cell c_8 [.int .i64 p_6.Kind, .int .i64 p_6.N, .int .i64 p_6.Block], .row o_Gmem_Block 45 v_2 x_3, .cell a_1 [v_2, .int .i64 used_4]]) [2, 0, 1] (by decide) rfl ?_
      refine J_prune _ ?_ fun b => hk (decide (x_24.Cells.len ≤ p_6.N)) _ b _ _ ⟨rfl, rfl, rfl⟩
      exact ⟨rfl, rfl, rfl, rfl, rfl, rfl, rfl, rfl, rfl, rfl, rfl, trivial⟩
    · rintro y_21 _ b s_40 _ ⟨rfl, rfl, rfl⟩
      have hS_41 : HeldOK σ [.row o_Gmem_Block 45 v_2 x_3, .cell a_1 [v_2, .int .i64 used_4], .cell c_8 [.int .i64 p_6.Kind, .int .i64 p_6.N, .int .i64 p_6.Block]] σ [.cell c_8 [.int .i64 p_6.Kind, .int .i64 p_6.N, .int .i64 p_6.Block], .row o_Gmem_Block 45 v_2 x_3, .cell a_1 [v_2, .int .i64 used_4]] := HeldOK.same [1, 2, 0] (by decide) rfl
      refine JA_takep 16 rfl hns (by kernel_rfl) (by kernel_rfl) rfl (.inr hS_41) rfl rfl rfl (r_pick_t (v := .bool y_21) rfl hc_18 rfl) ?_
      refine J_select (PV' := [.row o_Gmem_Block 45 v_2 x_3, .cell a_1 [v_2, .int .i64 used_4], .cell c_8 [.int .i64 p_6.Kind, .int .i64 p_6.N, .int .i64 p_6.Block]]) [1, 2, 0] (by decide) rfl ?_
      refine J_prune _ ?_ fun b => hk y_21 _ b _ _ ⟨rfl, rfl, rfl⟩
      exact ⟨rfl, rfl, rfl, trivial⟩
  · refine JA_skip (y := some (decide (r_10.2 = 0))) 3 rfl hns (by kernel_rfl) (by kernel_rfl) rfl (.inr hS_17) rfl rfl (by rw [hc_18]; decide) rfl rfl ?_
    refine JA_skip (y := some (decide (r_10.2 = 0))) 4 rfl hns (by kernel_rfl) (by kernel_rfl) rfl (.inr hS_17) rfl rfl (by rw [hc_18]; decide) rfl rfl ?_
    refine JA_skip (y := some (decide (r_10.2 = 0))) 5 rfl hns (by kernel_rfl) (by kernel_rfl) rfl (.inr hS_17) rfl rfl (by rw [hc_18]; decide) rfl rfl ?_
    refine JA_skip (y := some (decide (r_10.2 = 0))) 6 rfl hns (by kernel_rfl) (by kernel_rfl) rfl (.inr hS_17) rfl rfl (by rw [hc_18]; decide) rfl rfl ?_
    refine JA_skip (y := none) 7 rfl hns (by kernel_rfl) (by kernel_rfl) rfl (.inr hS_17) rfl rfl (by decide) rfl rfl ?_
    refine JA_skip (y := none) 8 rfl hns (by kernel_rfl) (by kernel_rfl) rfl (.inr hS_17) rfl rfl (by decide) rfl rfl ?_
    refine JA_skip (y := none) 9 rfl hns (by kernel_rfl) (by kernel_rfl) rfl (.inr hS_17) rfl rfl (by decide) rfl rfl ?_
    refine JA_skip (y := none) 10 rfl hns (by kernel_rfl) (by kernel_rfl) rfl (.inr hS_17) rfl rfl (by decide) rfl rfl ?_
    refine JA_skip (y := none) 11 rfl hns (by kernel_rfl) (by kernel_rfl) rfl (.inr hS_17) rfl rfl (by decide) rfl rfl ?_
    refine JA_skip (y := none) 12 rfl hns (by kernel_rfl) (by kernel_rfl) rfl (.inr hS_17) rfl rfl (by decide) rfl rfl ?_
    refine JA_skip (y := none) 13 rfl hns (by kernel_rfl) (by kernel_rfl) rfl (.inr hS_17) rfl rfl (by decide) rfl rfl ?_
    refine JA_skip (y := none) 14 rfl hns (by kernel_rfl) (by kernel_rfl) rfl (.inr hS_17) rfl rfl (by decide) rfl rfl ?_
    refine JA_skip (y := some (decide (r_10.2 = 0))) 15 rfl hns (by kernel_rfl) (by kernel_rfl) rfl (.inr hS_17) rfl rfl (by rw [hc_18]; decide) rfl rfl ?_
    refine JA_takep 16 rfl hns (by kernel_rfl) (by kernel_rfl) rfl (.inr hS_17) rfl rfl rfl (r_pick_f (v := .bool false) rfl hc_18 rfl) ?_
    refine J_prune _ ?_ fun b => hk false _ b _ _ ⟨rfl, rfl, rfl⟩
    exact ⟨rfl, rfl, rfl, trivial⟩
  · rintro y_19 _ b s_44 _ ⟨rfl, rfl, rfl⟩
    have hS_45 : HeldOK σ [.row o_Gmem_Block 45 v_2 x_3, .cell a_1 [v_2, .int .i64 used_4], .cell c_8 [.int .i64 p_6.Kind, .int .i64 p_6.N, .int .i64 p_6.Block]] σ [.row o_Gmem_Block 45 v_2 x_3, .cell a_1 [v_2, .int .i64 used_4], .cell c_8 [.int .i64 p_6.Kind, .int .i64 p_6.N, .int .i64 p_6.Block]] := HeldOK.same [0, 1, 2] (by decide) rfl
    refine JA_done (by kernel_rfl) ?_
    refine J_then ?_
    refine J_cond rfl (fun hc_46 => ?_) (fun hc_46 => ?_)
    · refine J_seq ?_
      refine J_region ?_
      refine JL_op rfl (op_read rfl rfl (r_assign (v := .pointer none) rfl) ?_)
      refine JL_op rfl (op_read rfl rfl (r_assign (v := .int .i64 3) rfl) ?_)
      refine JL_nil ?_
      refine J_then ?_
      refine J_ret ?_
      refine J_then_ret ?_
      exact J_returnV2 (PV' := [.row o_Gmem_Block 45 v_2 x_3, .cell a_1 [v_2, .int .i64 used_4]]) rfl rv_tmp rv_tmp [0, 1] (by decide) rfl ⟨rfl, rfl, rfl⟩
    · refine J_skip ?_
      refine J_then ?_
      refine J_seq ?_
      refine J_region ?_
      refine JL_op rfl (op_read rfl rfl (r_move (v := peOpt v_2 (o_Gmem_Block).size r_10.1) rfl) ?_)
      refine JL_op rfl (op_read rfl rfl (r_move (v := .int .i64 r_10.2) rfl) ?_)
      refine JL_op rfl (op_read rfl rfl (r_assign (v := peOpt v_2 (o_Gmem_Block).size r_10.1) rfl) ?_)
      refine JL_op rfl (op_read rfl rfl (r_assign (v := .int .i64 r_10.2) rfl) ?_)
      refine JL_nil ?_
      refine J_then ?_
      refine J_ret ?_
      exact J_returnV2 (PV' := [.row o_Gmem_Block 45 v_2 x_3, .cell a_1 [v_2, .int .i64 used_4]]) rfl rv_tmp rv_tmp [0, 1] (by decide) rfl ⟨rfl, rfl, rfl⟩
def mem_Memory_Begin_post (σ0 : FS) (a_1 : Addr) (v_2 : Value) (x_3 : Sl Gmem_Block) (used_4 : Int) (v_5 : Value) (p_6 : Gmem_Value) (write_8 : Bool) (r : Int × (Sl Gmem_Block)) (σ : FS) (PV : List Priv) (v : Value) : Prop :=
  σ0 = σ ∧ .int .i64 r.1 = v ∧ PV = [.cell a_1 [v_2, .int .i64 used_4], .row o_Gmem_Block 45 v_2 r.2]
set_option maxRecDepth 100000 in
theorem mem_Memory_Begin_ref (s : Start) (σ : FS) (a_1 : Addr) (v_2 : Value) (x_3 : Sl Gmem_Block) (used_4 : Int) (v_5 : Value) (p_6 : Gmem_Value) (h_7 : t_Gmem_Value.vrel σ v_5 p_6) (write_8 : Bool) (hs : Pre s σ [.cell a_1 [v_2, .int .i64 used_4], .row o_Gmem_Block 45 v_2 x_3]) (r : Int × (Sl Gmem_Block)) (hr : mem_Memory_Begin x_3 used_4 p_6 write_8 = some r) : Does Try.prog 15 [.pointer (some (Addr.add a_1 0)), v_5, .bool write_8] s σ (mem_Memory_Begin_post σ a_1 v_2 x_3 used_4 v_5 p_6 write_8 r) := by
  unfold mem_Memory_Begin at hr
  obtain rfl := t_Gmem_Value_v.1 h_7
  refine does_of_J Try.func15 rfl (n := 61) rfl rfl hs hr ?_
  refine J_seq ?_
  refine J_region ?_
  refine JL_op rfl (op_box (cs := [.int .i64 p_6.Kind, .int .i64 p_6.N, .int .i64 p_6.Block]) rfl rfl ?_)
  intro c_9
  refine JL_op rfl (op_read rfl rfl (r_assign (v := .int .i64 0) rfl) ?_)
  refine JL_nil ?_
  refine J_then ?_
  refine J_seq ?_
  refine J_region ?_
  refine JL_op rfl (op_read rfl rfl (r_move (v := .pointer (some (Addr.add a_1 0))) rfl) ?_)
  refine JL_op rfl (op_read rfl rfl (r_load_priv (a := c_9) (off := 0) (cs' := [.int .i64 p_6.Kind, .int .i64 p_6.N, .int .i64 p_6.Block]) (v := .agg #[.int .i64 p_6.Kind, .int .i64 p_6.N, .int .i64 p_6.Block]) 0 Try.pu29 Try.pi29 rfl rfl rfl rfl (by decide) rfl) ?_)
  refine J_select (PV' := [.cell a_1 [v_2, .int .i64 used_4], .row o_Gmem_Block 45 v_2 x_3, .cell c_9 [.int .i64 p_6.Kind, .int .i64 p_6.N, .int .i64 p_6.Block]]) [1, 2, 0] (by decide) rfl ?_
  refine JL_op rfl (op_call (f := 24) (fn := Try.f24) (args := [.pointer (some (Addr.add a_1 0)), .agg #[.int .i64 p_6.Kind, .int .i64 p_6.N, .int .i64 p_6.Block]]) (post := mem_Memory_cell_post σ a_1 v_2 x_3 used_4 (.agg #[.int .i64 p_6.Kind, .int .i64 p_6.N, .int .i64 p_6.Block]) p_6) [.cell a_1 [v_2, .int .i64 used_4], .row o_Gmem_Block 45 v_2 x_3] [.cell c_9 [.int .i64 p_6.Kind, .int .i64 p_6.N, .int .i64 p_6.Block]] rfl rfl rfl Try.func24 Try.pn24 rfl rfl (fun y st hy hpre => mem_Memory_cell_ref st σ a_1 v_2 x_3 used_4 (.agg #[.int .i64 p_6.Kind, .int .i64 p_6.N, .int .i64 p_6.Block]) p_6 (t_Gmem_Value_v.2 rfl) hpre y hy) ?_)
  intro r_11 v_13 s_16 PV_14 hr_12 hle_17 hp_15
  obtain ⟨rfl, rfl, rfl⟩ := hp_15
  refine JL_op rfl (op_read rfl rfl (r_move (v := .tuple #[peOpt v_2 (o_Gmem_Block).size r_11.1, .int .i64 r_11.2]) rfl) ?_)
  refine JL_op rfl (op_read rfl rfl (r_extract (v := peOpt v_2 (o_Gmem_Block).size r_11.1) rfl rfl) ?_)
  refine JL_op rfl (op_read rfl rfl (r_extract (v := .int .i64 r_11.2) rfl rfl) ?_)
  refine JL_op rfl (op_read rfl rfl (r_assign (v := peOpt v_2 (o_Gmem_Block).size r_11.1) rfl) ?_)
  refine JL_op rfl (op_read rfl rfl (r_assign (v := .int .i64 r_11.2) rfl) ?_)
  refine JL_nil ?_
  refine J_then ?_
  refine J_seq ?_
  refine J_cut (fun (y : W2 ((Sl Gmem_Block)) Int) e L τ PV => match y, e with | .a y, e => e = .normal ∧ (σ = τ ∧ L = [] ∧ PV = [.cell a_1 [v_2, .int .i64 used_4], .row o_Gmem_Block 45 v_2 y]) | .b y, e => e = .ret ∧ (σ = τ ∧ L = [(6, .int .i64 y)] ∧ PV = [.cell a_1 [v_2, .int .i64 used_4], .row o_Gmem_Block 45 v_2 x_3])) ?_ ?_
  · refine J_block ?_
    refine J_seq ?_
    refine J_region ?_
    refine JL_op rfl (op_read rfl rfl (r_move (v := .int .i64 r_11.2) rfl) ?_)
    refine JL_op rfl (op_read rfl rfl (r_neq rfl rfl) ?_)
    refine JL_op rfl (op_read rfl rfl (r_assign (v := .bool (decide (r_11.2 ≠ 0))) rfl) ?_)
    refine JL_nil ?_
    refine J_then ?_
    refine J_cut (fun (y : W2 ((Sl Gmem_Block)) Int) e L τ PV => match y, e with | .a y, e => e = .normal ∧ (σ = τ ∧ L = [] ∧ PV = [.cell a_1 [v_2, .int .i64 used_4], .row o_Gmem_Block 45 v_2 y]) | .b y, e => e = .ret ∧ (σ = τ ∧ L = [(6, .int .i64 y)] ∧ PV = [.cell a_1 [v_2, .int .i64 used_4], .row o_Gmem_Block 45 v_2 x_3])) ?_ ?_
    · refine J_cond rfl (fun hc_18 => ?_) (fun hc_18 => ?_)
      · refine J_seq ?_
        refine J_region ?_
        refine JL_op rfl (op_read rfl rfl (r_move (v := .int .i64 r_11.2) rfl) ?_)
        refine JL_op rfl (op_read rfl rfl (r_assign (v := .int .i64 r_11.2) rfl) ?_)
        refine JL_nil ?_
        refine J_then ?_
        refine J_ret ?_
        refine J_select (PV' := [.cell a_1 [v_2, .int .i64 used_4], .row o_Gmem_Block 45 v_2 x_3]) [1, 0] (by decide) rfl ?_
        refine J_cut_end _ ?_ ⟨rfl, rfl, rfl, rfl⟩ trivial
        exact ⟨rfl, trivial⟩
      · refine J_seq ?_
        refine J_region_any 23 [.row o_Gmem_Block 45 v_2 x_3, .cell a_1 [v_2, .int .i64 used_4], .cell c_9 [.int .i64 p_6.Kind, .int .i64 p_6.N, .int .i64 p_6.Block]] Try.mixed (by kernel_rfl) fun hns => ?_
        have hS_19 : HeldOK σ [.row o_Gmem_Block 45 v_2 x_3, .cell a_1 [v_2, .int .i64 used_4], .cell c_9 [.int .i64 p_6.Kind, .int .i64 p_6.N, .int .i64 p_6.Block]] σ [.row o_Gmem_Block 45 v_2 x_3, .cell a_1 [v_2, .int .i64 used_4], .cell c_9 [.int .i64 p_6.Kind, .int .i64 p_6.N, .int .i64 p_6.Block]] := HeldOK.same [0, 1, 2] (by decide) rfl
        refine JA_takep 0 rfl hns (by kernel_rfl) (by kernel_rfl) rfl (.inr hS_19) rfl rfl rfl (r_move (v := peOpt v_2 (o_Gmem_Block).size r_11.1) rfl) ?_
        refine J_bind fun i_20 hi_21 => ?_
        refine JA_takep 1 rfl hns (by kernel_rfl) (by kernel_rfl) rfl (.inr hS_19) rfl rfl rfl (r_nilCheck_opt (i := i_20) rfl hi_21) ?_
        refine JA_takep 2 rfl hns (by kernel_rfl) (by kernel_rfl) rfl (.inr hS_19) rfl rfl rfl (r_fieldAddr (r := elemAddr v_2 ((i_20).toNat * (o_Gmem_Block).size + 3)) Try.pu45 (f := Try.pf45.getD 3 default) rfl Try.pi23 (by decide) rfl (elemAddr_add _ _ _)) ?_
        refine JA_takep 4 rfl hns (by kernel_rfl) (by kernel_rfl) rfl (.inr hS_19) rfl rfl rfl (r_fieldAddr (r := Addr.add c_9 1) Try.pu29 (f := Try.pf29.getD 1 default) rfl Try.pi2 (by decide) rfl (Addr.add_add _ _ _)) ?_
        refine JA_take 5 rfl hns (by kernel_rfl) (by kernel_rfl) (by kernel_rfl) rfl (by kernel_rfl) hS_19 rfl rfl rfl (r_load_priv (a := c_9) (off := 1) (cs' := [.int .i64 p_6.N]) (v := .int .i64 p_6.N) 2 Try.pu2 Try.pi2 rfl rfl rfl rfl (by decide) rfl) ?_
        refine J_bind fun x_22 hx_23 => ?_
        refine J_take (T := o_Gmem_Block) (i := i_20) hx_23 fun u_25 hu_24 => ?_
        obtain ⟨_, v_27, v_29, v_31⟩ := u_25
        change J _ _ _ _ _ _ _ _ [.hole (fun x => .elem o_Gmem_Block (elemAddr v_2 ((i_20).toNat * (o_Gmem_Block).size)) x) (fun x => .row o_Gmem_Block 45 v_2 (Sl.set x_3 i_20 x)), .cell (elemAddr v_2 ((i_20).toNat * (o_Gmem_Block).size)) [.bool x_22.Live, v_27, v_29, v_31], .row (t_Gmem_Value).o 29 v_27 x_22.Cells, .row ((tInt .i64)).o 3 v_29 x_22.Readers, .row (tBool).o 4 v_31 x_22.Writer, .cell a_1 [v_2, .int .i64 used_4], .cell c_9 [.int .i64 p_6.Kind, .int .i64 p_6.N, .int .i64 p_6.Block]]
        have hS_33 : HeldOK σ [.row o_Gmem_Block 45 v_2 x_3, .cell a_1 [v_2, .int .i64 used_4], .cell c_9 [.int .i64 p_6.Kind, .int .i64 p_6.N, .int .i64 p_6.Block]] σ [.hole (fun x => .elem o_Gmem_Block (elemAddr v_2 ((i_20).toNat * (o_Gmem_Block).size)) x) (fun x => .row o_Gmem_Block 45 v_2 (Sl.set x_3 i_20 x)), .cell (elemAddr v_2 ((i_20).toNat * (o_Gmem_Block).size)) [.bool x_22.Live, v_27, v_29, v_31], .row (t_Gmem_Value).o 29 v_27 x_22.Cells, .row ((tInt .i64)).o 3 v_29 x_22.Readers, .row (tBool).o 4 v_31 x_22.Writer, .cell a_1 [v_2, .int .i64 used_4], .cell c_9 [.int .i64 p_6.Kind, .int .i64 p_6.N, .int .i64 p_6.Block]] := HeldOK.view (PV := [.row o_Gmem_Block 45 v_2 x_3, .cell a_1 [v_2, .int .i64 used_4], .cell c_9 [.int .i64 p_6.Kind, .int .i64 p_6.N, .int .i64 p_6.Block]]) (HeldOK.same [0, 1, 2] (by decide) rfl) (fun _ k => (take_back (T := o_Gmem_Block) (i := i_20) (s := x_3) (e := 45) (v := v_2) (q := x_22) (C := [.cell a_1 [v_2, .int .i64 used_4], .cell c_9 [.int .i64 p_6.Kind, .int .i64 p_6.N, .int .i64 p_6.Block]]) ((), v_27, v_29, v_31) ⟨trivial, trivial, trivial, trivial⟩ hx_23 (Sep.select (PV' := [.hole (fun x => .elem o_Gmem_Block (elemAddr v_2 ((i_20).toNat * (o_Gmem_Block).size)) x) (fun x => .row o_Gmem_Block 45 v_2 (Sl.set x_3 i_20 x)), .cell (elemAddr v_2 ((i_20).toNat * (o_Gmem_Block).size)) [.bool x_22.Live, v_27, v_29, v_31], .row (t_Gmem_Value).o 29 v_27 x_22.Cells, .row ((tInt .i64)).o 3 v_29 x_22.Readers, .row (tBool).o 4 v_31 x_22.Writer, .cell a_1 [v_2, .int .i64 used_4], .cell c_9 [.int .i64 p_6.Kind, .int .i64 p_6.N, .int .i64 p_6.Block]]) k [0, 1, 2, 3, 4, 5, 6] (by decide) rfl)))
        refine JA_op (i := 3) (by kernel_rfl) rfl rfl (op_read rfl rfl (r_load_priv (a := (elemAddr v_2 ((i_20).toNat * (o_Gmem_Block).size))) (off := 3) (cs' := [v_31]) (v := v_31) 1 Try.pu23 Try.pi23 (pe_add v_2 ((i_20).toNat * (o_Gmem_Block).size) 3) rfl rfl rfl (by decide) rfl) ?_)
        have hS_34 : HeldOK σ [.row o_Gmem_Block 45 v_2 x_3, .cell a_1 [v_2, .int .i64 used_4], .cell c_9 [.int .i64 p_6.Kind, .int .i64 p_6.N, .int .i64 p_6.Block]] σ [.hole (fun x => .elem o_Gmem_Block (elemAddr v_2 ((i_20).toNat * (o_Gmem_Block).size)) x) (fun x => .row o_Gmem_Block 45 v_2 (Sl.set x_3 i_20 x)), .cell (elemAddr v_2 ((i_20).toNat * (o_Gmem_Block).size)) [.bool x_22.Live, v_27, v_29, v_31], .row (t_Gmem_Value).o 29 v_27 x_22.Cells, .row ((tInt .i64)).o 3 v_29 x_22.Readers, .row (tBool).o 4 v_31 x_22.Writer, .cell a_1 [v_2, .int .i64 used_4], .cell c_9 [.int .i64 p_6.Kind, .int .i64 p_6.N, .int .i64 p_6.Block]] := HeldOK.view (PV := [.row o_Gmem_Block 45 v_2 x_3, .cell a_1 [v_2, .int .i64 used_4], .cell c_9 [.int .i64 p_6.Kind, .int .i64 p_6.N, .int .i64 p_6.Block]]) (HeldOK.same [0, 1, 2] (by decide) rfl) (fun _ k => (take_back (T := o_Gmem_Block) (i := i_20) (s := x_3) (e := 45) (v := v_2) (q := x_22) (C := [.cell a_1 [v_2, .int .i64 used_4], .cell c_9 [.int .i64 p_6.Kind, .int .i64 p_6.N, .int .i64 p_6.Block]]) ((), v_27, v_29, v_31) ⟨trivial, trivial, trivial, trivial⟩ hx_23 (Sep.select (PV' := [.hole (fun x => .elem o_Gmem_Block (elemAddr v_2 ((i_20).toNat * (o_Gmem_Block).size)) x) (fun x => .row o_Gmem_Block 45 v_2 (Sl.set x_3 i_20 x)), .cell (elemAddr v_2 ((i_20).toNat * (o_Gmem_Block).size)) [.bool x_22.Live, v_27, v_29, v_31], .row (t_Gmem_Value).o 29 v_27 x_22.Cells, .row ((tInt .i64)).o 3 v_29 x_22.Readers, .row (tBool).o 4 v_31 x_22.Writer, .cell a_1 [v_2, .int .i64 used_4], .cell c_9 [.int .i64 p_6.Kind, .int .i64 p_6.N, .int .i64 p_6.Block]]) k [0, 1, 2, 3, 4, 5, 6] (by decide) rfl)))
        refine ⟨.inr hS_34, ?_⟩
        refine J_bind fun x_35 hx_36 => ?_
        refine JA_op (i := 6) (by kernel_rfl) rfl rfl (op_read rfl rfl (r_index_row (v := v_31) (T := (tBool).o) (q := x_35) 4 Try.pu23 Try.pi4 rfl rfl rfl rfl hx_36) ?_)
        have hS_37 : HeldOK σ [.row o_Gmem_Block 45 v_2 x_3, .cell a_1 [v_2, .int .i64 used_4], .cell c_9 [.int .i64 p_6.Kind, .int .i64 p_6.N, .int .i64 p_6.Block]] σ [.hole (fun x => .elem o_Gmem_Block (elemAddr v_2 ((i_20).toNat * (o_Gmem_Block).size)) x) (fun x => .row o_Gmem_Block 45 v_2 (Sl.set x_3 i_20 x)), .cell (elemAddr v_2 ((i_20).toNat * (o_Gmem_Block).size)) [.bool x_22.Live, v_27, v_29, v_31], .row (t_Gmem_Value).o 29 v_27 x_22.Cells, .row ((tInt .i64)).o 3 v_29 x_22.Readers, .row (tBool).o 4 v_31 x_22.Writer, .cell a_1 [v_2, .int .i64 used_4], .cell c_9 [.int .i64 p_6.Kind, .int .i64 p_6.N, .int .i64 p_6.Block]] := HeldOK.view (PV := [.row o_Gmem_Block 45 v_2 x_3, .cell a_1 [v_2, .int .i64 used_4], .cell c_9 [.int .i64 p_6.Kind, .int .i64 p_6.N, .int .i64 p_6.Block]]) (HeldOK.same [0, 1, 2] (by decide) rfl) (fun _ k => (take_back (T := o_Gmem_Block) (i := i_20) (s := x_3) (e := 45) (v := v_2) (q := x_22) (C := [.cell a_1 [v_2, .int .i64 used_4], .cell c_9 [.int .i64 p_6.Kind, .int .i64 p_6.N, .int .i64 p_6.Block]]) ((), v_27, v_29, v_31) ⟨trivial, trivial, trivial, trivial⟩ hx_23 (Sep.select (PV' := [.hole (fun x => .elem o_Gmem_Block (elemAddr v_2 ((i_20).toNat * (o_Gmem_Block).size)) x) (fun x => .row o_Gmem_Block 45 v_2 (Sl.set x_3 i_20 x)), .cell (elemAddr v_2 ((i_20).toNat * (o_Gmem_Block).size)) [.bool x_22.Live, v_27, v_29, v_31], .row (t_Gmem_Value).o 29 v_27 x_22.Cells, .row ((tInt .i64)).o 3 v_29 x_22.Readers, .row (tBool).o 4 v_31 x_22.Writer, .cell a_1 [v_2, .int .i64 used_4], .cell c_9 [.int .i64 p_6.Kind, .int .i64 p_6.N, .int .i64 p_6.Block]]) k [0, 1, 2, 3, 4, 5, 6] (by decide) rfl)))
        refine ⟨.inr hS_37, ?_⟩
        refine JA_op (i := 7) (by kernel_rfl) rfl rfl (op_reads rfl rfl (l_elem_orow (v := v_31) (T := (tBool).o) (Tf := tBool) (q := x_35) (i := p_6.N) (off := 0) 4 Try.pu4 Try.pi4 rfl rfl rfl rfl hx_36 (OFieldAt.self (T := (tBool).o)) (by decide)) ?_)
        intro v_38 h_39
        obtain rfl := tBool_v.1 h_39
        have hS_40 : HeldOK σ [.row o_Gmem_Block 45 v_2 x_3, .cell a_1 [v_2, .int .i64 used_4], .cell c_9 [.int .i64 p_6.Kind, .int .i64 p_6.N, .int .i64 p_6.Block]] σ [.hole (fun x => .elem o_Gmem_Block (elemAddr v_2 ((i_20).toNat * (o_Gmem_Block).size)) x) (fun x => .row o_Gmem_Block 45 v_2 (Sl.set x_3 i_20 x)), .cell (elemAddr v_2 ((i_20).toNat * (o_Gmem_Block).size)) [.bool x_22.Live, v_27, v_29, v_31], .row (t_Gmem_Value).o 29 v_27 x_22.Cells, .row ((tInt .i64)).o 3 v_29 x_22.Readers, .row (tBool).o 4 v_31 x_22.Writer, .cell a_1 [v_2, .int .i64 used_4], .cell c_9 [.int .i64 p_6.Kind, .int .i64 p_6.N, .int .i64 p_6.Block]] := HeldOK.view (PV := [.row o_Gmem_Block 45 v_2 x_3, .cell a_1 [v_2, .int .i64 used_4], .cell c_9 [.int .i64 p_6.Kind, .int .i64 p_6.N, .int .i64 p_6.Block]]) (HeldOK.same [0, 1, 2] (by decide) rfl) (fun _ k => (take_back (T := o_Gmem_Block) (i := i_20) (s := x_3) (e := 45) (v := v_2) (q := x_22) (C := [.cell a_1 [v_2, .int .i64 used_4], .cell c_9 [.int .i64 p_6.Kind, .int .i64 p_6.N, .int .i64 p_6.Block]]) ((), v_27, v_29, v_31) ⟨trivial, trivial, trivial, trivial⟩ hx_23 (Sep.select (PV' := [.hole (fun x => .elem o_Gmem_Block (elemAddr v_2 ((i_20).toNat * (o_Gmem_Block).size)) x) (fun x => .row o_Gmem_Block 45 v_2 (Sl.set x_3 i_20 x)), .cell (elemAddr v_2 ((i_20).toNat * (o_Gmem_Block).size)) [.bool x_22.Live, v_27, v_29, v_31], .row (t_Gmem_Value).o 29 v_27 x_22.Cells, .row ((tInt .i64)).o 3 v_29 x_22.Readers, .row (tBool).o 4 v_31 x_22.Writer, .cell a_1 [v_2, .int .i64 used_4], .cell c_9 [.int .i64 p_6.Kind, .int .i64 p_6.N, .int .i64 p_6.Block]]) k [0, 1, 2, 3, 4, 5, 6] (by decide) rfl)))
        refine ⟨.inr hS_40, ?_⟩
        refine JA_takep 8 rfl hns (by kernel_rfl) (by kernel_rfl) rfl (.inr hS_40) rfl rfl rfl (r_move (v := .bool x_35) rfl) ?_
        refine J_forkAB (e := x_35) 1 #[true, true, true, true, true, true, true, true, true, true, true, true, true, true, true, true, true, true, true, true, true, true, false] (fun (y : Bool) L τ PV => σ = τ ∧ L = [(2, .bool write_8), (4, .pointer (some (Addr.add c_9 0))), (7, peOpt v_2 (o_Gmem_Block).size r_11.1), (51, .bool y)] ∧ PV = [.cell c_9 [.int .i64 p_6.Kind, .int .i64 p_6.N, .int .i64 p_6.Block], .row o_Gmem_Block 45 v_2 x_3, .cell a_1 [v_2, .int .i64 used_4]]) (fun hc_41 hk => ?_) (fun hc_41 hk => ?_) ?_
        · refine JA_skip (y := some x_35) 9 rfl hns (by kernel_rfl) (by kernel_rfl) rfl (.inr hS_40) rfl rfl (by rw [hc_41]; decide) rfl rfl ?_
          refine JA_skip (y := some x_35) 10 rfl hns (by kernel_rfl) (by kernel_rfl) rfl (.inr hS_40) rfl rfl (by rw [hc_41]; decide) rfl rfl ?_
          refine JA_skip (y := none) 11 rfl hns (by kernel_rfl) (by kernel_rfl) rfl (.inr hS_40) rfl rfl (by decide) rfl rfl ?_
          refine JA_skip (y := none) 12 rfl hns (by kernel_rfl) (by kernel_rfl) rfl (.inr hS_40) rfl rfl (by decide) rfl rfl ?_
          refine JA_skip (y := none) 13 rfl hns (by kernel_rfl) (by kernel_rfl) rfl (.inr hS_40) rfl rfl (by decide) rfl rfl ?_
          refine JA_skip (y := none) 14 rfl hns (by kernel_rfl) (by kernel_rfl) rfl (.inr hS_40) rfl rfl (by decide) rfl rfl ?_
          refine JA_skip (y := none) 15 rfl hns (by kernel_rfl) (by kernel_rfl) rfl (.inr hS_40) rfl rfl (by decide) rfl rfl ?_
          refine JA_skip (y := none) 16 rfl hns (by kernel_rfl) (by kernel_rfl) rfl (.inr hS_40) rfl rfl (by decide) rfl rfl ?_
          refine JA_skip (y := none) 17 rfl hns (by kernel_rfl) (by kernel_rfl) rfl (.inr hS_40) rfl rfl (by decide) rfl rfl ?_
          refine JA_skip (y := none) 18 rfl hns (by kernel_rfl) (by kernel_rfl) rfl (.inr hS_40) rfl rfl (by decide) rfl rfl ?_
          refine JA_skip (y := none) 19 rfl hns (by kernel_rfl) (by kernel_rfl) rfl (.inr hS_40) rfl rfl (by decide) rfl rfl ?_
          refine JA_skip (y := some x_35) 20 rfl hns (by kernel_rfl) (by kernel_rfl) rfl (.inr hS_40) rfl rfl (by rw [hc_41]; decide) rfl rfl ?_
          refine JA_takep 21 rfl hns (by kernel_rfl) (by kernel_rfl) rfl (.inr hS_40) rfl rfl rfl (r_pick_t (v := .bool true) rfl hc_41 rfl) ?_
          refine J_put (T := o_Gmem_Block) (i := i_20) (s := x_3) (s' := x_3) (A := [.row (t_Gmem_Value).o 29 v_27 x_22.Cells, .row ((tInt .i64)).o 3 v_29 x_22.Readers, .row (tBool).o 4 v_31 x_22.Writer]) (C := [.cell a_1 [v_2, .int .i64 used_4], .cell c_9 [.int .i64 p_6.Kind, .int .i64 p_6.N, .int .i64 p_6.Block]]) x_22 ((), v_27, v_29, v_31) ⟨trivial, trivial, trivial, trivial⟩ rfl rfl (Sl.set_same hx_23) ?_
          refine J_select (PV' := [.cell c_9 [.int .i64 p_6.Kind, .int .i64 p_6.N, .int .i64 p_6.Block], .row o_Gmem_Block 45 v_2 x_3, .cell a_1 [v_2, .int .i64 used_4]]) [2, 0, 1] (by decide) rfl ?_
          refine J_prune _ ?_ fun b => hk true _ b _ _ ⟨rfl, rfl, rfl⟩
          exact ⟨rfl, rfl, rfl, rfl, trivial⟩
        · refine JA_takepg 9 rfl hns (by kernel_rfl) (by kernel_rfl) rfl (.inr hS_40) rfl rfl hc_41 rfl rfl (r_move (v := .bool write_8) rfl) ?_
          refine JA_takepg 10 rfl hns (by kernel_rfl) (by kernel_rfl) rfl (.inr hS_40) rfl rfl hc_41 rfl rfl (r_move (v := .bool write_8) rfl) ?_
          refine J_assoc ?_
          refine J_forkAB (e := write_8) 2 #[true, true, true, true, true, true, true, true, true, true, true, true, true, true, true, true, true, true, true, true, true, false, false] (fun (y : Bool) L τ PV => σ = τ ∧ L = [(2, .bool write_8), (4, .pointer (some (Addr.add c_9 0))), (7, peOpt v_2 (o_Gmem_Block).size r_11.1), (30, peOpt v_2 (o_Gmem_Block).size r_11.1), (31, .pointer (some (elemAddr v_2 ((i_20).toNat * (o_Gmem_Block).size + 0)))), (32, .pointer (some (elemAddr v_2 ((i_20).toNat * (o_Gmem_Block).size + 3)))), (33, v_31), (34, .pointer (some (Addr.add c_9 1))), (35, .int .i64 p_6.N), (36, .pointer (some (elemAddr v_31 ((p_6.N).toNat * ((tBool).o).size + 0)))), (37, .bool x_35), (38, .bool x_35), (39, .bool write_8), (40, .bool write_8), (50, .bool y)] ∧ PV = [.cell c_9 [.int .i64 p_6.Kind, .int .i64 p_6.N, .int .i64 p_6.Block], .row (tBool).o 4 v_31 x_22.Writer, .cell a_1 [v_2, .int .i64 used_4], .hole (fun x => .elem o_Gmem_Block (elemAddr v_2 ((i_20).toNat * (o_Gmem_Block).size)) x) (fun x => .row o_Gmem_Block 45 v_2 (Sl.set x_3 i_20 x)), .cell (elemAddr v_2 ((i_20).toNat * (o_Gmem_Block).size)) [.bool x_22.Live, v_27, v_29, v_31], .row (t_Gmem_Value).o 29 v_27 x_22.Cells, .row ((tInt .i64)).o 3 v_29 x_22.Readers]) (fun hc_43 hk => ?_) (fun hc_43 hk => ?_) ?_
          · refine JA_takepg 11 rfl hns (by kernel_rfl) (by kernel_rfl) rfl (.inr hS_40) rfl rfl hc_43 rfl rfl (r_move (v := peOpt v_2 (o_Gmem_Block).size r_11.1) rfl) ?_
            refine JA_takepg 12 rfl hns (by kernel_rfl) (by kernel_rfl) rfl (.inr hS_40) rfl rfl hc_43 rfl rfl (r_nilCheck_opt (i := i_20) rfl hi_21) ?_
            refine JA_takepg 13 rfl hns (by kernel_rfl) (by kernel_rfl) rfl (.inr hS_40) rfl rfl hc_43 rfl rfl (r_fieldAddr (r := elemAddr v_2 ((i_20).toNat * (o_Gmem_Block).size + 2)) Try.pu45 (f := Try.pf45.getD 2 default) rfl Try.pi36 (by decide) rfl (elemAddr_add _ _ _)) ?_
            refine JA_takepg 15 rfl hns (by kernel_rfl) (by kernel_rfl) rfl (.inr hS_40) rfl rfl hc_43 rfl rfl (r_fieldAddr (r := Addr.add c_9 1) Try.pu29 (f := Try.pf29.getD 1 default) rfl Try.pi2 (by decide) rfl (Addr.add_add _ _ _)) ?_
            refine JA_takeg 16 rfl hns (by kernel_rfl) (by kernel_rfl) (by kernel_rfl) rfl (by kernel_rfl) hS_40 rfl rfl hc_43 rfl rfl (r_load_priv (a := c_9) (off := 1) (cs' := [.int .i64 p_6.N]) (v := .int .i64 p_6.N) 2 Try.pu2 Try.pi2 rfl rfl rfl rfl (by decide) rfl) ?_
            have hS_45 : HeldOK σ [.row o_Gmem_Block 45 v_2 x_3, .cell a_1 [v_2, .int .i64 used_4], .cell c_9 [.int .i64 p_6.Kind, .int .i64 p_6.N, .int .i64 p_6.Block]] σ [.hole (fun x => .elem o_Gmem_Block (elemAddr v_2 ((i_20).toNat * (o_Gmem_Block).size)) x) (fun x => .row o_Gmem_Block 45 v_2 (Sl.set x_3 i_20 x)), .cell (elemAddr v_2 ((i_20).toNat * (o_Gmem_Block).size)) [.bool x_22.Live, v_27, v_29, v_31], .row (t_Gmem_Value).o 29 v_27 x_22.Cells, .row ((tInt .i64)).o 3 v_29 x_22.Readers, .row (tBool).o 4 v_31 x_22.Writer, .cell a_1 [v_2, .int .i64 used_4], .cell c_9 [.int .i64 p_6.Kind, .int .i64 p_6.N, .int .i64 p_6.Block]] := HeldOK.view (PV := [.row o_Gmem_Block 45 v_2 x_3, .cell a_1 [v_2, .int .i64 used_4], .cell c_9 [.int .i64 p_6.Kind, .int .i64 p_6.N, .int .i64 p_6.Block]]) (HeldOK.same [0, 1, 2] (by decide) rfl) (fun _ k => (take_back (T := o_Gmem_Block) (i := i_20) (s := x_3) (e := 45) (v := v_2) (q := x_22) (C := [.cell a_1 [v_2, .int .i64 used_4], .cell c_9 [.int .i64 p_6.Kind, .int .i64 p_6.N, .int .i64 p_6.Block]]) ((), v_27, v_29, v_31) ⟨trivial, trivial, trivial, trivial⟩ hx_23 (Sep.select (PV' := [.hole (fun x => .elem o_Gmem_Block (elemAddr v_2 ((i_20).toNat * (o_Gmem_Block).size)) x) (fun x => .row o_Gmem_Block 45 v_2 (Sl.set x_3 i_20 x)), .cell (elemAddr v_2 ((i_20).toNat * (o_Gmem_Block).size)) [.bool x_22.Live, v_27, v_29, v_31], .row (t_Gmem_Value).o 29 v_27 x_22.Cells, .row ((tInt .i64)).o 3 v_29 x_22.Readers, .row (tBool).o 4 v_31 x_22.Writer, .cell a_1 [v_2, .int .i64 used_4], .cell c_9 [.int .i64 p_6.Kind, .int .i64 p_6.N, .int .i64 p_6.Block]]) k [0, 1, 2, 3, 4, 5, 6] (by decide) rfl)))
            refine JA_opg (i := 14) (by kernel_rfl) rfl rfl rfl hc_43 (op_read rfl rfl (r_load_priv (a := (elemAddr v_2 ((i_20).toNat * (o_Gmem_Block).size))) (off := 2) (cs' := [v_29]) (v := v_29) 1 Try.pu36 Try.pi36 (pe_add v_2 ((i_20).toNat * (o_Gmem_Block).size) 2) rfl rfl rfl (by decide) rfl) ?_)
            have hS_46 : HeldOK σ [.row o_Gmem_Block 45 v_2 x_3, .cell a_1 [v_2, .int .i64 used_4], .cell c_9 [.int .i64 p_6.Kind, .int .i64 p_6.N, .int .i64 p_6.Block]] σ [.hole (fun x => .elem o_Gmem_Block (elemAddr v_2 ((i_20).toNat * (o_Gmem_Block).size)) x) (fun x => .row o_Gmem_Block 45 v_2 (Sl.set x_3 i_20 x)), .cell (elemAddr v_2 ((i_20).toNat * (o_Gmem_Block).size)) [.bool x_22.Live, v_27, v_29, v_31], .row (t_Gmem_Value).o 29 v_27 x_22.Cells, .row ((tInt .i64)).o 3 v_29 x_22.Readers, .row (tBool).o 4 v_31 x_22.Writer, .cell a_1 [v_2, .int .i64 used_4], .cell c_9 [.int .i64 p_6.Kind, .int .i64 p_6.N, .int .i64 p_6.Block]] := HeldOK.view (PV := [.row o_Gmem_Block 45 v_2 x_3, .cell a_1 [v_2, .int .i64 used_4], .cell c_9 [.int .i64 p_6.Kind, .int .i64 p_6.N, .int .i64 p_6.Block]]) (HeldOK.same [0, 1, 2] (by decide) rfl) (fun _ k => (take_back (T := o_Gmem_Block) (i := i_20) (s := x_3) (e := 45) (v := v_2) (q := x_22) (C := [.cell a_1 [v_2, .int .i64 used_4], .cell c_9 [.int .i64 p_6.Kind, .int .i64 p_6.N, .int .i64 p_6.Block]]) ((), v_27, v_29, v_31) ⟨trivial, trivial, trivial, trivial⟩ hx_23 (Sep.select (PV' := [.hole (fun x => .elem o_Gmem_Block (elemAddr v_2 ((i_20).toNat * (o_Gmem_Block).size)) x) (fun x => .row o_Gmem_Block 45 v_2 (Sl.set x_3 i_20 x)), .cell (elemAddr v_2 ((i_20).toNat * (o_Gmem_Block).size)) [.bool x_22.Live, v_27, v_29, v_31], .row (t_Gmem_Value).o 29 v_27 x_22.Cells, .row ((tInt .i64)).o 3 v_29 x_22.Readers, .row (tBool).o 4 v_31 x_22.Writer, .cell a_1 [v_2, .int .i64 used_4], .cell c_9 [.int .i64 p_6.Kind, .int .i64 p_6.N, .int .i64 p_6.Block]]) k [0, 1, 2, 3, 4, 5, 6] (by decide) rfl)))
            refine ⟨.inr hS_46, ?_⟩
            refine J_assoc ?_
            refine J_bind fun x_47 hx_48 => ?_
            refine JA_opg (i := 17) (by kernel_rfl) rfl rfl rfl hc_43 (op_read rfl rfl (r_index_row (v := v_29) (T := ((tInt .i64)).o) (q := x_47) 3 Try.pu36 Try.pi3 rfl rfl rfl rfl hx_48) ?_)
            have hS_49 : HeldOK σ [.row o_Gmem_Block 45 v_2 x_3, .cell a_1 [v_2, .int .i64 used_4], .cell c_9 [.int .i64 p_6.Kind, .int .i64 p_6.N, .int .i64 p_6.Block]] σ [.hole (fun x => .elem o_Gmem_Block (elemAddr v_2 ((i_20).toNat * (o_Gmem_Block).size)) x) (fun x => .row o_Gmem_Block 45 v_2 (Sl.set x_3 i_20 x)), .cell (elemAddr v_2 ((i_20).toNat * (o_Gmem_Block).size)) [.bool x_22.Live, v_27, v_29, v_31], .row (t_Gmem_Value).o 29 v_27 x_22.Cells, .row ((tInt .i64)).o 3 v_29 x_22.Readers, .row (tBool).o 4 v_31 x_22.Writer, .cell a_1 [v_2, .int .i64 used_4], .cell c_9 [.int .i64 p_6.Kind, .int .i64 p_6.N, .int .i64 p_6.Block]] := HeldOK.view (PV := [.row o_Gmem_Block 45 v_2 x_3, .cell a_1 [v_2, .int .i64 used_4], .cell c_9 [.int .i64 p_6.Kind, .int .i64 p_6.N, .int .i64 p_6.Block]]) (HeldOK.same [0, 1, 2] (by decide) rfl) (fun _ k => (take_back (T := o_Gmem_Block) (i := i_20) (s := x_3) (e := 45) (v := v_2) (q := x_22) (C := [.cell a_1 [v_2, .int .i64 used_4], .cell c_9 [.int .i64 p_6.Kind, .int .i64 p_6.N, .int .i64 p_6.Block]]) ((), v_27, v_29, v_31) ⟨trivial, trivial, trivial, trivial⟩ hx_23 (Sep.select (PV' := [.hole (fun x => .elem o_Gmem_Block (elemAddr v_2 ((i_20).toNat * (o_Gmem_Block).size)) x) (fun x => .row o_Gmem_Block 45 v_2 (Sl.set x_3 i_20 x)), .cell (elemAddr v_2 ((i_20).toNat * (o_Gmem_Block).size)) [.bool x_22.Live, v_27, v_29, v_31], .row (t_Gmem_Value).o 29 v_27 x_22.Cells, .row ((tInt .i64)).o 3 v_29 x_22.Readers, .row (tBool).o 4 v_31 x_22.Writer, .cell a_1 [v_2, .int .i64 used_4], .cell c_9 [.int .i64 p_6.Kind, .int .i64 p_6.N, .int .i64 p_6.Block]]) k [0, 1, 2, 3, 4, 5, 6] (by decide) rfl)))
            refine ⟨.inr hS_49, ?_⟩
            refine JA_opg (i := 18) (by kernel_rfl) rfl rfl rfl hc_43 (op_reads rfl rfl (l_elem_orow (v := v_29) (T := ((tInt .i64)).o) (Tf := (tInt .i64)) (q := x_47) (i := p_6.N) (off := 0) 3 Try.pu3 Try.pi3 rfl rfl rfl rfl hx_48 (OFieldAt.self (T := ((tInt .i64)).o)) (by decide)) ?_)
            intro v_50 h_51
            obtain rfl := tInt_v.1 h_51
            have hS_52 : HeldOK σ [.row o_Gmem_Block 45 v_2 x_3, .cell a_1 [v_2, .int .i64 used_4], .cell c_9 [.int .i64 p_6.Kind, .int .i64 p_6.N, .int .i64 p_6.Block]] σ [.hole (fun x => .elem o_Gmem_Block (elemAddr v_2 ((i_20).toNat * (o_Gmem_Block).size)) x) (fun x => .row o_Gmem_Block 45 v_2 (Sl.set x_3 i_20 x)), .cell (elemAddr v_2 ((i_20).toNat * (o_Gmem_Block).size)) [.bool x_22.Live, v_27, v_29, v_31], .row (t_Gmem_Value).o 29 v_27 x_22.Cells, .row ((tInt .i64)).o 3 v_29 x_22.Readers, .row (tBool).o 4 v_31 x_22.Writer, .cell a_1 [v_2, .int .i64 used_4], .cell c_9 [.int .i64 p_6.Kind, .int .i64 p_6.N, .int .i64 p_6.Block]] := HeldOK.view (PV := [.row o_Gmem_Block 45 v_2 x_3, .cell a_1 [v_2, .int .i64 used_4], .cell c_9 [.int .i64 p_6.Kind, .int .i64 p_6.N, .int .i64 p_6.Block]]) (HeldOK.same [0, 1, 2] (by decide) rfl) (fun _ k => (take_back (T := o_Gmem_Block) (i := i_20) (s := x_3) (e := 45) (v := v_2) (q := x_22) (C := [.cell a_1 [v_2, .int .i64 used_4], .cell c_9 [.int .i64 p_6.Kind, .int .i64 p_6.N, .int .i64 p_6.Block]]) ((), v_27, v_29, v_31) ⟨trivial, trivial, trivial, trivial⟩ hx_23 (Sep.select (PV' := [.hole (fun x => .elem o_Gmem_Block (elemAddr v_2 ((i_20).toNat * (o_Gmem_Block).size)) x) (fun x => .row o_Gmem_Block 45 v_2 (Sl.set x_3 i_20 x)), .cell (elemAddr v_2 ((i_20).toNat * (o_Gmem_Block).size)) [.bool x_22.Live, v_27, v_29, v_31], .row (t_Gmem_Value).o 29 v_27 x_22.Cells, .row ((tInt .i64)).o 3 v_29 x_22.Readers, .row (tBool).o 4 v_31 x_22.Writer, .cell a_1 [v_2, .int .i64 used_4], .cell c_9 [.int .i64 p_6.Kind, .int .i64 p_6.N, .int .i64 p_6.Block]]) k [0, 1, 2, 3, 4, 5, 6] (by decide) rfl)))
            refine ⟨.inr hS_52, ?_⟩
            refine JA_takepg 19 rfl hns (by kernel_rfl) (by kernel_rfl) rfl (.inr hS_52) rfl rfl hc_43 rfl rfl (r_gtr rfl rfl) ?_
            refine JA_takepg 20 rfl hns (by kernel_rfl) (by kernel_rfl) rfl (.inr hS_52) rfl rfl hc_41 rfl rfl (r_pick_t (v := .bool (decide (0 < x_47))) rfl hc_43 rfl) ?_
            refine J_select (PV' := [.cell c_9 [.int .i64 p_6.Kind, .int .i64 p_6.N, .int .i64 p_6.Block], .row (tBool).o 4 v_31 x_22.Writer, .cell a_1 [v_2, .int .i64 used_4], .hole (fun x => .elem o_Gmem_Block (elemAddr v_2 ((i_20).toNat * (o_Gmem_Block).size)) x) (fun x => .row o_Gmem_Block 45 v_2 (Sl.set x_3 i_20 x)), .cell (elemAddr v_2 ((i_20).toNat * (o_Gmem_Block).size)) [.bool x_22.Live, v_27, v_29, v_31], .row (t_Gmem_Value).o 29 v_27 x_22.Cells, .row ((tInt .i64)).o 3 v_29 x_22.Readers]) [6, 4, 5, 0, 1, 2, 3] (by decide) rfl ?_
            refine J_prune _ ?_ fun b => hk (decide (0 < x_47)) _ b _ _ ⟨rfl, rfl, rfl⟩
            exact ⟨rfl, rfl, rfl, rfl, rfl, rfl, rfl, rfl, rfl, rfl, rfl, rfl, rfl, rfl, rfl, trivial⟩
          · refine JA_skip (y := some write_8) 11 rfl hns (by kernel_rfl) (by kernel_rfl) rfl (.inr hS_40) rfl rfl (by rw [hc_43]; decide) rfl rfl ?_
            refine JA_skip (y := some write_8) 12 rfl hns (by kernel_rfl) (by kernel_rfl) rfl (.inr hS_40) rfl rfl (by rw [hc_43]; decide) rfl rfl ?_
            refine JA_skip (y := some write_8) 13 rfl hns (by kernel_rfl) (by kernel_rfl) rfl (.inr hS_40) rfl rfl (by rw [hc_43]; decide) rfl rfl ?_
            refine JA_skip (y := some write_8) 14 rfl hns (by kernel_rfl) (by kernel_rfl) rfl (.inr hS_40) rfl rfl (by rw [hc_43]; decide) rfl rfl ?_
            refine JA_skip (y := some write_8) 15 rfl hns (by kernel_rfl) (by kernel_rfl) rfl (.inr hS_40) rfl rfl (by rw [hc_43]; decide) rfl rfl ?_
            refine JA_skip (y := some write_8) 16 rfl hns (by kernel_rfl) (by kernel_rfl) rfl (.inr hS_40) rfl rfl (by rw [hc_43]; decide) rfl rfl ?_
            refine JA_skip (y := some write_8) 17 rfl hns (by kernel_rfl) (by kernel_rfl) rfl (.inr hS_40) rfl rfl (by rw [hc_43]; decide) rfl rfl ?_
            refine JA_skip (y := some write_8) 18 rfl hns (by kernel_rfl) (by kernel_rfl) rfl (.inr hS_40) rfl rfl (by rw [hc_43]; decide) rfl rfl ?_
            refine JA_skip (y := some write_8) 19 rfl hns (by kernel_rfl) (by kernel_rfl) rfl (.inr hS_40) rfl rfl (by rw [hc_43]; decide) rfl rfl ?_
            refine JA_takepg 20 rfl hns (by kernel_rfl) (by kernel_rfl) rfl (.inr hS_40) rfl rfl hc_41 rfl rfl (r_pick_f (v := .bool false) rfl hc_43 rfl) ?_
            refine J_select (PV' := [.cell c_9 [.int .i64 p_6.Kind, .int .i64 p_6.N, .int .i64 p_6.Block], .row (tBool).o 4 v_31 x_22.Writer, .cell a_1 [v_2, .int .i64 used_4], .hole (fun x => .elem o_Gmem_Block (elemAddr v_2 ((i_20).toNat * (o_Gmem_Block).size)) x) (fun x => .row o_Gmem_Block 45 v_2 (Sl.set x_3 i_20 x)), .cell (elemAddr v_2 ((i_20).toNat * (o_Gmem_Block).size)) [.bool x_22.Live, v_27, v_29, v_31], .row (t_Gmem_Value).o 29 v_27 x_22.Cells, .row ((tInt .i64)).o 3 v_29 x_22.Readers]) [6, 4, 5, 0, 1, 2, 3] (by decide) rfl ?_
            refine J_prune _ ?_ fun b => hk false _ b _ _ ⟨rfl, rfl, rfl⟩
            exact ⟨rfl, rfl, rfl, rfl, rfl, rfl, rfl, rfl, rfl, rfl, rfl, rfl, rfl, rfl, rfl, trivial⟩
          · rintro y_44 _ b s_55 _ ⟨rfl, rfl, rfl⟩
            have hS_56 : HeldOK σ [.row o_Gmem_Block 45 v_2 x_3, .cell a_1 [v_2, .int .i64 used_4], .cell c_9 [.int .i64 p_6.Kind, .int .i64 p_6.N, .int .i64 p_6.Block]] σ [.cell c_9 [.int .i64 p_6.Kind, .int .i64 p_6.N, .int .i64 p_6.Block], .row (tBool).o 4 v_31 x_22.Writer, .cell a_1 [v_2, .int .i64 used_4], .hole (fun x => .elem o_Gmem_Block (elemAddr v_2 ((i_20).toNat * (o_Gmem_Block).size)) x) (fun x => .row o_Gmem_Block 45 v_2 (Sl.set x_3 i_20 x)), .cell (elemAddr v_2 ((i_20).toNat * (o_Gmem_Block).size)) [.bool x_22.Live, v_27, v_29, v_31], .row (t_Gmem_Value).o 29 v_27 x_22.Cells, .row ((tInt .i64)).o 3 v_29 x_22.Readers] := HeldOK.view (PV := [.row o_Gmem_Block 45 v_2 x_3, .cell c_9 [.int .i64 p_6.Kind, .int .i64 p_6.N, .int .i64 p_6.Block], .cell a_1 [v_2, .int .i64 used_4]]) (HeldOK.same [0, 2, 1] (by decide) rfl) (fun _ k => (take_back (T := o_Gmem_Block) (i := i_20) (s := x_3) (e := 45) (v := v_2) (q := x_22) (C := [.cell c_9 [.int .i64 p_6.Kind, .int .i64 p_6.N, .int .i64 p_6.Block], .cell a_1 [v_2, .int .i64 used_4]]) ((), v_27, v_29, v_31) ⟨trivial, trivial, trivial, trivial⟩ hx_23 (Sep.select (PV' := [.hole (fun x => .elem o_Gmem_Block (elemAddr v_2 ((i_20).toNat * (o_Gmem_Block).size)) x) (fun x => .row o_Gmem_Block 45 v_2 (Sl.set x_3 i_20 x)), .cell (elemAddr v_2 ((i_20).toNat * (o_Gmem_Block).size)) [.bool x_22.Live, v_27, v_29, v_31], .row (t_Gmem_Value).o 29 v_27 x_22.Cells, .row ((tInt .i64)).o 3 v_29 x_22.Readers, .row (tBool).o 4 v_31 x_22.Writer, .cell c_9 [.int .i64 p_6.Kind, .int .i64 p_6.N, .int .i64 p_6.Block], .cell a_1 [v_2, .int .i64 used_4]]) k [3, 4, 5, 6, 1, 0, 2] (by decide) rfl)))
            refine JA_takep 21 rfl hns (by kernel_rfl) (by kernel_rfl) rfl (.inr hS_56) rfl rfl rfl (r_pick_f (v := .bool y_44) rfl hc_41 rfl) ?_
            refine J_select (PV' := [.hole (fun x => .elem o_Gmem_Block (elemAddr v_2 ((i_20).toNat * (o_Gmem_Block).size)) x) (fun x => .row o_Gmem_Block 45 v_2 (Sl.set x_3 i_20 x)), .cell (elemAddr v_2 ((i_20).toNat * (o_Gmem_Block).size)) [.bool x_22.Live, v_27, v_29, v_31], .row (t_Gmem_Value).o 29 v_27 x_22.Cells, .row ((tInt .i64)).o 3 v_29 x_22.Readers, .row (tBool).o 4 v_31 x_22.Writer, .cell c_9 [.int .i64 p_6.Kind, .int .i64 p_6.N, .int .i64 p_6.Block], .cell a_1 [v_2, .int .i64 used_4]]) [3, 4, 5, 6, 1, 0, 2] (by decide) rfl ?_
            refine J_put (T := o_Gmem_Block) (i := i_20) (s := x_3) (s' := x_3) (A := [.row (t_Gmem_Value).o 29 v_27 x_22.Cells, .row ((tInt .i64)).o 3 v_29 x_22.Readers, .row (tBool).o 4 v_31 x_22.Writer]) (C := [.cell c_9 [.int .i64 p_6.Kind, .int .i64 p_6.N, .int .i64 p_6.Block], .cell a_1 [v_2, .int .i64 used_4]]) x_22 ((), v_27, v_29, v_31) ⟨trivial, trivial, trivial, trivial⟩ rfl rfl (Sl.set_same hx_23) ?_
            refine J_select (PV' := [.cell c_9 [.int .i64 p_6.Kind, .int .i64 p_6.N, .int .i64 p_6.Block], .row o_Gmem_Block 45 v_2 x_3, .cell a_1 [v_2, .int .i64 used_4]]) [1, 0, 2] (by decide) rfl ?_
            refine J_prune _ ?_ fun b => hk y_44 _ b _ _ ⟨rfl, rfl, rfl⟩
            exact ⟨rfl, rfl, rfl, rfl, trivial⟩
        · rintro y_42 _ b s_59 _ ⟨rfl, rfl, rfl⟩
          have hS_60 : HeldOK σ [.row o_Gmem_Block 45 v_2 x_3, .cell a_1 [v_2, .int .i64 used_4], .cell c_9 [.int .i64 p_6.Kind, .int .i64 p_6.N, .int .i64 p_6.Block]] σ [.cell c_9 [.int .i64 p_6.Kind, .int .i64 p_6.N, .int .i64 p_6.Block], .row o_Gmem_Block 45 v_2 x_3, .cell a_1 [v_2, .int .i64 used_4]] := HeldOK.same [1, 2, 0] (by decide) rfl
          refine JA_takep 22 rfl hns (by kernel_rfl) (by kernel_rfl) rfl (.inr hS_60) rfl rfl rfl (r_assign (v := .bool y_42) rfl) ?_
          refine JA_done (by kernel_rfl) ?_
          refine J_then ?_
          refine J_cut (fun (y : W2 ((Sl Gmem_Block)) Unit) e L τ PV => match y, e with | .a y, e => e = .normal ∧ (σ = τ ∧ L = [] ∧ PV = [.cell a_1 [v_2, .int .i64 used_4], .row o_Gmem_Block 45 v_2 y]) | .b y, e => e = .ret ∧ (σ = τ ∧ L = [(6, .int .i64 6)] ∧ PV = [.cell a_1 [v_2, .int .i64 used_4], .row o_Gmem_Block 45 v_2 x_3])) ?_ ?_
          · refine J_cond rfl (fun hc_61 => ?_) (fun hc_61 => ?_)
            · refine J_seq ?_
              refine J_region ?_
              refine JL_op rfl (op_read rfl rfl (r_assign (v := .int .i64 6) rfl) ?_)
              refine JL_nil ?_
              refine J_then ?_
              refine J_ret ?_
              refine J_select (PV' := [.cell a_1 [v_2, .int .i64 used_4], .row o_Gmem_Block 45 v_2 x_3]) [2, 1] (by decide) rfl ?_
              refine J_cut_end _ ?_ ⟨rfl, rfl, rfl, rfl⟩ trivial
              exact ⟨rfl, trivial⟩
            · refine J_seq ?_
              refine J_region ?_
              refine JL_op rfl (op_read rfl rfl (r_move (v := .bool write_8) rfl) ?_)
              refine JL_op rfl (op_read rfl rfl (r_assign (v := .bool write_8) rfl) ?_)
              refine JL_nil ?_
              refine J_then ?_
              refine J_cut (fun (y : (Sl Gmem_Block)) e L τ PV => e = .normal ∧ (σ = τ ∧ L = [] ∧ PV = [.cell a_1 [v_2, .int .i64 used_4], .row o_Gmem_Block 45 v_2 y])) ?_ ?_
              · refine J_cond rfl (fun hc_62 => ?_) (fun hc_62 => ?_)
                · refine J_region_any 7 [.cell c_9 [.int .i64 p_6.Kind, .int .i64 p_6.N, .int .i64 p_6.Block], .row o_Gmem_Block 45 v_2 x_3, .cell a_1 [v_2, .int .i64 used_4]] Try.mixed (by kernel_rfl) fun hns => ?_
                  have hS_63 : HeldOK σ [.cell c_9 [.int .i64 p_6.Kind, .int .i64 p_6.N, .int .i64 p_6.Block], .row o_Gmem_Block 45 v_2 x_3, .cell a_1 [v_2, .int .i64 used_4]] σ [.cell c_9 [.int .i64 p_6.Kind, .int .i64 p_6.N, .int .i64 p_6.Block], .row o_Gmem_Block 45 v_2 x_3, .cell a_1 [v_2, .int .i64 used_4]] := HeldOK.same [0, 1, 2] (by decide) rfl
                  refine JA_takep 0 rfl hns (by kernel_rfl) (by kernel_rfl) rfl (.inr hS_63) rfl rfl rfl (r_move (v := peOpt v_2 (o_Gmem_Block).size r_11.1) rfl) ?_
                  refine JA_takep 1 rfl hns (by kernel_rfl) (by kernel_rfl) rfl (.inr hS_63) rfl rfl rfl (r_nilCheck_opt (i := i_20) rfl hi_21) ?_
                  refine JA_takep 2 rfl hns (by kernel_rfl) (by kernel_rfl) rfl (.inr hS_63) rfl rfl rfl (r_fieldAddr (r := elemAddr v_2 ((i_20).toNat * (o_Gmem_Block).size + 3)) Try.pu45 (f := Try.pf45.getD 3 default) rfl Try.pi23 (by decide) rfl (elemAddr_add _ _ _)) ?_
                  refine JA_takep 4 rfl hns (by kernel_rfl) (by kernel_rfl) rfl (.inr hS_63) rfl rfl rfl (r_fieldAddr (r := Addr.add c_9 1) Try.pu29 (f := Try.pf29.getD 1 default) rfl Try.pi2 (by decide) rfl (Addr.add_add _ _ _)) ?_
                  refine JA_take 5 rfl hns (by kernel_rfl) (by kernel_rfl) (by kernel_rfl) rfl (by kernel_rfl) hS_63 rfl rfl rfl (r_load_priv (a := c_9) (off := 1) (cs' := [.int .i64 p_6.N]) (v := .int .i64 p_6.N) 0 Try.pu2 Try.pi2 rfl rfl rfl rfl (by decide) rfl) ?_
                  refine J_select (PV' := [.row o_Gmem_Block 45 v_2 x_3, .cell c_9 [.int .i64 p_6.Kind, .int .i64 p_6.N, .int .i64 p_6.Block], .cell a_1 [v_2, .int .i64 used_4]]) [1, 0, 2] (by decide) rfl ?_
                  refine J_take (T := o_Gmem_Block) (i := i_20) hx_23 fun u_65 hu_64 => ?_
                  obtain ⟨_, v_67, v_69, v_71⟩ := u_65
                  change J _ _ _ _ _ _ _ _ [.hole (fun x => .elem o_Gmem_Block (elemAddr v_2 ((i_20).toNat * (o_Gmem_Block).size)) x) (fun x => .row o_Gmem_Block 45 v_2 (Sl.set x_3 i_20 x)), .cell (elemAddr v_2 ((i_20).toNat * (o_Gmem_Block).size)) [.bool x_22.Live, v_67, v_69, v_71], .row (t_Gmem_Value).o 29 v_67 x_22.Cells, .row ((tInt .i64)).o 3 v_69 x_22.Readers, .row (tBool).o 4 v_71 x_22.Writer, .cell c_9 [.int .i64 p_6.Kind, .int .i64 p_6.N, .int .i64 p_6.Block], .cell a_1 [v_2, .int .i64 used_4]]
                  have hS_73 : HeldOK σ [.cell c_9 [.int .i64 p_6.Kind, .int .i64 p_6.N, .int .i64 p_6.Block], .row o_Gmem_Block 45 v_2 x_3, .cell a_1 [v_2, .int .i64 used_4]] σ [.hole (fun x => .elem o_Gmem_Block (elemAddr v_2 ((i_20).toNat * (o_Gmem_Block).size)) x) (fun x => .row o_Gmem_Block 45 v_2 (Sl.set x_3 i_20 x)), .cell (elemAddr v_2 ((i_20).toNat * (o_Gmem_Block).size)) [.bool x_22.Live, v_67, v_69, v_71], .row (t_Gmem_Value).o 29 v_67 x_22.Cells, .row ((tInt .i64)).o 3 v_69 x_22.Readers, .row (tBool).o 4 v_71 x_22.Writer, .cell c_9 [.int .i64 p_6.Kind, .int .i64 p_6.N, .int .i64 p_6.Block], .cell a_1 [v_2, .int .i64 used_4]] := HeldOK.view (PV := [.row o_Gmem_Block 45 v_2 x_3, .cell c_9 [.int .i64 p_6.Kind, .int .i64 p_6.N, .int .i64 p_6.Block], .cell a_1 [v_2, .int .i64 used_4]]) (HeldOK.same [1, 0, 2] (by decide) rfl) (fun _ k => (take_back (T := o_Gmem_Block) (i := i_20) (s := x_3) (e := 45) (v := v_2) (q := x_22) (C := [.cell c_9 [.int .i64 p_6.Kind, .int .i64 p_6.N, .int .i64 p_6.Block], .cell a_1 [v_2, .int .i64 used_4]]) ((), v_67, v_69, v_71) ⟨trivial, trivial, trivial, trivial⟩ hx_23 (Sep.select (PV' := [.hole (fun x => .elem o_Gmem_Block (elemAddr v_2 ((i_20).toNat * (o_Gmem_Block).size)) x) (fun x => .row o_Gmem_Block 45 v_2 (Sl.set x_3 i_20 x)), .cell (elemAddr v_2 ((i_20).toNat * (o_Gmem_Block).size)) [.bool x_22.Live, v_67, v_69, v_71], .row (t_Gmem_Value).o 29 v_67 x_22.Cells, .row ((tInt .i64)).o 3 v_69 x_22.Readers, .row (tBool).o 4 v_71 x_22.Writer, .cell c_9 [.int .i64 p_6.Kind, .int .i64 p_6.N, .int .i64 p_6.Block], .cell a_1 [v_2, .int .i64 used_4]]) k [0, 1, 2, 3, 4, 5, 6] (by decide) rfl)))
                  refine JA_op (i := 3) (by kernel_rfl) rfl rfl (op_read rfl rfl (r_load_priv (a := (elemAddr v_2 ((i_20).toNat * (o_Gmem_Block).size))) (off := 3) (cs' := [v_71]) (v := v_71) 1 Try.pu23 Try.pi23 (pe_add v_2 ((i_20).toNat * (o_Gmem_Block).size) 3) rfl rfl rfl (by decide) rfl) ?_)
                  have hS_74 : HeldOK σ [.cell c_9 [.int .i64 p_6.Kind, .int .i64 p_6.N, .int .i64 p_6.Block], .row o_Gmem_Block 45 v_2 x_3, .cell a_1 [v_2, .int .i64 used_4]] σ [.hole (fun x => .elem o_Gmem_Block (elemAddr v_2 ((i_20).toNat * (o_Gmem_Block).size)) x) (fun x => .row o_Gmem_Block 45 v_2 (Sl.set x_3 i_20 x)), .cell (elemAddr v_2 ((i_20).toNat * (o_Gmem_Block).size)) [.bool x_22.Live, v_67, v_69, v_71], .row (t_Gmem_Value).o 29 v_67 x_22.Cells, .row ((tInt .i64)).o 3 v_69 x_22.Readers, .row (tBool).o 4 v_71 x_22.Writer, .cell c_9 [.int .i64 p_6.Kind, .int .i64 p_6.N, .int .i64 p_6.Block], .cell a_1 [v_2, .int .i64 used_4]] := HeldOK.view (PV := [.row o_Gmem_Block 45 v_2 x_3, .cell c_9 [.int .i64 p_6.Kind, .int .i64 p_6.N, .int .i64 p_6.Block], .cell a_1 [v_2, .int .i64 used_4]]) (HeldOK.same [1, 0, 2] (by decide) rfl) (fun _ k => (take_back (T := o_Gmem_Block) (i := i_20) (s := x_3) (e := 45) (v := v_2) (q := x_22) (C := [.cell c_9 [.int .i64 p_6.Kind, .int .i64 p_6.N, .int .i64 p_6.Block], .cell a_1 [v_2, .int .i64 used_4]]) ((), v_67, v_69, v_71) ⟨trivial, trivial, trivial, trivial⟩ hx_23 (Sep.select (PV' := [.hole (fun x => .elem o_Gmem_Block (elemAddr v_2 ((i_20).toNat * (o_Gmem_Block).size)) x) (fun x => .row o_Gmem_Block 45 v_2 (Sl.set x_3 i_20 x)), .cell (elemAddr v_2 ((i_20).toNat * (o_Gmem_Block).size)) [.bool x_22.Live, v_67, v_69, v_71], .row (t_Gmem_Value).o 29 v_67 x_22.Cells, .row ((tInt .i64)).o 3 v_69 x_22.Readers, .row (tBool).o 4 v_71 x_22.Writer, .cell c_9 [.int .i64 p_6.Kind, .int .i64 p_6.N, .int .i64 p_6.Block], .cell a_1 [v_2, .int .i64 used_4]]) k [0, 1, 2, 3, 4, 5, 6] (by decide) rfl)))
                  refine ⟨.inr hS_74, ?_⟩
                  refine JA_op (i := 6) (by kernel_rfl) rfl rfl (op_read rfl rfl (r_index_row (v := v_71) (T := (tBool).o) (q := x_35) 4 Try.pu23 Try.pi4 rfl rfl rfl rfl hx_36) ?_)
                  have hS_75 : HeldOK σ [.cell c_9 [.int .i64 p_6.Kind, .int .i64 p_6.N, .int .i64 p_6.Block], .row o_Gmem_Block 45 v_2 x_3, .cell a_1 [v_2, .int .i64 used_4]] σ [.hole (fun x => .elem o_Gmem_Block (elemAddr v_2 ((i_20).toNat * (o_Gmem_Block).size)) x) (fun x => .row o_Gmem_Block 45 v_2 (Sl.set x_3 i_20 x)), .cell (elemAddr v_2 ((i_20).toNat * (o_Gmem_Block).size)) [.bool x_22.Live, v_67, v_69, v_71], .row (t_Gmem_Value).o 29 v_67 x_22.Cells, .row ((tInt .i64)).o 3 v_69 x_22.Readers, .row (tBool).o 4 v_71 x_22.Writer, .cell c_9 [.int .i64 p_6.Kind, .int .i64 p_6.N, .int .i64 p_6.Block], .cell a_1 [v_2, .int .i64 used_4]] := HeldOK.view (PV := [.row o_Gmem_Block 45 v_2 x_3, .cell c_9 [.int .i64 p_6.Kind, .int .i64 p_6.N, .int .i64 p_6.Block], .cell a_1 [v_2, .int .i64 used_4]]) (HeldOK.same [1, 0, 2] (by decide) rfl) (fun _ k => (take_back (T := o_Gmem_Block) (i := i_20) (s := x_3) (e := 45) (v := v_2) (q := x_22) (C := [.cell c_9 [.int .i64 p_6.Kind, .int .i64 p_6.N, .int .i64 p_6.Block], .cell a_1 [v_2, .int .i64 used_4]]) ((), v_67, v_69, v_71) ⟨trivial, trivial, trivial, trivial⟩ hx_23 (Sep.select (PV' := [.hole (fun x => .elem o_Gmem_Block (elemAddr v_2 ((i_20).toNat * (o_Gmem_Block).size)) x) (fun x => .row o_Gmem_Block 45 v_2 (Sl.set x_3 i_20 x)), .cell (elemAddr v_2 ((i_20).toNat * (o_Gmem_Block).size)) [.bool x_22.Live, v_67, v_69, v_71], .row (t_Gmem_Value).o 29 v_67 x_22.Cells, .row ((tInt .i64)).o 3 v_69 x_22.Readers, .row (tBool).o 4 v_71 x_22.Writer, .cell c_9 [.int .i64 p_6.Kind, .int .i64 p_6.N, .int .i64 p_6.Block], .cell a_1 [v_2, .int .i64 used_4]]) k [0, 1, 2, 3, 4, 5, 6] (by decide) rfl)))
                  refine ⟨.inr hS_75, ?_⟩
                  refine J_select (PV' := [.row (tBool).o 4 v_71 x_22.Writer, .hole (fun x => .elem o_Gmem_Block (elemAddr v_2 ((i_20).toNat * (o_Gmem_Block).size)) x) (fun x => .row o_Gmem_Block 45 v_2 (Sl.set x_3 i_20 x)), .cell (elemAddr v_2 ((i_20).toNat * (o_Gmem_Block).size)) [.bool x_22.Live, v_67, v_69, v_71], .row (t_Gmem_Value).o 29 v_67 x_22.Cells, .row ((tInt .i64)).o 3 v_69 x_22.Readers, .cell c_9 [.int .i64 p_6.Kind, .int .i64 p_6.N, .int .i64 p_6.Block], .cell a_1 [v_2, .int .i64 used_4]]) [4, 0, 1, 2, 3, 5, 6] (by decide) rfl ?_
                  have hS_78 : HeldOK σ [.cell c_9 [.int .i64 p_6.Kind, .int .i64 p_6.N, .int .i64 p_6.Block], .row o_Gmem_Block 45 v_2 x_3, .cell a_1 [v_2, .int .i64 used_4]] σ [.row (tBool).o 4 v_71 x_22.Writer, .hole (fun x => .elem o_Gmem_Block (elemAddr v_2 ((i_20).toNat * (o_Gmem_Block).size)) x) (fun x => .row o_Gmem_Block 45 v_2 (Sl.set x_3 i_20 x)), .cell (elemAddr v_2 ((i_20).toNat * (o_Gmem_Block).size)) [.bool x_22.Live, v_67, v_69, v_71], .row (t_Gmem_Value).o 29 v_67 x_22.Cells, .row ((tInt .i64)).o 3 v_69 x_22.Readers, .cell c_9 [.int .i64 p_6.Kind, .int .i64 p_6.N, .int .i64 p_6.Block], .cell a_1 [v_2, .int .i64 used_4]] := HeldOK.view (PV := [.row o_Gmem_Block 45 v_2 x_3, .cell c_9 [.int .i64 p_6.Kind, .int .i64 p_6.N, .int .i64 p_6.Block], .cell a_1 [v_2, .int .i64 used_4]]) (HeldOK.same [1, 0, 2] (by decide) rfl) (fun _ k => (take_back (T := o_Gmem_Block) (i := i_20) (s := x_3) (e := 45) (v := v_2) (q := x_22) (C := [.cell c_9 [.int .i64 p_6.Kind, .int .i64 p_6.N, .int .i64 p_6.Block], .cell a_1 [v_2, .int .i64 used_4]]) ((), v_67, v_69, v_71) ⟨trivial, trivial, trivial, trivial⟩ hx_23 (Sep.select (PV' := [.hole (fun x => .elem o_Gmem_Block (elemAddr v_2 ((i_20).toNat * (o_Gmem_Block).size)) x) (fun x => .row o_Gmem_Block 45 v_2 (Sl.set x_3 i_20 x)), .cell (elemAddr v_2 ((i_20).toNat * (o_Gmem_Block).size)) [.bool x_22.Live, v_67, v_69, v_71], .row (t_Gmem_Value).o 29 v_67 x_22.Cells, .row ((tInt .i64)).o 3 v_69 x_22.Readers, .row (tBool).o 4 v_71 x_22.Writer, .cell c_9 [.int .i64 p_6.Kind, .int .i64 p_6.N, .int .i64 p_6.Block], .cell a_1 [v_2, .int .i64 used_4]]) k [1, 2, 3, 4, 0, 5, 6] (by decide) rfl)))
                  refine JA_op (i := 7) (by kernel_rfl) rfl rfl (op_store_row (v := v_71) (u := (.bool true)) (T := (tBool).o) (q := true) (i := p_6.N) [] [.hole (fun x => .elem o_Gmem_Block (elemAddr v_2 ((i_20).toNat * (o_Gmem_Block).size)) x) (fun x => .row o_Gmem_Block 45 v_2 (Sl.set x_3 i_20 x)), .cell (elemAddr v_2 ((i_20).toNat * (o_Gmem_Block).size)) [.bool x_22.Live, v_67, v_69, v_71], .row (t_Gmem_Value).o 29 v_67 x_22.Cells, .row ((tInt .i64)).o 3 v_69 x_22.Readers, .cell c_9 [.int .i64 p_6.Kind, .int .i64 p_6.N, .int .i64 p_6.Block], .cell a_1 [v_2, .int .i64 used_4]] Try.pi4 rfl rfl rfl rfl (fix_vrel (T := (tBool).o) rfl (tBool_v.2 rfl)) ?_)
                  intro s_76 hs_77
                  refine ⟨.inl (.inl rfl), ?_⟩
                  refine JA_done (by kernel_rfl) ?_
                  refine J_select (PV' := [.hole (fun x => .elem o_Gmem_Block (elemAddr v_2 ((i_20).toNat * (o_Gmem_Block).size)) x) (fun x => .row o_Gmem_Block 45 v_2 (Sl.set x_3 i_20 x)), .cell (elemAddr v_2 ((i_20).toNat * (o_Gmem_Block).size)) [.bool x_22.Live, v_67, v_69, v_71], .row (t_Gmem_Value).o 29 v_67 x_22.Cells, .row ((tInt .i64)).o 3 v_69 x_22.Readers, .row (tBool).o 4 v_71 s_76, .cell c_9 [.int .i64 p_6.Kind, .int .i64 p_6.N, .int .i64 p_6.Block], .cell a_1 [v_2, .int .i64 used_4]]) [1, 2, 3, 4, 0, 5, 6] (by decide) rfl ?_
                  refine J_put (T := o_Gmem_Block) (i := i_20) (s := x_3) (s' := (Sl.set x_3 i_20 (⟨x_22.Live, x_22.Cells, x_22.Readers, s_76⟩ : Gmem_Block))) (A := [.row (t_Gmem_Value).o 29 v_67 x_22.Cells, .row ((tInt .i64)).o 3 v_69 x_22.Readers, .row (tBool).o 4 v_71 s_76]) (C := [.cell c_9 [.int .i64 p_6.Kind, .int .i64 p_6.N, .int .i64 p_6.Block], .cell a_1 [v_2, .int .i64 used_4]]) (⟨x_22.Live, x_22.Cells, x_22.Readers, s_76⟩ : Gmem_Block) ((), v_67, v_69, v_71) ⟨trivial, trivial, trivial, trivial⟩ rfl rfl rfl ?_
                  refine J_select (PV' := [.cell a_1 [v_2, .int .i64 used_4], .row o_Gmem_Block 45 v_2 (Sl.set x_3 i_20 (⟨x_22.Live, x_22.Cells, x_22.Readers, s_76⟩ : Gmem_Block))]) [2, 0] (by decide) rfl ?_
                  refine J_cut_end _ ?_ ⟨rfl, rfl, rfl, rfl⟩ trivial
                  exact trivial
                · refine J_region_any 10 [.cell c_9 [.int .i64 p_6.Kind, .int .i64 p_6.N, .int .i64 p_6.Block], .row o_Gmem_Block 45 v_2 x_3, .cell a_1 [v_2, .int .i64 used_4]] Try.mixed (by kernel_rfl) fun hns => ?_
                  have hS_79 : HeldOK σ [.cell c_9 [.int .i64 p_6.Kind, .int .i64 p_6.N, .int .i64 p_6.Block], .row o_Gmem_Block 45 v_2 x_3, .cell a_1 [v_2, .int .i64 used_4]] σ [.cell c_9 [.int .i64 p_6.Kind, .int .i64 p_6.N, .int .i64 p_6.Block], .row o_Gmem_Block 45 v_2 x_3, .cell a_1 [v_2, .int .i64 used_4]] := HeldOK.same [0, 1, 2] (by decide) rfl
                  refine JA_takep 0 rfl hns (by kernel_rfl) (by kernel_rfl) rfl (.inr hS_79) rfl rfl rfl (r_move (v := peOpt v_2 (o_Gmem_Block).size r_11.1) rfl) ?_
                  refine JA_takep 1 rfl hns (by kernel_rfl) (by kernel_rfl) rfl (.inr hS_79) rfl rfl rfl (r_nilCheck_opt (i := i_20) rfl hi_21) ?_
                  refine JA_takep 2 rfl hns (by kernel_rfl) (by kernel_rfl) rfl (.inr hS_79) rfl rfl rfl (r_fieldAddr (r := elemAddr v_2 ((i_20).toNat * (o_Gmem_Block).size + 2)) Try.pu45 (f := Try.pf45.getD 2 default) rfl Try.pi36 (by decide) rfl (elemAddr_add _ _ _)) ?_
                  refine JA_takep 4 rfl hns (by kernel_rfl) (by kernel_rfl) rfl (.inr hS_79) rfl rfl rfl (r_fieldAddr (r := Addr.add c_9 1) Try.pu29 (f := Try.pf29.getD 1 default) rfl Try.pi2 (by decide) rfl (Addr.add_add _ _ _)) ?_
                  refine JA_take 5 rfl hns (by kernel_rfl) (by kernel_rfl) (by kernel_rfl) rfl (by kernel_rfl) hS_79 rfl rfl rfl (r_load_priv (a := c_9) (off := 1) (cs' := [.int .i64 p_6.N]) (v := .int .i64 p_6.N) 0 Try.pu2 Try.pi2 rfl rfl rfl rfl (by decide) rfl) ?_
                  refine J_select (PV' := [.row o_Gmem_Block 45 v_2 x_3, .cell c_9 [.int .i64 p_6.Kind, .int .i64 p_6.N, .int .i64 p_6.Block], .cell a_1 [v_2, .int .i64 used_4]]) [1, 0, 2] (by decide) rfl ?_
                  refine J_take (T := o_Gmem_Block) (i := i_20) hx_23 fun u_81 hu_80 => ?_
                  obtain ⟨_, v_83, v_85, v_87⟩ := u_81
                  change J _ _ _ _ _ _ _ _ [.hole (fun x => .elem o_Gmem_Block (elemAddr v_2 ((i_20).toNat * (o_Gmem_Block).size)) x) (fun x => .row o_Gmem_Block 45 v_2 (Sl.set x_3 i_20 x)), .cell (elemAddr v_2 ((i_20).toNat * (o_Gmem_Block).size)) [.bool x_22.Live, v_83, v_85, v_87], .row (t_Gmem_Value).o 29 v_83 x_22.Cells, .row ((tInt .i64)).o 3 v_85 x_22.Readers, .row (tBool).o 4 v_87 x_22.Writer, .cell c_9 [.int .i64 p_6.Kind, .int .i64 p_6.N, .int .i64 p_6.Block], .cell a_1 [v_2, .int .i64 used_4]]
                  have hS_89 : HeldOK σ [.cell c_9 [.int .i64 p_6.Kind, .int .i64 p_6.N, .int .i64 p_6.Block], .row o_Gmem_Block 45 v_2 x_3, .cell a_1 [v_2, .int .i64 used_4]] σ [.hole (fun x => .elem o_Gmem_Block (elemAddr v_2 ((i_20).toNat * (o_Gmem_Block).size)) x) (fun x => .row o_Gmem_Block 45 v_2 (Sl.set x_3 i_20 x)), .cell (elemAddr v_2 ((i_20).toNat * (o_Gmem_Block).size)) [.bool x_22.Live, v_83, v_85, v_87], .row (t_Gmem_Value).o 29 v_83 x_22.Cells, .row ((tInt .i64)).o 3 v_85 x_22.Readers, .row (tBool).o 4 v_87 x_22.Writer, .cell c_9 [.int .i64 p_6.Kind, .int .i64 p_6.N, .int .i64 p_6.Block], .cell a_1 [v_2, .int .i64 used_4]] := HeldOK.view (PV := [.row o_Gmem_Block 45 v_2 x_3, .cell c_9 [.int .i64 p_6.Kind, .int .i64 p_6.N, .int .i64 p_6.Block], .cell a_1 [v_2, .int .i64 used_4]]) (HeldOK.same [1, 0, 2] (by decide) rfl) (fun _ k => (take_back (T := o_Gmem_Block) (i := i_20) (s := x_3) (e := 45) (v := v_2) (q := x_22) (C := [.cell c_9 [.int .i64 p_6.Kind, .int .i64 p_6.N, .int .i64 p_6.Block], .cell a_1 [v_2, .int .i64 used_4]]) ((), v_83, v_85, v_87) ⟨trivial, trivial, trivial, trivial⟩ hx_23 (Sep.select (PV' := [.hole (fun x => .elem o_Gmem_Block (elemAddr v_2 ((i_20).toNat * (o_Gmem_Block).size)) x) (fun x => .row o_Gmem_Block 45 v_2 (Sl.set x_3 i_20 x)), .cell (elemAddr v_2 ((i_20).toNat * (o_Gmem_Block).size)) [.bool x_22.Live, v_83, v_85, v_87], .row (t_Gmem_Value).o 29 v_83 x_22.Cells, .row ((tInt .i64)).o 3 v_85 x_22.Readers, .row (tBool).o 4 v_87 x_22.Writer, .cell c_9 [.int .i64 p_6.Kind, .int .i64 p_6.N, .int .i64 p_6.Block], .cell a_1 [v_2, .int .i64 used_4]]) k [0, 1, 2, 3, 4, 5, 6] (by decide) rfl)))
                  refine JA_op (i := 3) (by kernel_rfl) rfl rfl (op_read rfl rfl (r_load_priv (a := (elemAddr v_2 ((i_20).toNat * (o_Gmem_Block).size))) (off := 2) (cs' := [v_85]) (v := v_85) 1 Try.pu36 Try.pi36 (pe_add v_2 ((i_20).toNat * (o_Gmem_Block).size) 2) rfl rfl rfl (by decide) rfl) ?_)
                  have hS_90 : HeldOK σ [.cell c_9 [.int .i64 p_6.Kind, .int .i64 p_6.N, .int .i64 p_6.Block], .row o_Gmem_Block 45 v_2 x_3, .cell a_1 [v_2, .int .i64 used_4]] σ [.hole (fun x => .elem o_Gmem_Block (elemAddr v_2 ((i_20).toNat * (o_Gmem_Block).size)) x) (fun x => .row o_Gmem_Block 45 v_2 (Sl.set x_3 i_20 x)), .cell (elemAddr v_2 ((i_20).toNat * (o_Gmem_Block).size)) [.bool x_22.Live, v_83, v_85, v_87], .row (t_Gmem_Value).o 29 v_83 x_22.Cells, .row ((tInt .i64)).o 3 v_85 x_22.Readers, .row (tBool).o 4 v_87 x_22.Writer, .cell c_9 [.int .i64 p_6.Kind, .int .i64 p_6.N, .int .i64 p_6.Block], .cell a_1 [v_2, .int .i64 used_4]] := HeldOK.view (PV := [.row o_Gmem_Block 45 v_2 x_3, .cell c_9 [.int .i64 p_6.Kind, .int .i64 p_6.N, .int .i64 p_6.Block], .cell a_1 [v_2, .int .i64 used_4]]) (HeldOK.same [1, 0, 2] (by decide) rfl) (fun _ k => (take_back (T := o_Gmem_Block) (i := i_20) (s := x_3) (e := 45) (v := v_2) (q := x_22) (C := [.cell c_9 [.int .i64 p_6.Kind, .int .i64 p_6.N, .int .i64 p_6.Block], .cell a_1 [v_2, .int .i64 used_4]]) ((), v_83, v_85, v_87) ⟨trivial, trivial, trivial, trivial⟩ hx_23 (Sep.select (PV' := [.hole (fun x => .elem o_Gmem_Block (elemAddr v_2 ((i_20).toNat * (o_Gmem_Block).size)) x) (fun x => .row o_Gmem_Block 45 v_2 (Sl.set x_3 i_20 x)), .cell (elemAddr v_2 ((i_20).toNat * (o_Gmem_Block).size)) [.bool x_22.Live, v_83, v_85, v_87], .row (t_Gmem_Value).o 29 v_83 x_22.Cells, .row ((tInt .i64)).o 3 v_85 x_22.Readers, .row (tBool).o 4 v_87 x_22.Writer, .cell c_9 [.int .i64 p_6.Kind, .int .i64 p_6.N, .int .i64 p_6.Block], .cell a_1 [v_2, .int .i64 used_4]]) k [0, 1, 2, 3, 4, 5, 6] (by decide) rfl)))
                  refine ⟨.inr hS_90, ?_⟩
                  refine J_bind fun x_91 hx_92 => ?_
                  refine JA_op (i := 6) (by kernel_rfl) rfl rfl (op_read rfl rfl (r_index_row (v := v_85) (T := ((tInt .i64)).o) (q := x_91) 3 Try.pu36 Try.pi3 rfl rfl rfl rfl hx_92) ?_)
                  have hS_93 : HeldOK σ [.cell c_9 [.int .i64 p_6.Kind, .int .i64 p_6.N, .int .i64 p_6.Block], .row o_Gmem_Block 45 v_2 x_3, .cell a_1 [v_2, .int .i64 used_4]] σ [.hole (fun x => .elem o_Gmem_Block (elemAddr v_2 ((i_20).toNat * (o_Gmem_Block).size)) x) (fun x => .row o_Gmem_Block 45 v_2 (Sl.set x_3 i_20 x)), .cell (elemAddr v_2 ((i_20).toNat * (o_Gmem_Block).size)) [.bool x_22.Live, v_83, v_85, v_87], .row (t_Gmem_Value).o 29 v_83 x_22.Cells, .row ((tInt .i64)).o 3 v_85 x_22.Readers, .row (tBool).o 4 v_87 x_22.Writer, .cell c_9 [.int .i64 p_6.Kind, .int .i64 p_6.N, .int .i64 p_6.Block], .cell a_1 [v_2, .int .i64 used_4]] := HeldOK.view (PV := [.row o_Gmem_Block 45 v_2 x_3, .cell c_9 [.int .i64 p_6.Kind, .int .i64 p_6.N, .int .i64 p_6.Block], .cell a_1 [v_2, .int .i64 used_4]]) (HeldOK.same [1, 0, 2] (by decide) rfl) (fun _ k => (take_back (T := o_Gmem_Block) (i := i_20) (s := x_3) (e := 45) (v := v_2) (q := x_22) (C := [.cell c_9 [.int .i64 p_6.Kind, .int .i64 p_6.N, .int .i64 p_6.Block], .cell a_1 [v_2, .int .i64 used_4]]) ((), v_83, v_85, v_87) ⟨trivial, trivial, trivial, trivial⟩ hx_23 (Sep.select (PV' := [.hole (fun x => .elem o_Gmem_Block (elemAddr v_2 ((i_20).toNat * (o_Gmem_Block).size)) x) (fun x => .row o_Gmem_Block 45 v_2 (Sl.set x_3 i_20 x)), .cell (elemAddr v_2 ((i_20).toNat * (o_Gmem_Block).size)) [.bool x_22.Live, v_83, v_85, v_87], .row (t_Gmem_Value).o 29 v_83 x_22.Cells, .row ((tInt .i64)).o 3 v_85 x_22.Readers, .row (tBool).o 4 v_87 x_22.Writer, .cell c_9 [.int .i64 p_6.Kind, .int .i64 p_6.N, .int .i64 p_6.Block], .cell a_1 [v_2, .int .i64 used_4]]) k [0, 1, 2, 3, 4, 5, 6] (by decide) rfl)))
                  refine ⟨.inr hS_93, ?_⟩
                  refine JA_op (i := 7) (by kernel_rfl) rfl rfl (op_reads rfl rfl (l_elem_orow (v := v_85) (T := ((tInt .i64)).o) (Tf := (tInt .i64)) (q := x_91) (i := p_6.N) (off := 0) 3 Try.pu3 Try.pi3 rfl rfl rfl rfl hx_92 (OFieldAt.self (T := ((tInt .i64)).o)) (by decide)) ?_)
                  intro v_94 h_95
                  obtain rfl := tInt_v.1 h_95
                  have hS_96 : HeldOK σ [.cell c_9 [.int .i64 p_6.Kind, .int .i64 p_6.N, .int .i64 p_6.Block], .row o_Gmem_Block 45 v_2 x_3, .cell a_1 [v_2, .int .i64 used_4]] σ [.hole (fun x => .elem o_Gmem_Block (elemAddr v_2 ((i_20).toNat * (o_Gmem_Block).size)) x) (fun x => .row o_Gmem_Block 45 v_2 (Sl.set x_3 i_20 x)), .cell (elemAddr v_2 ((i_20).toNat * (o_Gmem_Block).size)) [.bool x_22.Live, v_83, v_85, v_87], .row (t_Gmem_Value).o 29 v_83 x_22.Cells, .row ((tInt .i64)).o 3 v_85 x_22.Readers, .row (tBool).o 4 v_87 x_22.Writer, .cell c_9 [.int .i64 p_6.Kind, .int .i64 p_6.N, .int .i64 p_6.Block], .cell a_1 [v_2, .int .i64 used_4]] := HeldOK.view (PV := [.row o_Gmem_Block 45 v_2 x_3, .cell c_9 [.int .i64 p_6.Kind, .int .i64 p_6.N, .int .i64 p_6.Block], .cell a_1 [v_2, .int .i64 used_4]]) (HeldOK.same [1, 0, 2] (by decide) rfl) (fun _ k => (take_back (T := o_Gmem_Block) (i := i_20) (s := x_3) (e := 45) (v := v_2) (q := x_22) (C := [.cell c_9 [.int .i64 p_6.Kind, .int .i64 p_6.N, .int .i64 p_6.Block], .cell a_1 [v_2, .int .i64 used_4]]) ((), v_83, v_85, v_87) ⟨trivial, trivial, trivial, trivial⟩ hx_23 (Sep.select (PV' := [.hole (fun x => .elem o_Gmem_Block (elemAddr v_2 ((i_20).toNat * (o_Gmem_Block).size)) x) (fun x => .row o_Gmem_Block 45 v_2 (Sl.set x_3 i_20 x)), .cell (elemAddr v_2 ((i_20).toNat * (o_Gmem_Block).size)) [.bool x_22.Live, v_83, v_85, v_87], .row (t_Gmem_Value).o 29 v_83 x_22.Cells, .row ((tInt .i64)).o 3 v_85 x_22.Readers, .row (tBool).o 4 v_87 x_22.Writer, .cell c_9 [.int .i64 p_6.Kind, .int .i64 p_6.N, .int .i64 p_6.Block], .cell a_1 [v_2, .int .i64 used_4]]) k [0, 1, 2, 3, 4, 5, 6] (by decide) rfl)))
                  refine ⟨.inr hS_96, ?_⟩
                  refine JA_takep 8 rfl hns (by kernel_rfl) (by kernel_rfl) rfl (.inr hS_96) rfl rfl rfl (r_add rfl rfl) ?_
                  refine JA_op (i := 9) (by kernel_rfl) rfl rfl (op_read rfl rfl (r_index_row (v := v_85) (T := ((tInt .i64)).o) (q := x_91) 3 Try.pu36 Try.pi3 rfl rfl rfl rfl hx_92) ?_)
                  have hS_97 : HeldOK σ [.cell c_9 [.int .i64 p_6.Kind, .int .i64 p_6.N, .int .i64 p_6.Block], .row o_Gmem_Block 45 v_2 x_3, .cell a_1 [v_2, .int .i64 used_4]] σ [.hole (fun x => .elem o_Gmem_Block (elemAddr v_2 ((i_20).toNat * (o_Gmem_Block).size)) x) (fun x => .row o_Gmem_Block 45 v_2 (Sl.set x_3 i_20 x)), .cell (elemAddr v_2 ((i_20).toNat * (o_Gmem_Block).size)) [.bool x_22.Live, v_83, v_85, v_87], .row (t_Gmem_Value).o 29 v_83 x_22.Cells, .row ((tInt .i64)).o 3 v_85 x_22.Readers, .row (tBool).o 4 v_87 x_22.Writer, .cell c_9 [.int .i64 p_6.Kind, .int .i64 p_6.N, .int .i64 p_6.Block], .cell a_1 [v_2, .int .i64 used_4]] := HeldOK.view (PV := [.row o_Gmem_Block 45 v_2 x_3, .cell c_9 [.int .i64 p_6.Kind, .int .i64 p_6.N, .int .i64 p_6.Block], .cell a_1 [v_2, .int .i64 used_4]]) (HeldOK.same [1, 0, 2] (by decide) rfl) (fun _ k => (take_back (T := o_Gmem_Block) (i := i_20) (s := x_3) (e := 45) (v := v_2) (q := x_22) (C := [.cell c_9 [.int .i64 p_6.Kind, .int .i64 p_6.N, .int .i64 p_6.Block], .cell a_1 [v_2, .int .i64 used_4]]) ((), v_83, v_85, v_87) ⟨trivial, trivial, trivial, trivial⟩ hx_23 (Sep.select (PV' := [.hole (fun x => .elem o_Gmem_Block (elemAddr v_2 ((i_20).toNat * (o_Gmem_Block).size)) x) (fun x => .row o_Gmem_Block 45 v_2 (Sl.set x_3 i_20 x)), .cell (elemAddr v_2 ((i_20).toNat * (o_Gmem_Block).size)) [.bool x_22.Live, v_83, v_85, v_87], .row (t_Gmem_Value).o 29 v_83 x_22.Cells, .row ((tInt .i64)).o 3 v_85 x_22.Readers, .row (tBool).o 4 v_87 x_22.Writer, .cell c_9 [.int .i64 p_6.Kind, .int .i64 p_6.N, .int .i64 p_6.Block], .cell a_1 [v_2, .int .i64 used_4]]) k [0, 1, 2, 3, 4, 5, 6] (by decide) rfl)))
                  refine ⟨.inr hS_97, ?_⟩
                  refine J_select (PV' := [.row ((tInt .i64)).o 3 v_85 x_22.Readers, .hole (fun x => .elem o_Gmem_Block (elemAddr v_2 ((i_20).toNat * (o_Gmem_Block).size)) x) (fun x => .row o_Gmem_Block 45 v_2 (Sl.set x_3 i_20 x)), .cell (elemAddr v_2 ((i_20).toNat * (o_Gmem_Block).size)) [.bool x_22.Live, v_83, v_85, v_87], .row (t_Gmem_Value).o 29 v_83 x_22.Cells, .row (tBool).o 4 v_87 x_22.Writer, .cell c_9 [.int .i64 p_6.Kind, .int .i64 p_6.N, .int .i64 p_6.Block], .cell a_1 [v_2, .int .i64 used_4]]) [3, 0, 1, 2, 4, 5, 6] (by decide) rfl ?_
                  have hS_100 : HeldOK σ [.cell c_9 [.int .i64 p_6.Kind, .int .i64 p_6.N, .int .i64 p_6.Block], .row o_Gmem_Block 45 v_2 x_3, .cell a_1 [v_2, .int .i64 used_4]] σ [.row ((tInt .i64)).o 3 v_85 x_22.Readers, .hole (fun x => .elem o_Gmem_Block (elemAddr v_2 ((i_20).toNat * (o_Gmem_Block).size)) x) (fun x => .row o_Gmem_Block 45 v_2 (Sl.set x_3 i_20 x)), .cell (elemAddr v_2 ((i_20).toNat * (o_Gmem_Block).size)) [.bool x_22.Live, v_83, v_85, v_87], .row (t_Gmem_Value).o 29 v_83 x_22.Cells, .row (tBool).o 4 v_87 x_22.Writer, .cell c_9 [.int .i64 p_6.Kind, .int .i64 p_6.N, .int .i64 p_6.Block], .cell a_1 [v_2, .int .i64 used_4]] := HeldOK.view (PV := [.row o_Gmem_Block 45 v_2 x_3, .cell c_9 [.int .i64 p_6.Kind, .int .i64 p_6.N, .int .i64 p_6.Block], .cell a_1 [v_2, .int .i64 used_4]]) (HeldOK.same [1, 0, 2] (by decide) rfl) (fun _ k => (take_back (T := o_Gmem_Block) (i := i_20) (s := x_3) (e := 45) (v := v_2) (q := x_22) (C := [.cell c_9 [.int .i64 p_6.Kind, .int .i64 p_6.N, .int .i64 p_6.Block], .cell a_1 [v_2, .int .i64 used_4]]) ((), v_83, v_85, v_87) ⟨trivial, trivial, trivial, trivial⟩ hx_23 (Sep.select (PV' := [.hole (fun x => .elem o_Gmem_Block (elemAddr v_2 ((i_20).toNat * (o_Gmem_Block).size)) x) (fun x => .row o_Gmem_Block 45 v_2 (Sl.set x_3 i_20 x)), .cell (elemAddr v_2 ((i_20).toNat * (o_Gmem_Block).size)) [.bool x_22.Live, v_83, v_85, v_87], .row (t_Gmem_Value).o 29 v_83 x_22.Cells, .row ((tInt .i64)).o 3 v_85 x_22.Readers, .row (tBool).o 4 v_87 x_22.Writer, .cell c_9 [.int .i64 p_6.Kind, .int .i64 p_6.N, .int .i64 p_6.Block], .cell a_1 [v_2, .int .i64 used_4]]) k [1, 2, 3, 0, 4, 5, 6] (by decide) rfl)))
                  refine JA_op (i := 10) (by kernel_rfl) rfl rfl (op_store_row (v := v_85) (u := (.int .i64 (IntKind.i64.wrap (x_91 + 1)))) (T := ((tInt .i64)).o) (q := (IntKind.i64.wrap (x_91 + 1))) (i := p_6.N) [] [.hole (fun x => .elem o_Gmem_Block (elemAddr v_2 ((i_20).toNat * (o_Gmem_Block).size)) x) (fun x => .row o_Gmem_Block 45 v_2 (Sl.set x_3 i_20 x)), .cell (elemAddr v_2 ((i_20).toNat * (o_Gmem_Block).size)) [.bool x_22.Live, v_83, v_85, v_87], .row (t_Gmem_Value).o 29 v_83 x_22.Cells, .row (tBool).o 4 v_87 x_22.Writer, .cell c_9 [.int .i64 p_6.Kind, .int .i64 p_6.N, .int .i64 p_6.Block], .cell a_1 [v_2, .int .i64 used_4]] Try.pi3 rfl rfl rfl rfl (fix_vrel (T := ((tInt .i64)).o) rfl (tInt_v.2 rfl)) ?_)
                  intro s_98 hs_99
                  refine ⟨.inl (.inl rfl), ?_⟩
                  refine JA_done (by kernel_rfl) ?_
                  refine J_select (PV' := [.hole (fun x => .elem o_Gmem_Block (elemAddr v_2 ((i_20).toNat * (o_Gmem_Block).size)) x) (fun x => .row o_Gmem_Block 45 v_2 (Sl.set x_3 i_20 x)), .cell (elemAddr v_2 ((i_20).toNat * (o_Gmem_Block).size)) [.bool x_22.Live, v_83, v_85, v_87], .row (t_Gmem_Value).o 29 v_83 x_22.Cells, .row ((tInt .i64)).o 3 v_85 s_98, .row (tBool).o 4 v_87 x_22.Writer, .cell c_9 [.int .i64 p_6.Kind, .int .i64 p_6.N, .int .i64 p_6.Block], .cell a_1 [v_2, .int .i64 used_4]]) [1, 2, 3, 0, 4, 5, 6] (by decide) rfl ?_
                  refine J_put (T := o_Gmem_Block) (i := i_20) (s := x_3) (s' := (Sl.set x_3 i_20 (⟨x_22.Live, x_22.Cells, s_98, x_22.Writer⟩ : Gmem_Block))) (A := [.row (t_Gmem_Value).o 29 v_83 x_22.Cells, .row ((tInt .i64)).o 3 v_85 s_98, .row (tBool).o 4 v_87 x_22.Writer]) (C := [.cell c_9 [.int .i64 p_6.Kind, .int .i64 p_6.N, .int .i64 p_6.Block], .cell a_1 [v_2, .int .i64 used_4]]) (⟨x_22.Live, x_22.Cells, s_98, x_22.Writer⟩ : Gmem_Block) ((), v_83, v_85, v_87) ⟨trivial, trivial, trivial, trivial⟩ rfl rfl rfl ?_
                  refine J_select (PV' := [.cell a_1 [v_2, .int .i64 used_4], .row o_Gmem_Block 45 v_2 (Sl.set x_3 i_20 (⟨x_22.Live, x_22.Cells, s_98, x_22.Writer⟩ : Gmem_Block))]) [2, 0] (by decide) rfl ?_
                  refine J_cut_end _ ?_ ⟨rfl, rfl, rfl, rfl⟩ trivial
                  exact trivial
              · rintro y_101 _ _ b s_104 _ ⟨rfl, ⟨rfl, rfl, rfl⟩⟩
                refine J_cut_end _ ?_ ⟨rfl, rfl, rfl, rfl⟩ trivial
                exact trivial
          · rintro (y_106 | y_110) e L b τ PV ht
            · obtain ⟨rfl, ht⟩ := ht
              revert ht; revert PV; revert τ; revert b; revert L
              rintro _ b s_109 _ ⟨rfl, rfl, rfl⟩
              refine J_cut_end _ ?_ ⟨rfl, rfl, rfl, rfl⟩ trivial
              exact trivial
            · obtain ⟨rfl, ht⟩ := ht
              revert ht; revert PV; revert τ; revert b; revert L
              rintro _ b s_113 _ ⟨rfl, rfl, rfl⟩
              refine J_cut_end _ ?_ ⟨rfl, rfl, rfl, rfl⟩ trivial
              exact ⟨rfl, trivial⟩
    · rintro (y_115 | y_119) e L b τ PV ht
      · obtain ⟨rfl, ht⟩ := ht
        revert ht; revert PV; revert τ; revert b; revert L
        rintro _ b s_118 _ ⟨rfl, rfl, rfl⟩
        refine J_in_normal ?_
        refine J_cut_end _ ?_ ⟨rfl, rfl, rfl, rfl⟩ trivial
        exact trivial
      · obtain ⟨rfl, ht⟩ := ht
        revert ht; revert PV; revert τ; revert b; revert L
        rintro _ b s_122 _ ⟨rfl, rfl, rfl⟩
        refine J_in_ret ?_
        refine J_cut_end _ ?_ ⟨rfl, rfl, rfl, rfl⟩ trivial
        exact ⟨rfl, trivial⟩
  · rintro (y_124 | y_128) e L b τ PV ht
    · obtain ⟨rfl, ht⟩ := ht
      revert ht; revert PV; revert τ; revert b; revert L
      rintro _ b s_127 _ ⟨rfl, rfl, rfl⟩
      refine J_then ?_
      refine J_seq ?_
      refine J_region ?_
      refine JL_op rfl (op_read rfl rfl (r_assign (v := .int .i64 0) rfl) ?_)
      refine JL_nil ?_
      refine J_then ?_
      refine J_ret ?_
      exact J_returnV1 (PV' := [.cell a_1 [v_2, .int .i64 used_4], .row o_Gmem_Block 45 v_2 y_124]) rfl rv_tmp [0, 1] (by decide) rfl ⟨rfl, rfl, rfl⟩
    · obtain ⟨rfl, ht⟩ := ht
      revert ht; revert PV; revert τ; revert b; revert L
      rintro _ b s_131 _ ⟨rfl, rfl, rfl⟩
      refine J_then_ret ?_
      exact J_returnV1 (PV' := [.cell a_1 [v_2, .int .i64 used_4], .row o_Gmem_Block 45 v_2 x_3]) rfl rv_tmp [0, 1] (by decide) rfl ⟨rfl, rfl, rfl⟩
def mem_Value_plain_post (σ0 : FS) (v_1 : Value) (v_2 : Gmem_Value) (r : Gmem_Value) (σ : FS) (PV : List Priv) (v : Value) : Prop :=
  σ0 = σ ∧ .agg #[.int .i64 r.Kind, .int .i64 r.N, .int .i64 r.Block] = v ∧ PV = []
set_option maxRecDepth 100000 in
theorem mem_Value_plain_ref (s : Start) (σ : FS) (v_1 : Value) (v_2 : Gmem_Value) (h_3 : t_Gmem_Value.vrel σ v_1 v_2) (hs : Pre s σ []) (r : Gmem_Value) (hr : mem_Value_plain v_2 = some r) : Does Try.prog 25 [v_1] s σ (mem_Value_plain_post σ v_1 v_2 r) := by
  unfold mem_Value_plain at hr
  obtain rfl := t_Gmem_Value_v.1 h_3
  refine does_of_J Try.func25 rfl (n := 12) rfl rfl hs hr ?_
  refine J_seq ?_
  refine J_region ?_
  refine JL_op rfl (op_box (cs := [.int .i64 v_2.Kind, .int .i64 v_2.N, .int .i64 v_2.Block]) rfl rfl ?_)
  intro c_4
  refine JL_op rfl (op_alloc (cs := [.int .i64 0, .int .i64 0, .int .i64 0]) rfl Try.pi29 rfl rfl ?_)
  intro c_6
  refine JL_nil ?_
  refine J_then ?_
  refine J_seq ?_
  refine J_seq ?_
  refine J_region ?_
  refine JL_op rfl (op_read rfl rfl (r_fieldAddr (r := Addr.add c_4 0) Try.pu29 (f := Try.pf29.getD 0 default) rfl Try.pi27 (by decide) rfl (Addr.add_add _ _ _)) ?_)
  refine JL_op rfl (op_read rfl rfl (r_load_priv (a := c_4) (off := 0) (cs' := [.int .i64 v_2.Kind]) (v := .int .i64 v_2.Kind) 1 Try.pu27 Try.pi27 rfl rfl rfl rfl (by decide) rfl) ?_)
  refine JL_nil ?_
  refine J_then ?_
  refine J_cut (fun (y : W2 Gmem_Value Unit) e L τ PV => match y, e with | .a y, e => e = .normal ∧ (σ = τ ∧ L = [(1, .pointer (some (Addr.add c_4 0))), (2, .pointer (some (Addr.add c_6 0)))] ∧ PV = [.cell c_4 [.int .i64 y.Kind, .int .i64 y.N, .int .i64 y.Block], .cell c_6 [.int .i64 0, .int .i64 0, .int .i64 0]]) | .b y, e => e = .ret ∧ (σ = τ ∧ L = [(2, .pointer (some (Addr.add c_6 0)))] ∧ PV = [.cell c_6 [.int .i64 0, .int .i64 0, .int .i64 0]])) ?_ ?_
  · refine J_block ?_
    refine J_seq ?_
    refine J_region ?_
    refine JL_op rfl (op_read rfl rfl (r_eql rfl rfl) ?_)
    refine JL_op rfl (op_read rfl rfl (r_assign (v := .bool (decide (v_2.Kind = 1))) rfl) ?_)
    refine JL_nil ?_
    refine J_then ?_
    refine J_cut (fun (y : W2 Gmem_Value Unit) e L τ PV => match y, e with | .a y, e => e = .normal ∧ (σ = τ ∧ L = [(1, .pointer (some (Addr.add c_4 0))), (2, .pointer (some (Addr.add c_6 0)))] ∧ PV = [.cell c_4 [.int .i64 y.Kind, .int .i64 y.N, .int .i64 y.Block], .cell c_6 [.int .i64 0, .int .i64 0, .int .i64 0]]) | .b y, e => e = .ret ∧ (σ = τ ∧ L = [(2, .pointer (some (Addr.add c_6 0)))] ∧ PV = [.cell c_6 [.int .i64 0, .int .i64 0, .int .i64 0]])) ?_ ?_
    · refine J_cond rfl (fun hc_8 => ?_) (fun hc_8 => ?_)
      · refine J_region ?_
        refine JL_op rfl (op_read rfl rfl (r_fieldAddr (r := Addr.add c_4 2) Try.pu29 (f := Try.pf29.getD 2 default) rfl Try.pi3 (by decide) rfl (Addr.add_add _ _ _)) ?_)
        refine JL_op rfl (op_store_priv (a := c_4) (off := 2) (vs := [.int .i64 0]) (cs' := [.int .i64 v_2.Kind, .int .i64 v_2.N, .int .i64 0]) (PV' := [.cell c_6 [.int .i64 0, .int .i64 0, .int .i64 0], .cell c_4 [.int .i64 v_2.Kind, .int .i64 v_2.N, .int .i64 0]]) 1 Try.pi3 rfl rfl rfl ⟨rfl, trivial⟩ rfl rfl rfl rfl rfl ?_)
        refine JL_nil ?_
        refine J_select (PV' := [.cell c_4 [.int .i64 v_2.Kind, .int .i64 v_2.N, .int .i64 0], .cell c_6 [.int .i64 0, .int .i64 0, .int .i64 0]]) [1, 0] (by decide) rfl ?_
        refine J_cut_end _ ?_ ⟨rfl, rfl, rfl, rfl⟩ trivial
        exact ⟨rfl, rfl, trivial⟩
      · refine J_seq ?_
        refine J_region ?_
        refine JL_op rfl (op_read rfl rfl (r_eql rfl rfl) ?_)
        refine JL_op rfl (op_read rfl rfl (r_assign (v := .bool (decide (v_2.Kind = 2))) rfl) ?_)
        refine JL_nil ?_
        refine J_then ?_
        refine J_cond rfl (fun hc_9 => ?_) (fun hc_9 => ?_)
        · refine J_skip ?_
          refine J_select (PV' := [.cell c_4 [.int .i64 v_2.Kind, .int .i64 v_2.N, .int .i64 v_2.Block], .cell c_6 [.int .i64 0, .int .i64 0, .int .i64 0]]) [1, 0] (by decide) rfl ?_
          refine J_cut_end _ ?_ ⟨rfl, rfl, rfl, rfl⟩ trivial
          exact ⟨rfl, rfl, trivial⟩
        · refine J_seq ?_
          refine J_region ?_
          refine JL_op rfl (op_read rfl rfl (r_build (cs := [.int .i64 0, .int .i64 0, .int .i64 0]) (vs := []) (pcs := []) (pls := [(0, 1), (1, 1), (2, 1)]) Try.pu29 Try.pi29 rfl (by kernel_rfl) rfl trivial rfl) ?_)
          refine JL_op rfl (op_store_priv (a := c_6) (off := 0) (vs := [.int .i64 0, .int .i64 0, .int .i64 0]) (cs' := [.int .i64 0, .int .i64 0, .int .i64 0]) (PV' := [.cell c_6 [.int .i64 0, .int .i64 0, .int .i64 0], .cell c_4 [.int .i64 v_2.Kind, .int .i64 v_2.N, .int .i64 v_2.Block]]) 0 Try.pi29 rfl rfl rfl ⟨rfl, rfl, rfl, trivial⟩ rfl rfl rfl rfl rfl ?_)
          refine JL_nil ?_
          refine J_then ?_
          refine J_ret ?_
          refine J_select (PV' := [.cell c_6 [.int .i64 0, .int .i64 0, .int .i64 0]]) [0] (by decide) rfl ?_
          refine J_cut_end _ ?_ ⟨rfl, rfl, rfl, rfl⟩ trivial
          exact ⟨rfl, trivial⟩
    · rintro (y_11 | y_15) e L b τ PV ht
      · obtain ⟨rfl, ht⟩ := ht
        revert ht; revert PV; revert τ; revert b; revert L
        rintro _ b s_14 _ ⟨rfl, rfl, rfl⟩
        refine J_in_normal ?_
        refine J_cut_end _ ?_ ⟨rfl, rfl, rfl, rfl⟩ trivial
        exact ⟨rfl, rfl, trivial⟩
      · obtain ⟨rfl, ht⟩ := ht
        revert ht; revert PV; revert τ; revert b; revert L
        rintro _ b s_18 _ ⟨rfl, rfl, rfl⟩
        refine J_in_ret ?_
        refine J_cut_end _ ?_ ⟨rfl, rfl, rfl, rfl⟩ trivial
        exact ⟨rfl, trivial⟩
  · rintro (y_20 | y_24) e L b τ PV ht
    · obtain ⟨rfl, ht⟩ := ht
      revert ht; revert PV; revert τ; revert b; revert L
      rintro _ b s_23 _ ⟨rfl, rfl, rfl⟩
      refine J_then ?_
      refine J_seq ?_
      refine J_region ?_
      refine JL_op rfl (op_read rfl rfl (r_load_priv (a := c_4) (off := 0) (cs' := [.int .i64 y_20.Kind, .int .i64 y_20.N, .int .i64 y_20.Block]) (v := .agg #[.int .i64 y_20.Kind, .int .i64 y_20.N, .int .i64 y_20.Block]) 0 Try.pu29 Try.pi29 rfl rfl rfl rfl (by decide) rfl) ?_)
      refine JL_op rfl (op_store_priv (a := c_6) (off := 0) (vs := [.int .i64 y_20.Kind, .int .i64 y_20.N, .int .i64 y_20.Block]) (cs' := [.int .i64 y_20.Kind, .int .i64 y_20.N, .int .i64 y_20.Block]) (PV' := [.cell c_4 [.int .i64 y_20.Kind, .int .i64 y_20.N, .int .i64 y_20.Block], .cell c_6 [.int .i64 y_20.Kind, .int .i64 y_20.N, .int .i64 y_20.Block]]) 1 Try.pi29 rfl rfl rfl ⟨rfl, rfl, rfl, trivial⟩ rfl rfl rfl rfl rfl ?_)
      refine JL_nil ?_
      refine J_then ?_
      refine J_ret ?_
      exact J_returnV1 (PV' := []) rfl (rv_cell (cs := [.int .i64 y_20.Kind, .int .i64 y_20.N, .int .i64 y_20.Block]) (v := .agg #[.int .i64 y_20.Kind, .int .i64 y_20.N, .int .i64 y_20.Block]) 1 Try.pu29 Try.pi29 rfl rfl rfl (by decide) rfl) [] (by decide) rfl ⟨rfl, rfl, rfl⟩
    · obtain ⟨rfl, ht⟩ := ht
      revert ht; revert PV; revert τ; revert b; revert L
      rintro _ b s_27 _ ⟨rfl, rfl, rfl⟩
      refine J_then_ret ?_
      exact J_returnV1 (PV' := []) rfl (rv_cell (cs := [.int .i64 0, .int .i64 0, .int .i64 0]) (v := .agg #[.int .i64 0, .int .i64 0, .int .i64 0]) 0 Try.pu29 Try.pi29 rfl rfl rfl (by decide) rfl) [] (by decide) rfl ⟨rfl, rfl, rfl⟩
end Go.Px
