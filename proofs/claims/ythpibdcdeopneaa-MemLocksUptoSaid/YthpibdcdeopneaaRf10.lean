/- The calls do what the models say, part 10. -/
import Derived.Test.YthpibdcdeopneaaMd
import Derived.Test.YthpibdcdeopneaaRf1
import Derived.Test.YthpibdcdeopneaaRf2
import Derived.Test.YthpibdcdeopneaaRf4
namespace Go.Px
open Go.Proofs
set_option linter.unusedVariables false
def lychgatelaw06_MemLocks_post (σ0 : FS) (v_1 : Value) (script_2 : Sl Bool) (r : Bool) (σ : FS) (PV : List Priv) (v : Value) : Prop :=
  σ0 = σ ∧ .bool r = v ∧ PV = []
set_option maxRecDepth 100000 in
theorem lychgatelaw06_MemLocks_ref (s : Start) (σ : FS) (v_1 : Value) (script_2 : Sl Bool) (h_3 : (tSl tBool).vrel σ v_1 script_2) (hs : Pre s σ []) (r : Bool) (hr : lychgatelaw06_MemLocks script_2 = some r) : Does Try.prog 5 [v_1] s σ (lychgatelaw06_MemLocks_post σ v_1 script_2 r) := by
  unfold lychgatelaw06_MemLocks at hr
  refine does_of_J Try.func5 rfl (n := 62) rfl rfl hs hr ?_
  refine J_seq ?_
  refine J_region ?_
  refine JL_op rfl (op_read rfl rfl (r_assign (v := .bool false) rfl) ?_)
  refine JL_nil ?_
  refine J_then ?_
  refine J_seq ?_
  refine J_seq ?_
  refine J_region ?_
  refine JL_op rfl (op_call (f := 10) (fn := Try.f10) (args := []) (post := lychgatelaw06_wakes_post σ) [] [] rfl rfl rfl Try.func10 Try.pn10 rfl rfl (fun y st hy hpre => lychgatelaw06_wakes_ref st σ  hpre y hy) ?_)
  intro r_4 v_6 s_9 PV_7 hr_5 hle_10 hp_8
  obtain ⟨rfl, rfl, rfl⟩ := hp_8
  refine JL_op rfl (op_read rfl rfl (r_not rfl) ?_)
  refine JL_nil ?_
  refine J_then ?_
  refine J_cond rfl (fun hc_11 => ?_) (fun hc_11 => ?_)
  · refine J_seq ?_
    refine J_region ?_
    refine JL_op rfl (op_read rfl rfl (r_assign (v := .bool false) rfl) ?_)
    refine JL_nil ?_
    refine J_then ?_
    refine J_ret ?_
    refine J_then_ret ?_
    exact J_returnV1 (PV' := []) rfl rv_tmp [] (by decide) rfl ⟨rfl, rfl, rfl⟩
  · refine J_skip ?_
    refine J_then ?_
    refine J_seq ?_
    refine J_region ?_
    refine JL_op rfl (op_call (f := 11) (fn := Try.f11) (args := []) (post := mem_New_post σ) [] [] rfl rfl rfl Try.func11 Try.pn11 rfl rfl (fun y st hy hpre => mem_New_ref st σ  hpre y hy) ?_)
    intro r_12 v_14 s_17 PV_15 hr_13 hle_18 hp_16
    obtain ⟨c_20, v_22, rfl, rfl, rfl⟩ := hp_16
    refine JL_op rfl (op_read rfl rfl (r_assign (v := .pointer (some (Addr.add c_20 0))) rfl) ?_)
    refine JL_nil ?_
    refine J_then ?_
    refine J_seq ?_
    refine J_region ?_
    refine JL_op rfl (op_read rfl rfl (r_move (v := .pointer (some (Addr.add c_20 0))) rfl) ?_)
    refine JL_op rfl (op_call (f := 12) (fn := Try.f12) (args := [.pointer (some (Addr.add c_20 0)), .int .i64 1]) (post := mem_Memory_Alloc_post σ c_20 v_22 r_12 0 1) [.cell c_20 [v_22, .int .i64 0], .row o_Gmem_Block 45 v_22 r_12] [] rfl rfl rfl Try.func12 Try.pn12 rfl rfl (fun y st hy hpre => mem_Memory_Alloc_ref st σ c_20 v_22 r_12 0 1 hpre y hy) ?_)
    intro r_23 v_25 s_28 PV_26 hr_24 hle_29 hp_27
    obtain ⟨v_30, rfl, rfl, rfl⟩ := hp_27
    refine JL_op rfl (op_read rfl rfl (r_move (v := .tuple #[.agg #[.int .i64 r_23.1.Kind, .int .i64 r_23.1.N, .int .i64 r_23.1.Block], .bool r_23.2.1]) rfl) ?_)
    refine JL_op rfl (op_read rfl rfl (r_extract (v := .agg #[.int .i64 r_23.1.Kind, .int .i64 r_23.1.N, .int .i64 r_23.1.Block]) rfl rfl) ?_)
    refine JL_op rfl (op_read rfl rfl (r_extract (v := .bool r_23.2.1) rfl rfl) ?_)
    refine JL_op rfl (op_alloc (cs := [.int .i64 0, .int .i64 0, .int .i64 0]) rfl Try.pi29 rfl rfl ?_)
    intro c_31
    refine JL_op rfl (op_store_priv (a := c_31) (off := 0) (vs := [.int .i64 r_23.1.Kind, .int .i64 r_23.1.N, .int .i64 r_23.1.Block]) (cs' := [.int .i64 r_23.1.Kind, .int .i64 r_23.1.N, .int .i64 r_23.1.Block]) (PV' := [.cell c_31 [.int .i64 r_23.1.Kind, .int .i64 r_23.1.N, .int .i64 r_23.1.Block], .cell c_20 [v_30, .int .i64 r_23.2.2.2], .row o_Gmem_Block 45 v_30 r_23.2.2.1]) 0 Try.pi29 rfl rfl rfl ⟨rfl, rfl, rfl, trivial⟩ rfl rfl rfl rfl rfl ?_)
    refine JL_op rfl (op_read rfl rfl (r_assign (v := .bool r_23.2.1) rfl) ?_)
    refine JL_nil ?_
    refine J_then ?_
    refine J_seq ?_
    refine J_seq ?_
    refine J_region ?_
    refine JL_op rfl (op_read rfl rfl (r_move (v := .pointer (some (Addr.add c_20 0))) rfl) ?_)
    refine JL_op rfl (op_read rfl rfl (r_load_priv (a := c_31) (off := 0) (cs' := [.int .i64 r_23.1.Kind, .int .i64 r_23.1.N, .int .i64 r_23.1.Block]) (v := .agg #[.int .i64 r_23.1.Kind, .int .i64 r_23.1.N, .int .i64 r_23.1.Block]) 0 Try.pu29 Try.pi29 rfl rfl rfl rfl (by decide) rfl) ?_)
    refine J_select (PV' := [.cell c_20 [v_30, .int .i64 r_23.2.2.2], .row o_Gmem_Block 45 v_30 r_23.2.2.1, .cell c_31 [.int .i64 r_23.1.Kind, .int .i64 r_23.1.N, .int .i64 r_23.1.Block]]) [1, 2, 0] (by decide) rfl ?_
    refine JL_op rfl (op_call (f := 18) (fn := Try.f18) (args := [.pointer (some (Addr.add c_20 0)), .agg #[.int .i64 r_23.1.Kind, .int .i64 r_23.1.N, .int .i64 r_23.1.Block]]) (post := mem_Memory_Lock_post σ c_20 v_30 r_23.2.2.1 r_23.2.2.2 (.agg #[.int .i64 r_23.1.Kind, .int .i64 r_23.1.N, .int .i64 r_23.1.Block]) r_23.1) [.cell c_20 [v_30, .int .i64 r_23.2.2.2], .row o_Gmem_Block 45 v_30 r_23.2.2.1] [.cell c_31 [.int .i64 r_23.1.Kind, .int .i64 r_23.1.N, .int .i64 r_23.1.Block]] rfl rfl rfl Try.func18 Try.pn18 rfl rfl (fun y st hy hpre => mem_Memory_Lock_ref st σ c_20 v_30 r_23.2.2.1 r_23.2.2.2 (.agg #[.int .i64 r_23.1.Kind, .int .i64 r_23.1.N, .int .i64 r_23.1.Block]) r_23.1 (t_Gmem_Value_v.2 rfl) hpre y hy) ?_)
    intro r_33 v_35 s_38 PV_36 hr_34 hle_39 hp_37
    obtain ⟨rfl, rfl, rfl⟩ := hp_37
    refine JL_op rfl (op_read rfl rfl (r_move (v := .tuple #[.bool r_33.1, .int .i64 r_33.2.1]) rfl) ?_)
    refine JL_op rfl (op_read rfl rfl (r_extract (v := .bool r_33.1) rfl rfl) ?_)
    refine JL_op rfl (op_read rfl rfl (r_extract (v := .int .i64 r_33.2.1) rfl rfl) ?_)
    refine JL_op rfl (op_read rfl rfl (r_assign (v := .bool r_33.1) rfl) ?_)
    refine JL_op rfl (op_read rfl rfl (r_assign (v := .int .i64 r_33.2.1) rfl) ?_)
    refine JL_nil ?_
    refine J_then ?_
    refine J_seq ?_
    refine J_region ?_
    refine JL_op rfl (op_read rfl rfl (r_move (v := .int .i64 r_33.2.1) rfl) ?_)
    refine JL_op rfl (op_read rfl rfl (r_neq rfl rfl) ?_)
    refine JL_nil ?_
    refine J_then ?_
    refine J_cond rfl (fun hc_40 => ?_) (fun hc_40 => ?_)
    · refine J_seq ?_
      refine J_region ?_
      refine JL_op rfl (op_read rfl rfl (r_assign (v := .bool false) rfl) ?_)
      refine JL_nil ?_
      refine J_then ?_
      refine J_ret ?_
      refine J_then_ret ?_
      exact J_returnV1 (PV' := []) rfl rv_tmp [] (by decide) rfl ⟨rfl, rfl, rfl⟩
    · refine J_skip ?_
      refine J_then ?_
      refine J_seq ?_
      refine J_region ?_
      refine JL_op rfl (op_read rfl rfl (r_move (v := .pointer (some (Addr.add c_20 0))) rfl) ?_)
      refine JL_op rfl (op_read rfl rfl (r_load_priv (a := c_31) (off := 0) (cs' := [.int .i64 r_23.1.Kind, .int .i64 r_23.1.N, .int .i64 r_23.1.Block]) (v := .agg #[.int .i64 r_23.1.Kind, .int .i64 r_23.1.N, .int .i64 r_23.1.Block]) 2 Try.pu29 Try.pi29 rfl rfl rfl rfl (by decide) rfl) ?_)
      refine JL_op rfl (op_call (f := 15) (fn := Try.f15) (args := [.pointer (some (Addr.add c_20 0)), .agg #[.int .i64 r_23.1.Kind, .int .i64 r_23.1.N, .int .i64 r_23.1.Block], .bool true]) (post := mem_Memory_Begin_post σ c_20 v_30 r_33.2.2 r_23.2.2.2 (.agg #[.int .i64 r_23.1.Kind, .int .i64 r_23.1.N, .int .i64 r_23.1.Block]) r_23.1 true) [.cell c_20 [v_30, .int .i64 r_23.2.2.2], .row o_Gmem_Block 45 v_30 r_33.2.2] [.cell c_31 [.int .i64 r_23.1.Kind, .int .i64 r_23.1.N, .int .i64 r_23.1.Block]] rfl rfl rfl Try.func15 Try.pn15 rfl rfl (fun y st hy hpre => mem_Memory_Begin_ref st σ c_20 v_30 r_33.2.2 r_23.2.2.2 (.agg #[.int .i64 r_23.1.Kind, .int .i64 r_23.1.N, .int .i64 r_23.1.Block]) r_23.1 (t_Gmem_Value_v.2 rfl) true hpre y hy) ?_)
      intro r_41 v_43 s_46 PV_44 hr_42 hle_47 hp_45
      obtain ⟨rfl, rfl, rfl⟩ := hp_45
      refine JL_nil ?_
      refine J_then ?_
      refine J_seq ?_
      refine J_region ?_
      refine JL_op rfl (op_read rfl rfl (r_move (v := .pointer (some (Addr.add c_20 0))) rfl) ?_)
      refine JL_op rfl (op_read rfl rfl (r_load_priv (a := c_31) (off := 0) (cs' := [.int .i64 r_23.1.Kind, .int .i64 r_23.1.N, .int .i64 r_23.1.Block]) (v := .agg #[.int .i64 r_23.1.Kind, .int .i64 r_23.1.N, .int .i64 r_23.1.Block]) 2 Try.pu29 Try.pi29 rfl rfl rfl rfl (by decide) rfl) ?_)
      refine JL_op rfl (op_read rfl rfl (r_build (cs := [.int .i64 1, .int .i64 0, .int .i64 0]) (vs := [(0, .int .i64 1)]) (pcs := [(0, [.int .i64 1])]) (pls := [(0, 1), (1, 1), (2, 1)]) Try.pu29 Try.pi29 rfl (by kernel_rfl) rfl ⟨rfl, rfl, trivial⟩ rfl) ?_)
      refine JL_op rfl (op_call (f := 16) (fn := Try.f16) (args := [.pointer (some (Addr.add c_20 0)), .agg #[.int .i64 r_23.1.Kind, .int .i64 r_23.1.N, .int .i64 r_23.1.Block], .bool true, .agg #[.int .i64 1, .int .i64 0, .int .i64 0]]) (post := mem_Memory_End_post σ c_20 v_30 r_41.2 r_23.2.2.2 (.agg #[.int .i64 r_23.1.Kind, .int .i64 r_23.1.N, .int .i64 r_23.1.Block]) r_23.1 true (.agg #[.int .i64 1, .int .i64 0, .int .i64 0]) (⟨1, 0, 0⟩ : Gmem_Value)) [.cell c_20 [v_30, .int .i64 r_23.2.2.2], .row o_Gmem_Block 45 v_30 r_41.2] [.cell c_31 [.int .i64 r_23.1.Kind, .int .i64 r_23.1.N, .int .i64 r_23.1.Block]] rfl rfl rfl Try.func16 Try.pn16 rfl rfl (fun y st hy hpre => mem_Memory_End_ref st σ c_20 v_30 r_41.2 r_23.2.2.2 (.agg #[.int .i64 r_23.1.Kind, .int .i64 r_23.1.N, .int .i64 r_23.1.Block]) r_23.1 (t_Gmem_Value_v.2 rfl) true (.agg #[.int .i64 1, .int .i64 0, .int .i64 0]) (⟨1, 0, 0⟩ : Gmem_Value) (t_Gmem_Value_v.2 rfl) hpre y hy) ?_)
      intro r_48 v_50 s_53 PV_51 hr_49 hle_54 hp_52
      obtain ⟨rfl, rfl, rfl⟩ := hp_52
      refine JL_nil ?_
      refine J_then ?_
      refine J_seq ?_
      refine J_region ?_
      refine JL_op rfl (op_read rfl rfl (r_assign (v := .bool false) rfl) ?_)
      refine JL_nil ?_
      refine J_then ?_
      refine J_seq ?_
      refine J_seq ?_
      refine J_region ?_
      refine JL_op rfl (op_read rfl rfl (r_move (v := v_1) rfl) ?_)
      refine JL_op rfl (op_read rfl rfl (r_len_frozen (v := v_1) Try.pu23 rfl h_3) ?_)
      refine JL_op rfl (op_read rfl rfl (r_move (v := .int .i64 0) rfl) ?_)
      refine JL_nil ?_
      refine J_then ?_
      refine J_block ?_
      refine J_loop (fun (y : (Sl Gmem_Block) × Bool × Int) L τ PV => σ = τ ∧ L = [(3, .pointer (some (Addr.add c_20 0))), (4, .pointer (some (Addr.add c_31 0))), (8, .bool y.2.1), (36, v_1), (37, .int .i64 script_2.len), (38, .int .i64 y.2.2)] ∧ PV = [.cell c_20 [v_30, .int .i64 r_23.2.2.2], .row o_Gmem_Block 45 v_30 y.1, .cell c_31 [.int .i64 r_23.1.Kind, .int .i64 r_23.1.N, .int .i64 r_23.1.Block]]) (fun (y : W2 Unit Unit) e L τ PV => match y, e with | .a y, e => e = .exit 0 ∧ (σ = τ ∧ L = [] ∧ PV = []) | .b y, e => e = .ret ∧ (σ = τ ∧ L = [(2, .bool false)] ∧ PV = [])) _ ?_ ⟨rfl, rfl, rfl⟩ ?_ ?_
      · exact ⟨rfl, rfl, rfl, rfl, rfl, rfl, trivial⟩
      · rintro x_55 _ b s_58 _ ⟨rfl, rfl, rfl⟩
        unfold lychgatelaw06_MemLocks_L1
        refine J_seq ?_
        refine J_region ?_
        refine JL_op rfl (op_read rfl rfl (r_lss rfl rfl) ?_)
        refine JL_nil ?_
        refine J_then ?_
        refine J_seq ?_
        refine J_cond rfl (fun hc_59 => ?_) (fun hc_59 => ?_)
        · refine J_skip ?_
          refine J_then ?_
          refine J_seq ?_
          refine J_cut (fun (y : W2 ((Sl Gmem_Block) × Bool) Unit) e L τ PV => match y, e with | .a y, e => e = .normal ∧ (σ = τ ∧ L = [(3, .pointer (some (Addr.add c_20 0))), (4, .pointer (some (Addr.add c_31 0))), (8, .bool y.2), (36, v_1), (37, .int .i64 script_2.len), (38, .int .i64 x_55.2.2)] ∧ PV = [.cell c_20 [v_30, .int .i64 r_23.2.2.2], .row o_Gmem_Block 45 v_30 y.1, .cell c_31 [.int .i64 r_23.1.Kind, .int .i64 r_23.1.N, .int .i64 r_23.1.Block]]) | .b y, e => e = .ret ∧ (σ = τ ∧ L = [(2, .bool false)] ∧ PV = [])) ?_ ?_
          · refine J_block ?_
            refine J_seq ?_
            refine J_region ?_
            refine J_bind fun x_60 hx_61 => ?_
            refine JL_op rfl (op_read rfl rfl (r_index_frozen (v := v_1) (T := tBool) (q := x_60) Try.pu23 Try.pi4 rfl rfl rfl h_3 hx_61) ?_)
            refine JL_op rfl (op_reads rfl rfl (l_elem_frozen (v := v_1) (T := tBool) (Tf := tBool) (q := x_60) (i := x_55.2.2) (off := 0) Try.pu4 Try.pi4 rfl rfl rfl h_3 hx_61 (FieldAt.self _) (by decide)) ?_)
            intro v_62 h_63
            obtain rfl := tBool_v.1 h_63
            refine JL_op rfl (op_read rfl rfl (r_assign (v := .bool x_60) rfl) ?_)
            refine JL_nil ?_
            refine J_then ?_
            refine J_seq ?_
            refine J_seq ?_
            refine J_region ?_
            refine JL_op rfl (op_read rfl rfl (r_move (v := .bool x_60) rfl) ?_)
            refine JL_op rfl (op_read rfl rfl (r_not rfl) ?_)
            refine JL_nil ?_
            refine J_then ?_
            refine J_cond rfl (fun hc_64 => ?_) (fun hc_64 => ?_)
            · refine J_seq ?_
              refine J_seq ?_
              refine J_region ?_
              refine JL_op rfl (op_read rfl rfl (r_move (v := .pointer (some (Addr.add c_20 0))) rfl) ?_)
              refine JL_op rfl (op_read rfl rfl (r_load_priv (a := c_31) (off := 0) (cs' := [.int .i64 r_23.1.Kind, .int .i64 r_23.1.N, .int .i64 r_23.1.Block]) (v := .agg #[.int .i64 r_23.1.Kind, .int .i64 r_23.1.N, .int .i64 r_23.1.Block]) 2 Try.pu29 Try.pi29 rfl rfl rfl rfl (by decide) rfl) ?_)
              refine JL_op rfl (op_call (f := 19) (fn := Try.f19) (args := [.pointer (some (Addr.add c_20 0)), .agg #[.int .i64 r_23.1.Kind, .int .i64 r_23.1.N, .int .i64 r_23.1.Block]]) (post := mem_Memory_Unlock_post σ c_20 v_30 x_55.1 r_23.2.2.2 (.agg #[.int .i64 r_23.1.Kind, .int .i64 r_23.1.N, .int .i64 r_23.1.Block]) r_23.1) [.cell c_20 [v_30, .int .i64 r_23.2.2.2], .row o_Gmem_Block 45 v_30 x_55.1] [.cell c_31 [.int .i64 r_23.1.Kind, .int .i64 r_23.1.N, .int .i64 r_23.1.Block]] rfl rfl rfl Try.func19 Try.pn19 rfl rfl (fun y st hy hpre => mem_Memory_Unlock_ref st σ c_20 v_30 x_55.1 r_23.2.2.2 (.agg #[.int .i64 r_23.1.Kind, .int .i64 r_23.1.N, .int .i64 r_23.1.Block]) r_23.1 (t_Gmem_Value_v.2 rfl) hpre y hy) ?_)
              intro r_65 v_67 s_70 PV_68 hr_66 hle_71 hp_69
              obtain ⟨rfl, rfl, rfl⟩ := hp_69
              refine JL_op rfl (op_read rfl rfl (r_neq rfl rfl) ?_)
              refine JL_nil ?_
              refine J_then ?_
              refine J_cond rfl (fun hc_72 => ?_) (fun hc_72 => ?_)
              · refine J_seq ?_
                refine J_region ?_
                refine JL_op rfl (op_read rfl rfl (r_assign (v := .bool false) rfl) ?_)
                refine JL_nil ?_
                refine J_then ?_
                refine J_ret ?_
                refine J_then_ret ?_
                refine J_then_ret ?_
                refine J_in_ret ?_
                refine J_select (PV' := []) [] (by decide) rfl ?_
                refine J_cut_end _ ?_ ⟨rfl, rfl, rfl, rfl⟩ trivial
                exact ⟨rfl, trivial⟩
              · refine J_skip ?_
                refine J_then ?_
                refine J_seq ?_
                refine J_region ?_
                refine JL_op rfl (op_read rfl rfl (r_assign (v := .bool false) rfl) ?_)
                refine JL_nil ?_
                refine J_then ?_
                refine J_exit ?_
                refine J_then_exit ?_
                refine J_in_exit ?_
                refine J_cut_end _ ?_ ⟨rfl, rfl, rfl, rfl⟩ trivial
                exact ⟨rfl, rfl, rfl, rfl, rfl, rfl, trivial⟩
            · refine J_skip ?_
              refine J_then ?_
              refine J_seq ?_
              refine J_region ?_
              refine JL_op rfl (op_read rfl rfl (r_move (v := .pointer (some (Addr.add c_20 0))) rfl) ?_)
              refine JL_op rfl (op_read rfl rfl (r_load_priv (a := c_31) (off := 0) (cs' := [.int .i64 r_23.1.Kind, .int .i64 r_23.1.N, .int .i64 r_23.1.Block]) (v := .agg #[.int .i64 r_23.1.Kind, .int .i64 r_23.1.N, .int .i64 r_23.1.Block]) 2 Try.pu29 Try.pi29 rfl rfl rfl rfl (by decide) rfl) ?_)
              refine JL_op rfl (op_call (f := 18) (fn := Try.f18) (args := [.pointer (some (Addr.add c_20 0)), .agg #[.int .i64 r_23.1.Kind, .int .i64 r_23.1.N, .int .i64 r_23.1.Block]]) (post := mem_Memory_Lock_post σ c_20 v_30 x_55.1 r_23.2.2.2 (.agg #[.int .i64 r_23.1.Kind, .int .i64 r_23.1.N, .int .i64 r_23.1.Block]) r_23.1) [.cell c_20 [v_30, .int .i64 r_23.2.2.2], .row o_Gmem_Block 45 v_30 x_55.1] [.cell c_31 [.int .i64 r_23.1.Kind, .int .i64 r_23.1.N, .int .i64 r_23.1.Block]] rfl rfl rfl Try.func18 Try.pn18 rfl rfl (fun y st hy hpre => mem_Memory_Lock_ref st σ c_20 v_30 x_55.1 r_23.2.2.2 (.agg #[.int .i64 r_23.1.Kind, .int .i64 r_23.1.N, .int .i64 r_23.1.Block]) r_23.1 (t_Gmem_Value_v.2 rfl) hpre y hy) ?_)
              intro r_73 v_75 s_78 PV_76 hr_74 hle_79 hp_77
              obtain ⟨rfl, rfl, rfl⟩ := hp_77
              refine JL_op rfl (op_read rfl rfl (r_move (v := .tuple #[.bool r_73.1, .int .i64 r_73.2.1]) rfl) ?_)
              refine JL_op rfl (op_read rfl rfl (r_extract (v := .bool r_73.1) rfl rfl) ?_)
              refine JL_op rfl (op_read rfl rfl (r_extract (v := .int .i64 r_73.2.1) rfl rfl) ?_)
              refine JL_op rfl (op_read rfl rfl (r_assign (v := .bool r_73.1) rfl) ?_)
              refine JL_op rfl (op_read rfl rfl (r_assign (v := .int .i64 r_73.2.1) rfl) ?_)
              refine JL_nil ?_
              refine J_then ?_
              refine J_seq ?_
              refine J_seq ?_
              refine J_region ?_
              refine JL_op rfl (op_read rfl rfl (r_move (v := .int .i64 r_73.2.1) rfl) ?_)
              refine JL_op rfl (op_read rfl rfl (r_neq rfl rfl) ?_)
              refine JL_op rfl (op_read rfl rfl (r_move (v := .bool (decide (r_73.2.1 ≠ 0))) rfl) ?_)
              refine J_forkL (e := (decide (r_73.2.1 ≠ 0))) 4 [(3, .pointer (some (Addr.add c_20 0))), (4, .pointer (some (Addr.add c_31 0))), (36, v_1), (37, .int .i64 script_2.len), (38, .int .i64 x_55.2.2), (60, .bool (decide (r_73.2.1 ≠ 0) || (r_73.1 == x_55.2.1)))] (fun hc_80 hk => ?_) (fun hc_80 hk => ?_) (fun b => ?_)
              · refine JL_skip rfl rfl hc_80 rfl rfl ?_
                refine JL_skip rfl rfl hc_80 rfl rfl ?_
                refine JL_skip rfl rfl hc_80 rfl rfl ?_
                refine JL_op rfl (op_read rfl rfl (r_pick_t (v := .bool true) rfl hc_80 rfl) ?_)
                refine J_prune [(3, .pointer (some (Addr.add c_20 0))), (4, .pointer (some (Addr.add c_31 0))), (36, v_1), (37, .int .i64 script_2.len), (38, .int .i64 x_55.2.2), (60, .bool (decide (r_73.2.1 ≠ 0) || (r_73.1 == x_55.2.1)))] ⟨rfl, rfl, rfl, rfl, rfl, (by show Value.bool _ = Value.bool _; rw [hc_80]; rfl), trivial⟩ hk
              · refine JL_opg rfl rfl hc_80 (op_read rfl rfl (r_move (v := .bool r_73.1) rfl) ?_)
                refine JL_opg rfl rfl hc_80 (op_read rfl rfl (r_move (v := .bool x_55.2.1) rfl) ?_)
                refine JL_opg rfl rfl hc_80 (op_read rfl rfl (r_beql Try.pu4 rfl rfl) ?_)
                refine JL_op rfl (op_read rfl rfl (r_pick_f (v := .bool (r_73.1 == x_55.2.1)) rfl hc_80 rfl) ?_)
                refine J_prune [(3, .pointer (some (Addr.add c_20 0))), (4, .pointer (some (Addr.add c_31 0))), (36, v_1), (37, .int .i64 script_2.len), (38, .int .i64 x_55.2.2), (60, .bool (decide (r_73.2.1 ≠ 0) || (r_73.1 == x_55.2.1)))] ⟨rfl, rfl, rfl, rfl, rfl, (by show Value.bool _ = Value.bool _; rw [hc_80]; rfl), trivial⟩ hk
              · refine JL_nil ?_
                refine J_then ?_
                refine J_cond rfl (fun hc_81 => ?_) (fun hc_81 => ?_)
                · refine J_seq ?_
                  refine J_region ?_
                  refine JL_op rfl (op_read rfl rfl (r_assign (v := .bool false) rfl) ?_)
                  refine JL_nil ?_
                  refine J_then ?_
                  refine J_ret ?_
                  refine J_then_ret ?_
                  refine J_in_ret ?_
                  refine J_select (PV' := []) [] (by decide) rfl ?_
                  refine J_cut_end _ ?_ ⟨rfl, rfl, rfl, rfl⟩ trivial
                  exact ⟨rfl, trivial⟩
                · refine J_skip ?_
                  refine J_then ?_
                  refine J_region ?_
                  refine JL_op rfl (op_read rfl rfl (r_assign (v := .bool true) rfl) ?_)
                  refine JL_nil ?_
                  refine J_in_normal ?_
                  refine J_cut_end _ ?_ ⟨rfl, rfl, rfl, rfl⟩ trivial
                  exact ⟨rfl, rfl, rfl, rfl, rfl, rfl, trivial⟩
          · rintro (y_83 | y_87) e L b τ PV ht
            · obtain ⟨rfl, ht⟩ := ht
              revert ht; revert PV; revert τ; revert b; revert L
              rintro _ b s_86 _ ⟨rfl, rfl, rfl⟩
              refine J_then ?_
              refine J_region ?_
              refine JL_op rfl (op_read rfl rfl (r_add rfl rfl) ?_)
              refine JL_op rfl (op_read rfl rfl (r_move (v := .int .i64 (IntKind.i64.wrap (x_55.2.2 + 1))) rfl) ?_)
              refine JL_nil ?_
              refine J_next _ ?_ ⟨rfl, rfl, rfl⟩
              exact ⟨rfl, rfl, rfl, rfl, rfl, rfl, trivial⟩
            · obtain ⟨rfl, ht⟩ := ht
              revert ht; revert PV; revert τ; revert b; revert L
              rintro _ b s_90 _ ⟨rfl, rfl, rfl⟩
              refine J_then_ret ?_
              refine J_done trivial _ ?_ ⟨rfl, rfl, rfl, rfl⟩
              exact ⟨rfl, trivial⟩
        · refine J_exit ?_
          refine J_then_exit ?_
          refine J_select (PV' := []) [] (by decide) rfl ?_
          refine J_done trivial _ ?_ ⟨rfl, rfl, rfl, rfl⟩
          exact trivial
      · rintro (y_92 | y_96) e L b τ PV ht
        · obtain ⟨rfl, ht⟩ := ht
          revert ht; revert PV; revert τ; revert b; revert L
          rintro _ b s_95 _ ⟨rfl, rfl, rfl⟩
          refine J_in_exit ?_
          refine J_then ?_
          refine J_seq ?_
          refine J_region ?_
          refine JL_op rfl (op_read rfl rfl (r_assign (v := .bool true) rfl) ?_)
          refine JL_nil ?_
          refine J_then ?_
          refine J_ret ?_
          exact J_returnV1 (PV' := []) rfl rv_tmp [] (by decide) rfl ⟨rfl, rfl, rfl⟩
        · obtain ⟨rfl, ht⟩ := ht
          revert ht; revert PV; revert τ; revert b; revert L
          rintro _ b s_99 _ ⟨rfl, rfl, rfl⟩
          refine J_in_ret ?_
          refine J_then_ret ?_
          exact J_returnV1 (PV' := []) rfl rv_tmp [] (by decide) rfl ⟨rfl, rfl, rfl⟩
end Go.Px
