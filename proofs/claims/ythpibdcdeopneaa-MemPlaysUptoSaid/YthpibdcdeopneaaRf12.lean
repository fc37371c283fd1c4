/- The calls do what the models say, part 12. -/
import Derived.Test.YthpibdcdeopneaaMd
import Derived.Test.YthpibdcdeopneaaRf1
import Derived.Test.YthpibdcdeopneaaRf2
import Derived.Test.YthpibdcdeopneaaRf3
import Derived.Test.YthpibdcdeopneaaRf4
import Derived.Test.YthpibdcdeopneaaRf5
import Derived.Test.YthpibdcdeopneaaRf6
import Derived.Test.YthpibdcdeopneaaRf7
import Derived.Test.YthpibdcdeopneaaRf8
namespace Go.Px
open Go.Proofs
set_option linter.unusedVariables false
def lychgatelaw06_MemPlays_post (σ0 : FS) (v_1 : Value) (script_2 : Sl Glychgatelaw06_Op) (r : Bool) (σ : FS) (PV : List Priv) (v : Value) : Prop :=
  σ0 = σ ∧ .bool r = v ∧ PV = []
set_option maxRecDepth 100000 in
theorem lychgatelaw06_MemPlays_ref (s : Start) (σ : FS) (v_1 : Value) (script_2 : Sl Glychgatelaw06_Op) (h_3 : (tSl t_Glychgatelaw06_Op).vrel σ v_1 script_2) (hs : Pre s σ []) (r : Bool) (hr : lychgatelaw06_MemPlays script_2 = some r) : Does Try.prog 7 [v_1] s σ (lychgatelaw06_MemPlays_post σ v_1 script_2 r) := by
  unfold lychgatelaw06_MemPlays at hr
  refine does_of_J Try.func7 rfl (n := 37) rfl rfl hs hr ?_
  refine J_seq ?_
  refine J_region ?_
  refine JL_op rfl (op_read rfl rfl (r_assign (v := .bool false) rfl) ?_)
  refine JL_nil ?_
  refine J_then ?_
  refine J_seq ?_
  refine J_region ?_
  refine JL_op rfl (op_call (f := 11) (fn := Try.f11) (args := []) (post := mem_New_post σ) [] [] rfl rfl rfl Try.func11 Try.pn11 rfl rfl (fun y st hy hpre => mem_New_ref st σ  hpre y hy) ?_)
  intro r_4 v_6 s_9 PV_7 hr_5 hle_10 hp_8
  obtain ⟨c_12, v_14, rfl, rfl, rfl⟩ := hp_8
  refine JL_op rfl (op_read rfl rfl (r_build (cs := [.slice none 0 0, .slice none 0 0, .slice none 0 0, .int .i64 0]) (vs := []) (pcs := []) (pls := [(0, 1), (1, 1), (2, 1), (3, 1)]) Try.pu56 Try.pi56 rfl (by kernel_rfl) rfl trivial rfl) ?_)
  refine JL_op rfl (op_box (cs := [.slice none 0 0, .slice none 0 0, .slice none 0 0, .int .i64 0]) rfl rfl ?_)
  intro c_15
  refine JL_op rfl (op_read rfl rfl (r_assign (v := .pointer (some (Addr.add c_12 0))) rfl) ?_)
  refine JL_op rfl (op_read rfl rfl (r_assign (v := .pointer (some (Addr.add c_15 0))) rfl) ?_)
  refine JL_nil ?_
  refine J_then ?_
  refine J_seq ?_
  refine J_seq ?_
  refine J_region ?_
  refine JL_op rfl (op_call (f := 10) (fn := Try.f10) (args := []) (post := lychgatelaw06_wakes_post σ) [] [.cell c_15 [.slice none 0 0, .slice none 0 0, .slice none 0 0, .int .i64 0], .cell c_12 [v_14, .int .i64 0], .row o_Gmem_Block 45 v_14 r_4] rfl rfl rfl Try.func10 Try.pn10 rfl rfl (fun y st hy hpre => lychgatelaw06_wakes_ref st σ  hpre y hy) ?_)
  intro r_17 v_19 s_22 PV_20 hr_18 hle_23 hp_21
  obtain ⟨rfl, rfl, rfl⟩ := hp_21
  refine JL_op rfl (op_read rfl rfl (r_not rfl) ?_)
  refine JL_nil ?_
  refine J_then ?_
  refine J_cond rfl (fun hc_24 => ?_) (fun hc_24 => ?_)
  · refine J_seq ?_
    refine J_region ?_
    refine JL_op rfl (op_read rfl rfl (r_assign (v := .bool false) rfl) ?_)
    refine JL_nil ?_
    refine J_then ?_
    refine J_ret ?_
    refine J_then_ret ?_
    exact J_returnV1 (PV' := []) rfl rv_tmp [] (by decide) rfl ⟨rfl, rfl, rfl⟩
  · refine J_skip ?_
    refine J_then ?_
    refine J_seq ?_
    refine J_seq ?_
    refine J_region ?_
    refine JL_op rfl (op_read rfl rfl (r_move (v := v_1) rfl) ?_)
    refine JL_op rfl (op_read rfl rfl (r_move (v := v_1) rfl) ?_)
    refine JL_op rfl (op_read rfl rfl (r_len_frozen (v := v_1) Try.pu52 rfl h_3) ?_)
    refine JL_op rfl (op_read rfl rfl (r_min rfl rfl) ?_)
    refine J_bind fun s_27 hs_28 => ?_
    refine JL_op rfl (op_reads rfl rfl (l_slice_frozen (v := v_1) (T := t_Glychgatelaw06_Op) (s' := s_27) (i := 0) (j := (if 300 < script_2.len then 300 else script_2.len)) Try.pu52 Try.pi58 rfl rfl h_3 rfl ⟨_, rfl⟩ hs_28) ?_)
    intro v_25 h_26
    refine JL_op rfl (op_read rfl rfl (r_len_frozen (v := v_25) Try.pu52 rfl h_26) ?_)
    refine JL_op rfl (op_read rfl rfl (r_move (v := .int .i64 0) rfl) ?_)
    refine JL_nil ?_
    refine J_then ?_
    refine J_block ?_
    refine J_nil_row (tBool).o 4 ?_
    refine J_nil_row ((tInt .i64)).o 2 ?_
    refine J_nil_row (t_Glychgateref06_Cell).o 85 ?_
    refine J_select (PV' := [.cell c_12 [v_14, .int .i64 0], .row o_Gmem_Block 45 v_14 r_4, .cell c_15 [(.slice none 0 0), (.slice none 0 0), (.slice none 0 0), .int .i64 0], .row (tBool).o 4 (.slice none 0 0) (⟨[], false⟩ : Sl Bool), .row ((tInt .i64)).o 2 (.slice none 0 0) (⟨[], false⟩ : Sl Int), .row (t_Glychgateref06_Cell).o 85 (.slice none 0 0) (⟨[], false⟩ : Sl Glychgateref06_Cell)]) [4, 5, 3, 2, 1, 0] (by decide) rfl ?_
    refine J_loop (fun (y : (Sl Gmem_Block) × Int × (Sl Bool) × (Sl Int) × (Sl Glychgateref06_Cell) × Int × Int) L τ PV => ∃ (w0 : Value) (w1 : Value) (w2 : Value) (w3 : Value), σ = τ ∧ L = [(3, .pointer (some (Addr.add c_12 0))), (4, .pointer (some (Addr.add c_15 0))), (16, v_25), (17, .int .i64 s_27.len), (18, .int .i64 y.2.2.2.2.2.2)] ∧ PV = [.cell c_12 [w0, .int .i64 y.2.1], .row o_Gmem_Block 45 w0 y.1, .cell c_15 [w1, w2, w3, .int .i64 y.2.2.2.2.2.1], .row (tBool).o 4 w1 y.2.2.1, .row ((tInt .i64)).o 2 w2 y.2.2.2.1, .row (t_Glychgateref06_Cell).o 85 w3 y.2.2.2.2.1]) (fun (y : W2 Unit Unit) e L τ PV => match y, e with | .a y, e => e = .exit 0 ∧ (σ = τ ∧ L = [] ∧ PV = []) | .b y, e => e = .ret ∧ (σ = τ ∧ L = [(2, .bool false)] ∧ PV = [])) _ ?_ ⟨v_14, (.slice none 0 0), (.slice none 0 0), (.slice none 0 0), rfl, rfl, rfl⟩ ?_ ?_
    · exact ⟨rfl, rfl, rfl, rfl, rfl, trivial⟩
    · rintro x_32 _ b s_42 _ ⟨v_35, v_37, v_39, v_41, rfl, rfl, rfl⟩
      unfold lychgatelaw06_MemPlays_L1
      refine J_seq ?_
      refine J_region ?_
      refine JL_op rfl (op_read rfl rfl (r_lss rfl rfl) ?_)
      refine JL_nil ?_
      refine J_then ?_
      refine J_seq ?_
      refine J_cond rfl (fun hc_43 => ?_) (fun hc_43 => ?_)
      · refine J_skip ?_
        refine J_then ?_
        refine J_seq ?_
        refine J_block ?_
        refine J_seq ?_
        refine J_region ?_
        refine J_bind fun x_44 hx_45 => ?_
        refine JL_op rfl (op_read rfl rfl (r_index_frozen (v := v_25) (T := t_Glychgatelaw06_Op) (q := x_44) Try.pu52 Try.pi58 rfl rfl rfl h_26 hx_45) ?_)
        refine JL_op rfl (op_reads rfl rfl (l_elem_frozen (v := v_25) (T := t_Glychgatelaw06_Op) (Tf := t_Glychgatelaw06_Op) (q := x_44) (i := x_32.2.2.2.2.2.2) (off := 0) Try.pu58 Try.pi58 rfl rfl rfl h_26 hx_45 (FieldAt.self _) (by decide)) ?_)
        intro v_46 h_47
        obtain rfl := t_Glychgatelaw06_Op_v.1 h_47
        refine JL_op rfl (op_alloc (cs := [.int .i64 0, .int .i64 0, .int .i64 0, .int .i64 0, .int .i64 0, .int .i64 0, .int .i64 0, .bool false]) rfl Try.pi58 rfl rfl ?_)
        intro c_48
        refine JL_op rfl (op_store_priv (a := c_48) (off := 0) (vs := [.int .i64 x_44.Kind, .int .i64 x_44.P.Kind, .int .i64 x_44.P.N, .int .i64 x_44.P.Block, .int .i64 x_44.V.Kind, .int .i64 x_44.V.N, .int .i64 x_44.V.Block, .bool x_44.Write]) (cs' := [.int .i64 x_44.Kind, .int .i64 x_44.P.Kind, .int .i64 x_44.P.N, .int .i64 x_44.P.Block, .int .i64 x_44.V.Kind, .int .i64 x_44.V.N, .int .i64 x_44.V.Block, .bool x_44.Write]) (PV' := [.cell c_48 [.int .i64 x_44.Kind, .int .i64 x_44.P.Kind, .int .i64 x_44.P.N, .int .i64 x_44.P.Block, .int .i64 x_44.V.Kind, .int .i64 x_44.V.N, .int .i64 x_44.V.Block, .bool x_44.Write], .cell c_12 [v_35, .int .i64 x_32.2.1], .row o_Gmem_Block 45 v_35 x_32.1, .cell c_15 [v_37, v_39, v_41, .int .i64 x_32.2.2.2.2.2.1], .row (tBool).o 4 v_37 x_32.2.2.1, .row ((tInt .i64)).o 2 v_39 x_32.2.2.2.1, .row (t_Glychgateref06_Cell).o 85 v_41 x_32.2.2.2.2.1]) 0 Try.pi58 rfl rfl rfl ⟨rfl, rfl, rfl, rfl, rfl, rfl, rfl, rfl, trivial⟩ rfl rfl rfl rfl rfl ?_)
        refine JL_nil ?_
        refine J_then ?_
        refine J_seq ?_
        refine J_region ?_
        refine JL_op rfl (op_read rfl rfl (r_move (v := .pointer (some (Addr.add c_12 0))) rfl) ?_)
        refine JL_op rfl (op_read rfl rfl (r_move (v := .pointer (some (Addr.add c_15 0))) rfl) ?_)
        refine JL_op rfl (op_read rfl rfl (r_load_priv (a := c_48) (off := 0) (cs' := [.int .i64 x_44.Kind, .int .i64 x_44.P.Kind, .int .i64 x_44.P.N, .int .i64 x_44.P.Block, .int .i64 x_44.V.Kind, .int .i64 x_44.V.N, .int .i64 x_44.V.Block, .bool x_44.Write]) (v := .agg #[.int .i64 x_44.Kind, .int .i64 x_44.P.Kind, .int .i64 x_44.P.N, .int .i64 x_44.P.Block, .int .i64 x_44.V.Kind, .int .i64 x_44.V.N, .int .i64 x_44.V.Block, .bool x_44.Write]) 0 Try.pu58 Try.pi58 rfl rfl rfl rfl (by decide) rfl) ?_)
        refine J_select (PV' := [.cell c_12 [v_35, .int .i64 x_32.2.1], .row o_Gmem_Block 45 v_35 x_32.1, .cell c_15 [v_37, v_39, v_41, .int .i64 x_32.2.2.2.2.2.1], .row (tBool).o 4 v_37 x_32.2.2.1, .row ((tInt .i64)).o 2 v_39 x_32.2.2.2.1, .row (t_Glychgateref06_Cell).o 85 v_41 x_32.2.2.2.2.1, .cell c_48 [.int .i64 x_44.Kind, .int .i64 x_44.P.Kind, .int .i64 x_44.P.N, .int .i64 x_44.P.Block, .int .i64 x_44.V.Kind, .int .i64 x_44.V.N, .int .i64 x_44.V.Block, .bool x_44.Write]]) [1, 2, 3, 4, 5, 6, 0] (by decide) rfl ?_
        refine JL_op rfl (op_call (f := 20) (fn := Try.f20) (args := [.pointer (some (Addr.add c_12 0)), .pointer (some (Addr.add c_15 0)), .agg #[.int .i64 x_44.Kind, .int .i64 x_44.P.Kind, .int .i64 x_44.P.N, .int .i64 x_44.P.Block, .int .i64 x_44.V.Kind, .int .i64 x_44.V.N, .int .i64 x_44.V.Block, .bool x_44.Write]]) (post := lychgatelaw06_step_post σ c_12 v_35 x_32.1 x_32.2.1 c_15 v_37 x_32.2.2.1 v_39 x_32.2.2.2.1 v_41 x_32.2.2.2.2.1 x_32.2.2.2.2.2.1 (.agg #[.int .i64 x_44.Kind, .int .i64 x_44.P.Kind, .int .i64 x_44.P.N, .int .i64 x_44.P.Block, .int .i64 x_44.V.Kind, .int .i64 x_44.V.N, .int .i64 x_44.V.Block, .bool x_44.Write]) x_44) [.cell c_12 [v_35, .int .i64 x_32.2.1], .row o_Gmem_Block 45 v_35 x_32.1, .cell c_15 [v_37, v_39, v_41, .int .i64 x_32.2.2.2.2.2.1], .row (tBool).o 4 v_37 x_32.2.2.1, .row ((tInt .i64)).o 2 v_39 x_32.2.2.2.1, .row (t_Glychgateref06_Cell).o 85 v_41 x_32.2.2.2.2.1] [.cell c_48 [.int .i64 x_44.Kind, .int .i64 x_44.P.Kind, .int .i64 x_44.P.N, .int .i64 x_44.P.Block, .int .i64 x_44.V.Kind, .int .i64 x_44.V.N, .int .i64 x_44.V.Block, .bool x_44.Write]] rfl rfl rfl Try.func20 Try.pn20 rfl rfl (fun y st hy hpre => lychgatelaw06_step_ref st σ c_12 v_35 x_32.1 x_32.2.1 c_15 v_37 x_32.2.2.1 v_39 x_32.2.2.2.1 v_41 x_32.2.2.2.2.1 x_32.2.2.2.2.2.1 (.agg #[.int .i64 x_44.Kind, .int .i64 x_44.P.Kind, .int .i64 x_44.P.N, .int .i64 x_44.P.Block, .int .i64 x_44.V.Kind, .int .i64 x_44.V.N, .int .i64 x_44.V.Block, .bool x_44.Write]) x_44 (t_Glychgatelaw06_Op_v.2 rfl) hpre y hy) ?_)
        intro r_50 v_52 s_55 PV_53 hr_51 hle_56 hp_54
        obtain ⟨v_57, v_58, v_59, v_60, rfl, rfl, rfl⟩ := hp_54
        refine JL_op rfl (op_read rfl rfl (r_not rfl) ?_)
        refine JL_op rfl (op_read rfl rfl (r_move (v := .bool (!r_50.1)) rfl) ?_)
        refine J_forkLB (e := (!r_50.1)) 8 (fun (y : Bool) L τ PV => σ = τ ∧ L = [(3, .pointer (some (Addr.add c_12 0))), (4, .pointer (some (Addr.add c_15 0))), (16, v_25), (17, .int .i64 s_27.len), (18, .int .i64 x_32.2.2.2.2.2.2), (35, .bool y)] ∧ PV = [.cell c_12 [v_57, .int .i64 r_50.2.2.1], .row o_Gmem_Block 45 v_57 r_50.2.1, .cell c_15 [v_58, v_59, v_60, .int .i64 r_50.2.2.2.2.2.2], .row (tBool).o 4 v_58 r_50.2.2.2.1, .row ((tInt .i64)).o 2 v_59 r_50.2.2.2.2.1, .row (t_Glychgateref06_Cell).o 85 v_60 r_50.2.2.2.2.2.1]) (fun hc_61 hk => ?_) (fun hc_61 hk => ?_) ?_
        · refine JL_skip rfl rfl hc_61 rfl rfl ?_
          refine JL_skip rfl rfl hc_61 rfl rfl ?_
          refine JL_skip rfl rfl hc_61 rfl rfl ?_
          refine JL_skip rfl rfl hc_61 rfl rfl ?_
          refine JL_skip rfl rfl hc_61 rfl rfl ?_
          refine JL_skip rfl rfl hc_61 rfl rfl ?_
          refine JL_skip rfl rfl hc_61 rfl rfl ?_
          refine JL_op rfl (op_read rfl rfl (r_pick_t (v := .bool true) rfl hc_61 rfl) ?_)
          refine J_select (PV' := [.cell c_12 [v_57, .int .i64 r_50.2.2.1], .row o_Gmem_Block 45 v_57 r_50.2.1, .cell c_15 [v_58, v_59, v_60, .int .i64 r_50.2.2.2.2.2.2], .row (tBool).o 4 v_58 r_50.2.2.2.1, .row ((tInt .i64)).o 2 v_59 r_50.2.2.2.2.1, .row (t_Glychgateref06_Cell).o 85 v_60 r_50.2.2.2.2.2.1]) [0, 1, 2, 3, 4, 5] (by decide) rfl ?_
          refine J_prune _ ?_ fun b => hk true _ b _ _ ⟨rfl, rfl, rfl⟩
          exact ⟨rfl, rfl, rfl, rfl, rfl, rfl, trivial⟩
        · refine JL_opg rfl rfl hc_61 (op_read rfl rfl (r_move (v := .pointer (some (Addr.add c_12 0))) rfl) ?_)
          refine J_assoc ?_
          refine JL_opg rfl rfl hc_61 (op_call (f := 17) (fn := Try.f17) (args := [.pointer (some (Addr.add c_12 0))]) (post := mem_Memory_Blocks_post σ c_12 v_57 r_50.2.1 r_50.2.2.1) [.cell c_12 [v_57, .int .i64 r_50.2.2.1], .row o_Gmem_Block 45 v_57 r_50.2.1] [.cell c_15 [v_58, v_59, v_60, .int .i64 r_50.2.2.2.2.2.2], .row (tBool).o 4 v_58 r_50.2.2.2.1, .row ((tInt .i64)).o 2 v_59 r_50.2.2.2.2.1, .row (t_Glychgateref06_Cell).o 85 v_60 r_50.2.2.2.2.2.1, .cell c_48 [.int .i64 x_44.Kind, .int .i64 x_44.P.Kind, .int .i64 x_44.P.N, .int .i64 x_44.P.Block, .int .i64 x_44.V.Kind, .int .i64 x_44.V.N, .int .i64 x_44.V.Block, .bool x_44.Write]] rfl rfl rfl Try.func17 Try.pn17 rfl rfl (fun y st hy hpre => mem_Memory_Blocks_ref st σ c_12 v_57 r_50.2.1 r_50.2.2.1 hpre y hy) ?_)
          intro r_63 v_65 s_68 PV_66 hr_64 hle_69 hp_67
          obtain ⟨v_71, rfl, rfl, rfl⟩ := hp_67
          refine JL_opg rfl rfl hc_61 (op_read rfl rfl (r_move (v := .pointer (some (Addr.add c_12 0))) rfl) ?_)
          refine J_select (PV' := [.cell c_12 [v_57, .int .i64 r_50.2.2.1], .row o_Gmem_Block 45 v_57 r_50.2.1, .row o_Gmem_Block 45 v_71 r_63, .cell c_15 [v_58, v_59, v_60, .int .i64 r_50.2.2.2.2.2.2], .row (tBool).o 4 v_58 r_50.2.2.2.1, .row ((tInt .i64)).o 2 v_59 r_50.2.2.2.2.1, .row (t_Glychgateref06_Cell).o 85 v_60 r_50.2.2.2.2.2.1, .cell c_48 [.int .i64 x_44.Kind, .int .i64 x_44.P.Kind, .int .i64 x_44.P.N, .int .i64 x_44.P.Block, .int .i64 x_44.V.Kind, .int .i64 x_44.V.N, .int .i64 x_44.V.Block, .bool x_44.Write]]) [1, 2, 0, 3, 4, 5, 6, 7] (by decide) rfl ?_
          refine J_assoc ?_
          refine JL_opg rfl rfl hc_61 (op_call (f := 13) (fn := Try.f13) (args := [.pointer (some (Addr.add c_12 0))]) (post := mem_Memory_Used_post σ c_12 v_57 r_50.2.1 r_50.2.2.1) [.cell c_12 [v_57, .int .i64 r_50.2.2.1], .row o_Gmem_Block 45 v_57 r_50.2.1] [.row o_Gmem_Block 45 v_71 r_63, .cell c_15 [v_58, v_59, v_60, .int .i64 r_50.2.2.2.2.2.2], .row (tBool).o 4 v_58 r_50.2.2.2.1, .row ((tInt .i64)).o 2 v_59 r_50.2.2.2.2.1, .row (t_Glychgateref06_Cell).o 85 v_60 r_50.2.2.2.2.2.1, .cell c_48 [.int .i64 x_44.Kind, .int .i64 x_44.P.Kind, .int .i64 x_44.P.N, .int .i64 x_44.P.Block, .int .i64 x_44.V.Kind, .int .i64 x_44.V.N, .int .i64 x_44.V.Block, .bool x_44.Write]] rfl rfl rfl Try.func13 Try.pn13 rfl rfl (fun y st hy hpre => mem_Memory_Used_ref st σ c_12 v_57 r_50.2.1 r_50.2.2.1 hpre y hy) ?_)
          intro r_72 v_74 s_77 PV_75 hr_73 hle_78 hp_76
          obtain ⟨rfl, rfl, rfl⟩ := hp_76
          refine JL_opg rfl rfl hc_61 (op_read rfl rfl (r_move (v := .pointer (some (Addr.add c_15 0))) rfl) ?_)
          refine J_select (PV' := [.row o_Gmem_Block 45 v_71 r_63, .cell c_15 [v_58, v_59, v_60, .int .i64 r_50.2.2.2.2.2.2], .row (tBool).o 4 v_58 r_50.2.2.2.1, .row ((tInt .i64)).o 2 v_59 r_50.2.2.2.2.1, .row (t_Glychgateref06_Cell).o 85 v_60 r_50.2.2.2.2.2.1, .cell c_12 [v_57, .int .i64 r_50.2.2.1], .row o_Gmem_Block 45 v_57 r_50.2.1, .cell c_48 [.int .i64 x_44.Kind, .int .i64 x_44.P.Kind, .int .i64 x_44.P.N, .int .i64 x_44.P.Block, .int .i64 x_44.V.Kind, .int .i64 x_44.V.N, .int .i64 x_44.V.Block, .bool x_44.Write]]) [2, 3, 4, 5, 6, 0, 1, 7] (by decide) rfl ?_
          refine J_assoc ?_
          refine JL_opg rfl rfl hc_61 (op_call (f := 21) (fn := Try.f21) (args := [v_71, .int .i64 r_50.2.2.1, .pointer (some (Addr.add c_15 0))]) (post := lychgatelaw06_sameMemory_post σ v_71 r_63 r_50.2.2.1 c_15 v_58 r_50.2.2.2.1 v_59 r_50.2.2.2.2.1 v_60 r_50.2.2.2.2.2.1 r_50.2.2.2.2.2.2) [.row o_Gmem_Block 45 v_71 r_63, .cell c_15 [v_58, v_59, v_60, .int .i64 r_50.2.2.2.2.2.2], .row (tBool).o 4 v_58 r_50.2.2.2.1, .row ((tInt .i64)).o 2 v_59 r_50.2.2.2.2.1, .row (t_Glychgateref06_Cell).o 85 v_60 r_50.2.2.2.2.2.1] [.cell c_12 [v_57, .int .i64 r_50.2.2.1], .row o_Gmem_Block 45 v_57 r_50.2.1, .cell c_48 [.int .i64 x_44.Kind, .int .i64 x_44.P.Kind, .int .i64 x_44.P.N, .int .i64 x_44.P.Block, .int .i64 x_44.V.Kind, .int .i64 x_44.V.N, .int .i64 x_44.V.Block, .bool x_44.Write]] rfl rfl rfl Try.func21 Try.pn21 rfl rfl (fun y st hy hpre => lychgatelaw06_sameMemory_ref st σ v_71 r_63 r_50.2.2.1 c_15 v_58 r_50.2.2.2.1 v_59 r_50.2.2.2.2.1 v_60 r_50.2.2.2.2.2.1 r_50.2.2.2.2.2.2 hpre y hy) ?_)
          intro r_79 v_81 s_84 PV_82 hr_80 hle_85 hp_83
          obtain ⟨rfl, rfl, rfl⟩ := hp_83
          refine JL_opg rfl rfl hc_61 (op_read rfl rfl (r_not rfl) ?_)
          refine JL_op rfl (op_read rfl rfl (r_pick_f (v := .bool (!r_79)) rfl hc_61 rfl) ?_)
          refine J_select (PV' := [.cell c_12 [v_57, .int .i64 r_50.2.2.1], .row o_Gmem_Block 45 v_57 r_50.2.1, .cell c_15 [v_58, v_59, v_60, .int .i64 r_50.2.2.2.2.2.2], .row (tBool).o 4 v_58 r_50.2.2.2.1, .row ((tInt .i64)).o 2 v_59 r_50.2.2.2.2.1, .row (t_Glychgateref06_Cell).o 85 v_60 r_50.2.2.2.2.2.1]) [5, 6, 1, 2, 3, 4] (by decide) rfl ?_
          refine J_prune _ ?_ fun b => hk (!r_79) _ b _ _ ⟨rfl, rfl, rfl⟩
          exact ⟨rfl, rfl, rfl, rfl, rfl, rfl, trivial⟩
        · rintro y_62 _ b s_88 _ ⟨rfl, rfl, rfl⟩
          refine JL_nil ?_
          refine J_then ?_
          refine J_cond rfl (fun hc_89 => ?_) (fun hc_89 => ?_)
          · refine J_seq ?_
            refine J_region ?_
            refine JL_op rfl (op_read rfl rfl (r_assign (v := .bool false) rfl) ?_)
            refine JL_nil ?_
            refine J_then ?_
            refine J_ret ?_
            refine J_in_ret ?_
            refine J_then_ret ?_
            refine J_select (PV' := []) [] (by decide) rfl ?_
            refine J_done trivial _ ?_ ⟨rfl, rfl, rfl, rfl⟩
            exact ⟨rfl, trivial⟩
          · refine J_skip ?_
            refine J_in_normal ?_
            refine J_then ?_
            refine J_region ?_
            refine JL_op rfl (op_read rfl rfl (r_add rfl rfl) ?_)
            refine JL_op rfl (op_read rfl rfl (r_move (v := .int .i64 (IntKind.i64.wrap (x_32.2.2.2.2.2.2 + 1))) rfl) ?_)
            refine JL_nil ?_
            refine J_next _ ?_ ⟨v_57, v_58, v_59, v_60, rfl, rfl, rfl⟩
            exact ⟨rfl, rfl, rfl, rfl, rfl, trivial⟩
      · refine J_exit ?_
        refine J_then_exit ?_
        refine J_select (PV' := []) [] (by decide) rfl ?_
        refine J_done trivial _ ?_ ⟨rfl, rfl, rfl, rfl⟩
        exact trivial
    · rintro (y_91 | y_95) e L b τ PV ht
      · obtain ⟨rfl, ht⟩ := ht
        revert ht; revert PV; revert τ; revert b; revert L
        rintro _ b s_94 _ ⟨rfl, rfl, rfl⟩
        refine J_in_exit ?_
        refine J_then ?_
        refine J_seq ?_
        refine J_region ?_
        refine JL_op rfl (op_read rfl rfl (r_assign (v := .bool true) rfl) ?_)
        refine JL_nil ?_
        refine J_then ?_
        refine J_ret ?_
        exact J_returnV1 (PV' := []) rfl rv_tmp [] (by decide) rfl ⟨rfl, rfl, rfl⟩
      · obtain ⟨rfl, ht⟩ := ht
        revert ht; revert PV; revert τ; revert b; revert L
        rintro _ b s_98 _ ⟨rfl, rfl, rfl⟩
        refine J_in_ret ?_
        refine J_then_ret ?_
        exact J_returnV1 (PV' := []) rfl rv_tmp [] (by decide) rfl ⟨rfl, rfl, rfl⟩
end Go.Px
