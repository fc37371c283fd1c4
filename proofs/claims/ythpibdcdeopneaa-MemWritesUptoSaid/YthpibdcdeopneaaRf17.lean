/- The calls do what the models say, part 17. -/
import Derived.Test.YthpibdcdeopneaaMd
import Derived.Test.YthpibdcdeopneaaCB
import Derived.Test.YthpibdcdeopneaaRf1
import Derived.Test.YthpibdcdeopneaaRf2
import Derived.Test.YthpibdcdeopneaaRf6
namespace Go.Px
open Go.Proofs
set_option linter.unusedVariables false
def lychgatelaw06_MemWrites_post (σ0 : FS) (v_1 : Value) (cells_2 : Sl Int) (v_4 : Value) (values_5 : Sl Int) (r : Bool) (σ : FS) (PV : List Priv) (v : Value) : Prop :=
  .bool r = v ∧ PV = []
set_option maxRecDepth 100000 in
theorem lychgatelaw06_MemWrites_ref (s : Start) (σ : FS) (v_1 : Value) (cells_2 : Sl Int) (h_3 : (tSl (tInt .i64)).vrel σ v_1 cells_2) (v_4 : Value) (values_5 : Sl Int) (h_6 : (tSl (tInt .i64)).vrel σ v_4 values_5) (hs : Pre s σ []) (r : Bool) (hr : lychgatelaw06_MemWrites cells_2 values_5 = some r) : Does Try.prog 4 [v_1, v_4] s σ (lychgatelaw06_MemWrites_post σ v_1 cells_2 v_4 values_5 r) := by
  unfold lychgatelaw06_MemWrites at hr
  refine does_of_J Try.func4 rfl (n := 98) rfl rfl hs hr ?_
  refine J_seq ?_
  refine J_region ?_
  refine JL_op rfl (op_read rfl rfl (r_assign (v := .bool false) rfl) ?_)
  refine JL_nil ?_
  refine J_then ?_
  refine J_seq ?_
  refine J_seq ?_
  refine J_region ?_
  refine JL_op rfl (op_call (f := 10) (fn := Try.f10) (args := []) (post := lychgatelaw06_wakes_post σ) [] [] rfl rfl rfl Try.func10 Try.pn10 rfl rfl (fun y st hy hpre => lychgatelaw06_wakes_ref st σ  hpre y hy) ?_)
  intro r_7 v_9 s_12 PV_10 hr_8 hle_13 hp_11
  obtain ⟨rfl, rfl, rfl⟩ := hp_11
  refine JL_op rfl (op_read rfl rfl (r_not rfl) ?_)
  refine JL_nil ?_
  refine J_then ?_
  refine J_cond rfl (fun hc_14 => ?_) (fun hc_14 => ?_)
  · refine J_seq ?_
    refine J_region ?_
    refine JL_op rfl (op_read rfl rfl (r_assign (v := .bool false) rfl) ?_)
    refine JL_nil ?_
    refine J_then ?_
    refine J_ret ?_
    refine J_then_ret ?_
    exact J_returnV1 (PV' := []) rfl rv_tmp [] (by decide) rfl ⟨rfl, rfl⟩
  · refine J_skip ?_
    refine J_then ?_
    refine J_seq ?_
    refine J_region ?_
    refine JL_op rfl (op_call (f := 11) (fn := Try.f11) (args := []) (post := mem_New_post σ) [] [] rfl rfl rfl Try.func11 Try.pn11 rfl rfl (fun y st hy hpre => mem_New_ref st σ  hpre y hy) ?_)
    intro r_15 v_17 s_20 PV_18 hr_16 hle_21 hp_19
    obtain ⟨c_23, v_25, rfl, rfl, rfl⟩ := hp_19
    refine JL_op rfl (op_read rfl rfl (r_assign (v := .pointer (some (Addr.add c_23 0))) rfl) ?_)
    refine JL_nil ?_
    refine J_then ?_
    refine J_seq ?_
    refine J_region ?_
    refine JL_op rfl (op_read rfl rfl (r_move (v := .pointer (some (Addr.add c_23 0))) rfl) ?_)
    refine JL_op rfl (op_call (f := 12) (fn := Try.f12) (args := [.pointer (some (Addr.add c_23 0)), .int .i64 4]) (post := mem_Memory_Alloc_post σ c_23 v_25 r_15 0 4) [.cell c_23 [v_25, .int .i64 0], .row o_Gmem_Block 45 v_25 r_15] [] rfl rfl rfl Try.func12 Try.pn12 rfl rfl (fun y st hy hpre => mem_Memory_Alloc_ref st σ c_23 v_25 r_15 0 4 hpre y hy) ?_)
    intro r_26 v_28 s_31 PV_29 hr_27 hle_32 hp_30
    obtain ⟨v_33, rfl, rfl, rfl⟩ := hp_30
    refine JL_op rfl (op_read rfl rfl (r_move (v := .tuple #[.agg #[.int .i64 r_26.1.Kind, .int .i64 r_26.1.N, .int .i64 r_26.1.Block], .bool r_26.2.1]) rfl) ?_)
    refine JL_op rfl (op_read rfl rfl (r_extract (v := .agg #[.int .i64 r_26.1.Kind, .int .i64 r_26.1.N, .int .i64 r_26.1.Block]) rfl rfl) ?_)
    refine JL_op rfl (op_read rfl rfl (r_extract (v := .bool r_26.2.1) rfl rfl) ?_)
    refine JL_op rfl (op_alloc (cs := [.int .i64 0, .int .i64 0, .int .i64 0]) rfl Try.pi29 rfl rfl ?_)
    intro c_34
    refine JL_op rfl (op_store_priv (a := c_34) (off := 0) (vs := [.int .i64 r_26.1.Kind, .int .i64 r_26.1.N, .int .i64 r_26.1.Block]) (cs' := [.int .i64 r_26.1.Kind, .int .i64 r_26.1.N, .int .i64 r_26.1.Block]) (PV' := [.cell c_34 [.int .i64 r_26.1.Kind, .int .i64 r_26.1.N, .int .i64 r_26.1.Block], .cell c_23 [v_33, .int .i64 r_26.2.2.2], .row o_Gmem_Block 45 v_33 r_26.2.2.1]) 0 Try.pi29 rfl rfl rfl ⟨rfl, rfl, rfl, trivial⟩ rfl rfl rfl rfl rfl ?_)
    refine JL_op rfl (op_read rfl rfl (r_assign (v := .bool r_26.2.1) rfl) ?_)
    refine JL_nil ?_
    refine J_then ?_
    refine J_seq ?_
    refine J_region ?_
    refine JL_op rfl (op_read rfl rfl (r_move (v := .pointer (some (Addr.add c_23 0))) rfl) ?_)
    refine J_select (PV' := [.cell c_23 [v_33, .int .i64 r_26.2.2.2], .row o_Gmem_Block 45 v_33 r_26.2.2.1, .cell c_34 [.int .i64 r_26.1.Kind, .int .i64 r_26.1.N, .int .i64 r_26.1.Block]]) [1, 2, 0] (by decide) rfl ?_
    refine JL_op rfl (op_call (f := 12) (fn := Try.f12) (args := [.pointer (some (Addr.add c_23 0)), .int .i64 4]) (post := mem_Memory_Alloc_post σ c_23 v_33 r_26.2.2.1 r_26.2.2.2 4) [.cell c_23 [v_33, .int .i64 r_26.2.2.2], .row o_Gmem_Block 45 v_33 r_26.2.2.1] [.cell c_34 [.int .i64 r_26.1.Kind, .int .i64 r_26.1.N, .int .i64 r_26.1.Block]] rfl rfl rfl Try.func12 Try.pn12 rfl rfl (fun y st hy hpre => mem_Memory_Alloc_ref st σ c_23 v_33 r_26.2.2.1 r_26.2.2.2 4 hpre y hy) ?_)
    intro r_36 v_38 s_41 PV_39 hr_37 hle_42 hp_40
    obtain ⟨v_43, rfl, rfl, rfl⟩ := hp_40
    refine JL_op rfl (op_read rfl rfl (r_move (v := .tuple #[.agg #[.int .i64 r_36.1.Kind, .int .i64 r_36.1.N, .int .i64 r_36.1.Block], .bool r_36.2.1]) rfl) ?_)
    refine JL_op rfl (op_read rfl rfl (r_extract (v := .agg #[.int .i64 r_36.1.Kind, .int .i64 r_36.1.N, .int .i64 r_36.1.Block]) rfl rfl) ?_)
    refine JL_op rfl (op_read rfl rfl (r_extract (v := .bool r_36.2.1) rfl rfl) ?_)
    refine JL_op rfl (op_alloc (cs := [.int .i64 0, .int .i64 0, .int .i64 0]) rfl Try.pi29 rfl rfl ?_)
    intro c_44
    refine JL_op rfl (op_store_priv (a := c_44) (off := 0) (vs := [.int .i64 r_36.1.Kind, .int .i64 r_36.1.N, .int .i64 r_36.1.Block]) (cs' := [.int .i64 r_36.1.Kind, .int .i64 r_36.1.N, .int .i64 r_36.1.Block]) (PV' := [.cell c_44 [.int .i64 r_36.1.Kind, .int .i64 r_36.1.N, .int .i64 r_36.1.Block], .cell c_23 [v_43, .int .i64 r_36.2.2.2], .row o_Gmem_Block 45 v_43 r_36.2.2.1, .cell c_34 [.int .i64 r_26.1.Kind, .int .i64 r_26.1.N, .int .i64 r_26.1.Block]]) 0 Try.pi29 rfl rfl rfl ⟨rfl, rfl, rfl, trivial⟩ rfl rfl rfl rfl rfl ?_)
    refine JL_op rfl (op_read rfl rfl (r_assign (v := .bool r_36.2.1) rfl) ?_)
    refine JL_nil ?_
    refine J_then ?_
    refine J_seq ?_
    refine J_region ?_
    refine JL_op rfl (op_alloc_arr (T := (t_Gmem_Value).o) (q := (⟨0, 0, 0⟩ : Gmem_Value)) 8 [.int .i64 0, .int .i64 0, .int .i64 0] rfl Try.pi37 rfl rfl rfl (fun σ => (Plain.spec (T := t_Gmem_Value) σ _ _).2 rfl) ?_)
    intro c_46
    refine JL_nil ?_
    refine J_then ?_
    refine J_seq ?_
    refine J_seq ?_
    refine J_region ?_
    refine JL_op rfl (op_read rfl rfl (r_move (v := v_1) rfl) ?_)
    refine JL_op rfl (op_read rfl rfl (r_len_frozen (v := v_1) Try.pu36 rfl h_3) ?_)
    refine JL_op rfl (op_read rfl rfl (r_move (v := .int .i64 0) rfl) ?_)
    refine JL_nil ?_
    refine J_then ?_
    refine J_block ?_
    refine J_select (PV' := [.cell c_23 [v_43, .int .i64 r_36.2.2.2], .row o_Gmem_Block 45 v_43 r_36.2.2.1, .cell c_34 [.int .i64 r_26.1.Kind, .int .i64 r_26.1.N, .int .i64 r_26.1.Block], .cell c_44 [.int .i64 r_36.1.Kind, .int .i64 r_36.1.N, .int .i64 r_36.1.Block], .row (t_Gmem_Value).o 37 (.slice (some c_46) 8 8) (⟨List.replicate 8 (⟨0, 0, 0⟩ : Gmem_Value), true⟩ : Sl Gmem_Value)]) [2, 3, 4, 1, 0] (by decide) rfl ?_
    refine J_loop (fun (y : (Sl Gmem_Block) × (Sl Gmem_Value) × Int) L τ PV => σ.le τ ∧ L = [(1, v_4), (5, .pointer (some (Addr.add c_23 0))), (6, .pointer (some (Addr.add c_34 0))), (8, .pointer (some (Addr.add c_44 0))), (10, .pointer (some (Addr.add c_46 0))), (32, v_1), (33, .int .i64 cells_2.len), (34, .int .i64 y.2.2)] ∧ PV = [.cell c_23 [v_43, .int .i64 r_36.2.2.2], .row o_Gmem_Block 45 v_43 y.1, .cell c_34 [.int .i64 r_26.1.Kind, .int .i64 r_26.1.N, .int .i64 r_26.1.Block], .cell c_44 [.int .i64 r_36.1.Kind, .int .i64 r_36.1.N, .int .i64 r_36.1.Block], .row (t_Gmem_Value).o 37 (.slice (some c_46) 8 8) y.2.1]) (fun (y : W2 Unit Unit) e L τ PV => match y, e with | .a y, e => e = .exit 0 ∧ (σ.le τ ∧ L = [] ∧ PV = []) | .b y, e => e = .ret ∧ (σ.le τ ∧ L = [(4, .bool false)] ∧ PV = [])) _ ?_ ⟨(FS.le.refl _), rfl, rfl⟩ ?_ ?_
    · exact ⟨rfl, rfl, rfl, rfl, rfl, rfl, rfl, rfl, trivial⟩
    · rintro x_48 _ b s_49 _ ⟨hle_50, rfl, rfl⟩
      unfold lychgatelaw06_MemWrites_L2
      refine J_seq ?_
      refine J_region ?_
      refine JL_op rfl (op_read rfl rfl (r_lss rfl rfl) ?_)
      refine JL_nil ?_
      refine J_then ?_
      refine J_seq ?_
      refine J_cond rfl (fun hc_51 => ?_) (fun hc_51 => ?_)
      · refine J_skip ?_
        refine J_then ?_
        refine J_seq ?_
        refine J_block ?_
        refine J_seq ?_
        refine J_region ?_
        refine JL_op rfl (op_read rfl rfl (r_move (v := .int .i64 x_48.2.2) rfl) ?_)
        refine J_bind fun x_52 hx_53 => ?_
        refine JL_op rfl (op_read rfl rfl (r_index_frozen (v := v_1) (T := (tInt .i64)) (q := x_52) Try.pu36 Try.pi3 rfl rfl rfl (Ty.vmono _ hle_50 h_3) hx_53) ?_)
        refine JL_op rfl (op_reads rfl rfl (l_elem_frozen (v := v_1) (T := (tInt .i64)) (Tf := (tInt .i64)) (q := x_52) (i := x_48.2.2) (off := 0) Try.pu3 Try.pi3 rfl rfl rfl (Ty.vmono _ hle_50 h_3) hx_53 (FieldAt.self _) (by decide)) ?_)
        intro v_54 h_55
        obtain rfl := tInt_v.1 h_55
        refine JL_op rfl (op_read rfl rfl (r_assign (v := .int .i64 x_48.2.2) rfl) ?_)
        refine JL_op rfl (op_read rfl rfl (r_assign (v := .int .i64 x_52) rfl) ?_)
        refine JL_nil ?_
        refine J_then ?_
        refine J_seq ?_
        refine J_region ?_
        refine JL_op rfl (op_read rfl rfl (r_move (v := .int .i64 x_52) rfl) ?_)
        refine JL_op rfl (op_read rfl rfl (r_max rfl rfl) ?_)
        refine J_bind fun q_56 hq_57 => ?_
        refine JL_op rfl (op_read rfl rfl (r_rem rfl rfl hq_57) ?_)
        refine JL_op rfl (op_read rfl rfl (r_assign (v := .int .i64 q_56) rfl) ?_)
        refine JL_nil ?_
        refine J_then ?_
        refine J_seq ?_
        refine J_region ?_
        refine JL_op rfl (op_read rfl rfl (r_load_priv (a := c_34) (off := 0) (cs' := [.int .i64 r_26.1.Kind, .int .i64 r_26.1.N, .int .i64 r_26.1.Block]) (v := .agg #[.int .i64 r_26.1.Kind, .int .i64 r_26.1.N, .int .i64 r_26.1.Block]) 2 Try.pu29 Try.pi29 rfl rfl rfl rfl (by decide) rfl) ?_)
        refine JL_op rfl (op_alloc (cs := [.int .i64 0, .int .i64 0, .int .i64 0]) rfl Try.pi29 rfl rfl ?_)
        intro c_58
        refine JL_op rfl (op_store_priv (a := c_58) (off := 0) (vs := [.int .i64 r_26.1.Kind, .int .i64 r_26.1.N, .int .i64 r_26.1.Block]) (cs' := [.int .i64 r_26.1.Kind, .int .i64 r_26.1.N, .int .i64 r_26.1.Block]) (PV' := [.cell c_58 [.int .i64 r_26.1.Kind, .int .i64 r_26.1.N, .int .i64 r_26.1.Block], .cell c_23 [v_43, .int .i64 r_36.2.2.2], .row o_Gmem_Block 45 v_43 x_48.1, .cell c_34 [.int .i64 r_26.1.Kind, .int .i64 r_26.1.N, .int .i64 r_26.1.Block], .cell c_44 [.int .i64 r_36.1.Kind, .int .i64 r_36.1.N, .int .i64 r_36.1.Block], .row (t_Gmem_Value).o 37 (.slice (some c_46) 8 8) x_48.2.1]) 0 Try.pi29 rfl rfl rfl ⟨rfl, rfl, rfl, trivial⟩ rfl rfl rfl rfl rfl ?_)
        refine JL_nil ?_
        refine J_then ?_
        refine J_seq ?_
        refine J_seq ?_
        refine J_region ?_
        refine JL_op rfl (op_read rfl rfl (r_move (v := .int .i64 q_56) rfl) ?_)
        refine JL_op rfl (op_read rfl rfl (r_gtr rfl rfl) ?_)
        refine JL_nil ?_
        refine J_then ?_
        refine J_cut (fun (y : Gmem_Value) e L τ PV => e = .normal ∧ (s_49 = τ ∧ L = [(1, v_4), (5, .pointer (some (Addr.add c_23 0))), (6, .pointer (some (Addr.add c_34 0))), (8, .pointer (some (Addr.add c_44 0))), (10, .pointer (some (Addr.add c_46 0))), (11, .int .i64 x_48.2.2), (12, .int .i64 q_56), (13, .pointer (some (Addr.add c_58 0))), (32, v_1), (33, .int .i64 cells_2.len), (34, .int .i64 x_48.2.2)] ∧ PV = [.cell c_23 [v_43, .int .i64 r_36.2.2.2], .row o_Gmem_Block 45 v_43 x_48.1, .cell c_34 [.int .i64 r_26.1.Kind, .int .i64 r_26.1.N, .int .i64 r_26.1.Block], .cell c_44 [.int .i64 r_36.1.Kind, .int .i64 r_36.1.N, .int .i64 r_36.1.Block], .row (t_Gmem_Value).o 37 (.slice (some c_46) 8 8) x_48.2.1, .cell c_58 [.int .i64 y.Kind, .int .i64 y.N, .int .i64 y.Block]])) ?_ ?_
        · refine J_cond rfl (fun hc_60 => ?_) (fun hc_60 => ?_)
          · refine J_region ?_
            refine JL_op rfl (op_read rfl rfl (r_load_priv (a := c_44) (off := 0) (cs' := [.int .i64 r_36.1.Kind, .int .i64 r_36.1.N, .int .i64 r_36.1.Block]) (v := .agg #[.int .i64 r_36.1.Kind, .int .i64 r_36.1.N, .int .i64 r_36.1.Block]) 4 Try.pu29 Try.pi29 rfl rfl rfl rfl (by decide) rfl) ?_)
            refine JL_op rfl (op_store_priv (a := c_58) (off := 0) (vs := [.int .i64 r_36.1.Kind, .int .i64 r_36.1.N, .int .i64 r_36.1.Block]) (cs' := [.int .i64 r_36.1.Kind, .int .i64 r_36.1.N, .int .i64 r_36.1.Block]) (PV' := [.cell c_58 [.int .i64 r_36.1.Kind, .int .i64 r_36.1.N, .int .i64 r_36.1.Block], .cell c_23 [v_43, .int .i64 r_36.2.2.2], .row o_Gmem_Block 45 v_43 x_48.1, .cell c_34 [.int .i64 r_26.1.Kind, .int .i64 r_26.1.N, .int .i64 r_26.1.Block], .cell c_44 [.int .i64 r_36.1.Kind, .int .i64 r_36.1.N, .int .i64 r_36.1.Block], .row (t_Gmem_Value).o 37 (.slice (some c_46) 8 8) x_48.2.1]) 0 Try.pi29 rfl rfl rfl ⟨rfl, rfl, rfl, trivial⟩ rfl rfl rfl rfl rfl ?_)
            refine JL_nil ?_
            refine J_select (PV' := [.cell c_23 [v_43, .int .i64 r_36.2.2.2], .row o_Gmem_Block 45 v_43 x_48.1, .cell c_34 [.int .i64 r_26.1.Kind, .int .i64 r_26.1.N, .int .i64 r_26.1.Block], .cell c_44 [.int .i64 r_36.1.Kind, .int .i64 r_36.1.N, .int .i64 r_36.1.Block], .row (t_Gmem_Value).o 37 (.slice (some c_46) 8 8) x_48.2.1, .cell c_58 [.int .i64 r_36.1.Kind, .int .i64 r_36.1.N, .int .i64 r_36.1.Block]]) [1, 2, 3, 4, 5, 0] (by decide) rfl ?_
            refine J_cut_end _ ?_ ⟨rfl, rfl, rfl, rfl⟩ trivial
            exact ⟨rfl, rfl, rfl, rfl, rfl, rfl, rfl, rfl, rfl, rfl, rfl, trivial⟩
          · refine J_skip ?_
            refine J_select (PV' := [.cell c_23 [v_43, .int .i64 r_36.2.2.2], .row o_Gmem_Block 45 v_43 x_48.1, .cell c_34 [.int .i64 r_26.1.Kind, .int .i64 r_26.1.N, .int .i64 r_26.1.Block], .cell c_44 [.int .i64 r_36.1.Kind, .int .i64 r_36.1.N, .int .i64 r_36.1.Block], .row (t_Gmem_Value).o 37 (.slice (some c_46) 8 8) x_48.2.1, .cell c_58 [.int .i64 r_26.1.Kind, .int .i64 r_26.1.N, .int .i64 r_26.1.Block]]) [1, 2, 3, 4, 5, 0] (by decide) rfl ?_
            refine J_cut_end _ ?_ ⟨rfl, rfl, rfl, rfl⟩ trivial
            exact ⟨rfl, rfl, rfl, rfl, rfl, rfl, rfl, rfl, rfl, rfl, rfl, trivial⟩
        · rintro y_61 _ _ b s_64 _ ⟨rfl, ⟨rfl, rfl, rfl⟩⟩
          refine J_then ?_
          refine J_seq ?_
          refine J_region ?_
          refine JL_op rfl (op_read rfl rfl (r_move (v := .int .i64 q_56) rfl) ?_)
          refine J_bind fun q_65 hq_66 => ?_
          refine JL_op rfl (op_read rfl rfl (r_rem rfl rfl hq_66) ?_)
          refine JL_op rfl (op_read rfl rfl (r_fieldAddr (r := Addr.add c_58 1) Try.pu29 (f := Try.pf29.getD 1 default) rfl Try.pi2 (by decide) rfl (Addr.add_add _ _ _)) ?_)
          refine JL_op rfl (op_store_priv (a := c_58) (off := 1) (vs := [.int .i64 q_65]) (cs' := [.int .i64 y_61.Kind, .int .i64 q_65, .int .i64 y_61.Block]) (PV' := [.cell c_23 [v_43, .int .i64 r_36.2.2.2], .row o_Gmem_Block 45 v_43 x_48.1, .cell c_34 [.int .i64 r_26.1.Kind, .int .i64 r_26.1.N, .int .i64 r_26.1.Block], .cell c_44 [.int .i64 r_36.1.Kind, .int .i64 r_36.1.N, .int .i64 r_36.1.Block], .row (t_Gmem_Value).o 37 (.slice (some c_46) 8 8) x_48.2.1, .cell c_58 [.int .i64 y_61.Kind, .int .i64 q_65, .int .i64 y_61.Block]]) 5 Try.pi2 rfl rfl rfl ⟨rfl, trivial⟩ rfl rfl rfl rfl rfl ?_)
          refine JL_nil ?_
          refine J_then ?_
          refine J_seq ?_
          refine J_region ?_
          refine JL_op rfl (op_read rfl rfl (r_move (v := .int .i64 x_48.2.2) rfl) ?_)
          refine JL_op rfl (op_read rfl rfl (r_move (v := .int .i64 q_56) rfl) ?_)
          refine JL_op rfl (op_read rfl rfl (r_build (cs := [.int .i64 2, .int .i64 x_48.2.2, .int .i64 q_56]) (vs := [(0, .int .i64 2), (1, .int .i64 x_48.2.2), (2, .int .i64 q_56)]) (pcs := [(0, [.int .i64 2]), (1, [.int .i64 x_48.2.2]), (2, [.int .i64 q_56])]) (pls := [(0, 1), (1, 1), (2, 1)]) Try.pu29 Try.pi29 rfl (by kernel_rfl) rfl ⟨rfl, rfl, ⟨rfl, rfl, ⟨rfl, rfl, trivial⟩⟩⟩ rfl) ?_)
          refine JL_op rfl (op_alloc (cs := [.int .i64 0, .int .i64 0, .int .i64 0]) rfl Try.pi29 rfl rfl ?_)
          intro c_67
          refine JL_op rfl (op_store_priv (a := c_67) (off := 0) (vs := [.int .i64 2, .int .i64 x_48.2.2, .int .i64 q_56]) (cs' := [.int .i64 2, .int .i64 x_48.2.2, .int .i64 q_56]) (PV' := [.cell c_67 [.int .i64 2, .int .i64 x_48.2.2, .int .i64 q_56], .cell c_23 [v_43, .int .i64 r_36.2.2.2], .row o_Gmem_Block 45 v_43 x_48.1, .cell c_34 [.int .i64 r_26.1.Kind, .int .i64 r_26.1.N, .int .i64 r_26.1.Block], .cell c_44 [.int .i64 r_36.1.Kind, .int .i64 r_36.1.N, .int .i64 r_36.1.Block], .row (t_Gmem_Value).o 37 (.slice (some c_46) 8 8) x_48.2.1, .cell c_58 [.int .i64 y_61.Kind, .int .i64 q_65, .int .i64 y_61.Block]]) 0 Try.pi29 rfl rfl rfl ⟨rfl, rfl, rfl, trivial⟩ rfl rfl rfl rfl rfl ?_)
          refine JL_nil ?_
          refine J_then ?_
          refine J_seq ?_
          refine J_seq ?_
          refine J_region ?_
          refine JL_op rfl (op_read rfl rfl (r_move (v := .int .i64 x_48.2.2) rfl) ?_)
          refine JL_op rfl (op_read rfl rfl (r_move (v := v_4) rfl) ?_)
          refine JL_op rfl (op_read rfl rfl (r_len_frozen (v := v_4) Try.pu22 rfl (Ty.vmono _ hle_50 h_6)) ?_)
          refine JL_op rfl (op_read rfl rfl (r_lss rfl rfl) ?_)
          refine JL_nil ?_
          refine J_then ?_
          refine J_cut (fun (y : Gmem_Value) e L τ PV => e = .normal ∧ (s_49 = τ ∧ L = [(1, v_4), (5, .pointer (some (Addr.add c_23 0))), (6, .pointer (some (Addr.add c_34 0))), (8, .pointer (some (Addr.add c_44 0))), (10, .pointer (some (Addr.add c_46 0))), (12, .int .i64 q_56), (13, .pointer (some (Addr.add c_58 0))), (14, .pointer (some (Addr.add c_67 0))), (32, v_1), (33, .int .i64 cells_2.len), (34, .int .i64 x_48.2.2)] ∧ PV = [.cell c_23 [v_43, .int .i64 r_36.2.2.2], .row o_Gmem_Block 45 v_43 x_48.1, .cell c_34 [.int .i64 r_26.1.Kind, .int .i64 r_26.1.N, .int .i64 r_26.1.Block], .cell c_44 [.int .i64 r_36.1.Kind, .int .i64 r_36.1.N, .int .i64 r_36.1.Block], .row (t_Gmem_Value).o 37 (.slice (some c_46) 8 8) x_48.2.1, .cell c_58 [.int .i64 y_61.Kind, .int .i64 q_65, .int .i64 y_61.Block], .cell c_67 [.int .i64 y.Kind, .int .i64 y.N, .int .i64 y.Block]])) ?_ ?_
          · refine J_cond rfl (fun hc_69 => ?_) (fun hc_69 => ?_)
            · refine J_region ?_
              refine JL_op rfl (op_read rfl rfl (r_move (v := v_4) rfl) ?_)
              refine JL_op rfl (op_read rfl rfl (r_move (v := .int .i64 x_48.2.2) rfl) ?_)
              refine J_bind fun x_70 hx_71 => ?_
              refine JL_op rfl (op_read rfl rfl (r_index_frozen (v := v_4) (T := (tInt .i64)) (q := x_70) Try.pu22 Try.pi2 rfl rfl rfl (Ty.vmono _ hle_50 h_6) hx_71) ?_)
              refine JL_op rfl (op_reads rfl rfl (l_elem_frozen (v := v_4) (T := (tInt .i64)) (Tf := (tInt .i64)) (q := x_70) (i := x_48.2.2) (off := 0) Try.pu2 Try.pi2 rfl rfl rfl (Ty.vmono _ hle_50 h_6) hx_71 (FieldAt.self _) (by decide)) ?_)
              intro v_72 h_73
              obtain rfl := tInt_v.1 h_73
              refine JL_op rfl (op_read rfl rfl (r_build (cs := [.int .i64 1, .int .i64 x_70, .int .i64 0]) (vs := [(0, .int .i64 1), (1, .int .i64 x_70)]) (pcs := [(0, [.int .i64 1]), (1, [.int .i64 x_70])]) (pls := [(0, 1), (1, 1), (2, 1)]) Try.pu29 Try.pi29 rfl (by kernel_rfl) rfl ⟨rfl, rfl, ⟨rfl, rfl, trivial⟩⟩ rfl) ?_)
              refine JL_op rfl (op_store_priv (a := c_67) (off := 0) (vs := [.int .i64 1, .int .i64 x_70, .int .i64 0]) (cs' := [.int .i64 1, .int .i64 x_70, .int .i64 0]) (PV' := [.cell c_67 [.int .i64 1, .int .i64 x_70, .int .i64 0], .cell c_23 [v_43, .int .i64 r_36.2.2.2], .row o_Gmem_Block 45 v_43 x_48.1, .cell c_34 [.int .i64 r_26.1.Kind, .int .i64 r_26.1.N, .int .i64 r_26.1.Block], .cell c_44 [.int .i64 r_36.1.Kind, .int .i64 r_36.1.N, .int .i64 r_36.1.Block], .row (t_Gmem_Value).o 37 (.slice (some c_46) 8 8) x_48.2.1, .cell c_58 [.int .i64 y_61.Kind, .int .i64 q_65, .int .i64 y_61.Block]]) 0 Try.pi29 rfl rfl rfl ⟨rfl, rfl, rfl, trivial⟩ rfl rfl rfl rfl rfl ?_)
              refine JL_nil ?_
              refine J_select (PV' := [.cell c_23 [v_43, .int .i64 r_36.2.2.2], .row o_Gmem_Block 45 v_43 x_48.1, .cell c_34 [.int .i64 r_26.1.Kind, .int .i64 r_26.1.N, .int .i64 r_26.1.Block], .cell c_44 [.int .i64 r_36.1.Kind, .int .i64 r_36.1.N, .int .i64 r_36.1.Block], .row (t_Gmem_Value).o 37 (.slice (some c_46) 8 8) x_48.2.1, .cell c_58 [.int .i64 y_61.Kind, .int .i64 q_65, .int .i64 y_61.Block], .cell c_67 [.int .i64 1, .int .i64 x_70, .int .i64 0]]) [1, 2, 3, 4, 5, 6, 0] (by decide) rfl ?_
              refine J_cut_end _ ?_ ⟨rfl, rfl, rfl, rfl⟩ trivial
              exact ⟨rfl, rfl, rfl, rfl, rfl, rfl, rfl, rfl, rfl, rfl, rfl, trivial⟩
            · refine J_skip ?_
              refine J_select (PV' := [.cell c_23 [v_43, .int .i64 r_36.2.2.2], .row o_Gmem_Block 45 v_43 x_48.1, .cell c_34 [.int .i64 r_26.1.Kind, .int .i64 r_26.1.N, .int .i64 r_26.1.Block], .cell c_44 [.int .i64 r_36.1.Kind, .int .i64 r_36.1.N, .int .i64 r_36.1.Block], .row (t_Gmem_Value).o 37 (.slice (some c_46) 8 8) x_48.2.1, .cell c_58 [.int .i64 y_61.Kind, .int .i64 q_65, .int .i64 y_61.Block], .cell c_67 [.int .i64 2, .int .i64 x_48.2.2, .int .i64 q_56]]) [1, 2, 3, 4, 5, 6, 0] (by decide) rfl ?_
              refine J_cut_end _ ?_ ⟨rfl, rfl, rfl, rfl⟩ trivial
              exact ⟨rfl, rfl, rfl, rfl, rfl, rfl, rfl, rfl, rfl, rfl, rfl, trivial⟩
          · rintro y_74 _ _ b s_77 _ ⟨rfl, ⟨rfl, rfl, rfl⟩⟩
            refine J_then ?_
            refine J_seq ?_
            refine J_seq ?_
            refine J_region ?_
            refine JL_op rfl (op_read rfl rfl (r_move (v := .pointer (some (Addr.add c_23 0))) rfl) ?_)
            refine JL_op rfl (op_read rfl rfl (r_load_priv (a := c_58) (off := 0) (cs' := [.int .i64 y_61.Kind, .int .i64 q_65, .int .i64 y_61.Block]) (v := .agg #[.int .i64 y_61.Kind, .int .i64 q_65, .int .i64 y_61.Block]) 5 Try.pu29 Try.pi29 rfl rfl rfl rfl (by decide) rfl) ?_)
            refine JL_op rfl (op_call (f := 15) (fn := Try.f15) (args := [.pointer (some (Addr.add c_23 0)), .agg #[.int .i64 y_61.Kind, .int .i64 q_65, .int .i64 y_61.Block], .bool true]) (post := mem_Memory_Begin_post s_49 c_23 v_43 x_48.1 r_36.2.2.2 (.agg #[.int .i64 y_61.Kind, .int .i64 q_65, .int .i64 y_61.Block]) (⟨y_61.Kind, q_65, y_61.Block⟩ : Gmem_Value) true) [.cell c_23 [v_43, .int .i64 r_36.2.2.2], .row o_Gmem_Block 45 v_43 x_48.1] [.cell c_34 [.int .i64 r_26.1.Kind, .int .i64 r_26.1.N, .int .i64 r_26.1.Block], .cell c_44 [.int .i64 r_36.1.Kind, .int .i64 r_36.1.N, .int .i64 r_36.1.Block], .row (t_Gmem_Value).o 37 (.slice (some c_46) 8 8) x_48.2.1, .cell c_58 [.int .i64 y_61.Kind, .int .i64 q_65, .int .i64 y_61.Block], .cell c_67 [.int .i64 y_74.Kind, .int .i64 y_74.N, .int .i64 y_74.Block]] rfl rfl rfl Try.func15 Try.pn15 rfl rfl (fun y st hy hpre => mem_Memory_Begin_ref st s_49 c_23 v_43 x_48.1 r_36.2.2.2 (.agg #[.int .i64 y_61.Kind, .int .i64 q_65, .int .i64 y_61.Block]) (⟨y_61.Kind, q_65, y_61.Block⟩ : Gmem_Value) (t_Gmem_Value_v.2 rfl) true hpre y hy) ?_)
            intro r_78 v_80 s_83 PV_81 hr_79 hle_84 hp_82
            obtain ⟨rfl, rfl, rfl⟩ := hp_82
            refine JL_op rfl (op_read rfl rfl (r_neq rfl rfl) ?_)
            refine JL_nil ?_
            refine J_then ?_
            refine J_cond rfl (fun hc_85 => ?_) (fun hc_85 => ?_)
            · refine J_seq ?_
              refine J_region ?_
              refine JL_op rfl (op_read rfl rfl (r_assign (v := .bool false) rfl) ?_)
              refine JL_nil ?_
              refine J_then ?_
              refine J_ret ?_
              refine J_then_ret ?_
              refine J_in_ret ?_
              refine J_then_ret ?_
              refine J_select (PV' := []) [] (by decide) rfl ?_
              refine J_done trivial _ ?_ ⟨rfl, hle_50, rfl, rfl⟩
              exact ⟨rfl, trivial⟩
            · refine J_skip ?_
              refine J_then ?_
              refine J_seq ?_
              refine J_seq ?_
              refine J_region ?_
              refine JL_op rfl (op_read rfl rfl (r_move (v := .pointer (some (Addr.add c_23 0))) rfl) ?_)
              refine JL_op rfl (op_read rfl rfl (r_load_priv (a := c_58) (off := 0) (cs' := [.int .i64 y_61.Kind, .int .i64 q_65, .int .i64 y_61.Block]) (v := .agg #[.int .i64 y_61.Kind, .int .i64 q_65, .int .i64 y_61.Block]) 5 Try.pu29 Try.pi29 rfl rfl rfl rfl (by decide) rfl) ?_)
              refine JL_op rfl (op_read rfl rfl (r_load_priv (a := c_67) (off := 0) (cs' := [.int .i64 y_74.Kind, .int .i64 y_74.N, .int .i64 y_74.Block]) (v := .agg #[.int .i64 y_74.Kind, .int .i64 y_74.N, .int .i64 y_74.Block]) 6 Try.pu29 Try.pi29 rfl rfl rfl rfl (by decide) rfl) ?_)
              refine JL_op rfl (op_call (f := 16) (fn := Try.f16) (args := [.pointer (some (Addr.add c_23 0)), .agg #[.int .i64 y_61.Kind, .int .i64 q_65, .int .i64 y_61.Block], .bool true, .agg #[.int .i64 y_74.Kind, .int .i64 y_74.N, .int .i64 y_74.Block]]) (post := mem_Memory_End_post s_49 c_23 v_43 r_78.2 r_36.2.2.2 (.agg #[.int .i64 y_61.Kind, .int .i64 q_65, .int .i64 y_61.Block]) (⟨y_61.Kind, q_65, y_61.Block⟩ : Gmem_Value) true (.agg #[.int .i64 y_74.Kind, .int .i64 y_74.N, .int .i64 y_74.Block]) y_74) [.cell c_23 [v_43, .int .i64 r_36.2.2.2], .row o_Gmem_Block 45 v_43 r_78.2] [.cell c_34 [.int .i64 r_26.1.Kind, .int .i64 r_26.1.N, .int .i64 r_26.1.Block], .cell c_44 [.int .i64 r_36.1.Kind, .int .i64 r_36.1.N, .int .i64 r_36.1.Block], .row (t_Gmem_Value).o 37 (.slice (some c_46) 8 8) x_48.2.1, .cell c_58 [.int .i64 y_61.Kind, .int .i64 q_65, .int .i64 y_61.Block], .cell c_67 [.int .i64 y_74.Kind, .int .i64 y_74.N, .int .i64 y_74.Block]] rfl rfl rfl Try.func16 Try.pn16 rfl rfl (fun y st hy hpre => mem_Memory_End_ref st s_49 c_23 v_43 r_78.2 r_36.2.2.2 (.agg #[.int .i64 y_61.Kind, .int .i64 q_65, .int .i64 y_61.Block]) (⟨y_61.Kind, q_65, y_61.Block⟩ : Gmem_Value) (t_Gmem_Value_v.2 rfl) true (.agg #[.int .i64 y_74.Kind, .int .i64 y_74.N, .int .i64 y_74.Block]) y_74 (t_Gmem_Value_v.2 rfl) hpre y hy) ?_)
              intro r_86 v_88 s_91 PV_89 hr_87 hle_92 hp_90
              obtain ⟨rfl, rfl, rfl⟩ := hp_90
              refine JL_op rfl (op_read rfl rfl (r_move (v := .tuple #[.agg #[.int .i64 r_86.1.Kind, .int .i64 r_86.1.N, .int .i64 r_86.1.Block], .int .i64 r_86.2.1]) rfl) ?_)
              refine JL_op rfl (op_read rfl rfl (r_extract (v := .agg #[.int .i64 r_86.1.Kind, .int .i64 r_86.1.N, .int .i64 r_86.1.Block]) rfl rfl) ?_)
              refine JL_op rfl (op_read rfl rfl (r_extract (v := .int .i64 r_86.2.1) rfl rfl) ?_)
              refine JL_op rfl (op_alloc (cs := [.int .i64 0, .int .i64 0, .int .i64 0]) rfl Try.pi29 rfl rfl ?_)
              intro c_93
              refine JL_op rfl (op_store_priv (a := c_93) (off := 0) (vs := [.int .i64 r_86.1.Kind, .int .i64 r_86.1.N, .int .i64 r_86.1.Block]) (cs' := [.int .i64 r_86.1.Kind, .int .i64 r_86.1.N, .int .i64 r_86.1.Block]) (PV' := [.cell c_93 [.int .i64 r_86.1.Kind, .int .i64 r_86.1.N, .int .i64 r_86.1.Block], .cell c_23 [v_43, .int .i64 r_36.2.2.2], .row o_Gmem_Block 45 v_43 r_86.2.2, .cell c_34 [.int .i64 r_26.1.Kind, .int .i64 r_26.1.N, .int .i64 r_26.1.Block], .cell c_44 [.int .i64 r_36.1.Kind, .int .i64 r_36.1.N, .int .i64 r_36.1.Block], .row (t_Gmem_Value).o 37 (.slice (some c_46) 8 8) x_48.2.1, .cell c_58 [.int .i64 y_61.Kind, .int .i64 q_65, .int .i64 y_61.Block], .cell c_67 [.int .i64 y_74.Kind, .int .i64 y_74.N, .int .i64 y_74.Block]]) 0 Try.pi29 rfl rfl rfl ⟨rfl, rfl, rfl, trivial⟩ rfl rfl rfl rfl rfl ?_)
              refine JL_op rfl (op_read rfl rfl (r_assign (v := .int .i64 r_86.2.1) rfl) ?_)
              refine JL_nil ?_
              refine J_then ?_
              refine J_seq ?_
              refine J_region ?_
              refine JL_op rfl (op_read rfl rfl (r_move (v := .int .i64 r_86.2.1) rfl) ?_)
              refine JL_op rfl (op_read rfl rfl (r_neq rfl rfl) ?_)
              refine JL_nil ?_
              refine J_then ?_
              refine J_cond rfl (fun hc_95 => ?_) (fun hc_95 => ?_)
              · refine J_seq ?_
                refine J_region ?_
                refine JL_op rfl (op_read rfl rfl (r_assign (v := .bool false) rfl) ?_)
                refine JL_nil ?_
                refine J_then ?_
                refine J_ret ?_
                refine J_then_ret ?_
                refine J_in_ret ?_
                refine J_then_ret ?_
                refine J_select (PV' := []) [] (by decide) rfl ?_
                refine J_done trivial _ ?_ ⟨rfl, hle_50, rfl, rfl⟩
                exact ⟨rfl, trivial⟩
              · refine J_skip ?_
                refine J_then ?_
                refine J_seq ?_
                refine J_region ?_
                refine JL_op rfl (op_read rfl rfl (r_move (v := .int .i64 q_56) rfl) ?_)
                refine JL_op rfl (op_read rfl rfl (r_load_priv (a := c_67) (off := 0) (cs' := [.int .i64 y_74.Kind, .int .i64 y_74.N, .int .i64 y_74.Block]) (v := .agg #[.int .i64 y_74.Kind, .int .i64 y_74.N, .int .i64 y_74.Block]) 7 Try.pu29 Try.pi29 rfl rfl rfl rfl (by decide) rfl) ?_)
                refine J_bind fun x_96 hx_97 => ?_
                refine JL_op rfl (op_read rfl rfl (r_index_arrow (T := (t_Gmem_Value).o) (s := x_48.2.1) (q := x_96) 5 Try.pu37 Try.pi29 rfl rfl rfl rfl hx_97) ?_)
                refine J_select (PV' := [.row (t_Gmem_Value).o 37 (.slice (some c_46) 8 8) x_48.2.1, .cell c_93 [.int .i64 r_86.1.Kind, .int .i64 r_86.1.N, .int .i64 r_86.1.Block], .cell c_23 [v_43, .int .i64 r_36.2.2.2], .row o_Gmem_Block 45 v_43 r_86.2.2, .cell c_34 [.int .i64 r_26.1.Kind, .int .i64 r_26.1.N, .int .i64 r_26.1.Block], .cell c_44 [.int .i64 r_36.1.Kind, .int .i64 r_36.1.N, .int .i64 r_36.1.Block], .cell c_58 [.int .i64 y_61.Kind, .int .i64 q_65, .int .i64 y_61.Block], .cell c_67 [.int .i64 y_74.Kind, .int .i64 y_74.N, .int .i64 y_74.Block]]) [5, 0, 1, 2, 3, 4, 6, 7] (by decide) rfl ?_
                refine JL_op rfl (op_store_row (v := (.slice (some c_46) 8 8)) (u := (.agg #[.int .i64 y_74.Kind, .int .i64 y_74.N, .int .i64 y_74.Block])) (T := (t_Gmem_Value).o) (q := y_74) (i := q_56) [] [.cell c_93 [.int .i64 r_86.1.Kind, .int .i64 r_86.1.N, .int .i64 r_86.1.Block], .cell c_23 [v_43, .int .i64 r_36.2.2.2], .row o_Gmem_Block 45 v_43 r_86.2.2, .cell c_34 [.int .i64 r_26.1.Kind, .int .i64 r_26.1.N, .int .i64 r_26.1.Block], .cell c_44 [.int .i64 r_36.1.Kind, .int .i64 r_36.1.N, .int .i64 r_36.1.Block], .cell c_58 [.int .i64 y_61.Kind, .int .i64 q_65, .int .i64 y_61.Block], .cell c_67 [.int .i64 y_74.Kind, .int .i64 y_74.N, .int .i64 y_74.Block]] Try.pi29 rfl rfl rfl rfl (fix_vrel (T := (t_Gmem_Value).o) rfl (t_Gmem_Value_v.2 rfl)) ?_)
                intro s_98 hs_99
                refine JL_nil ?_
                refine J_then ?_
                refine J_seq ?_
                refine J_region ?_
                refine JL_op rfl (op_read rfl rfl (r_move (v := .pointer (some (Addr.add c_23 0))) rfl) ?_)
                refine J_select (PV' := [.cell c_23 [v_43, .int .i64 r_36.2.2.2], .row o_Gmem_Block 45 v_43 r_86.2.2, .row (t_Gmem_Value).o 37 (.slice (some c_46) 8 8) s_98, .cell c_93 [.int .i64 r_86.1.Kind, .int .i64 r_86.1.N, .int .i64 r_86.1.Block], .cell c_34 [.int .i64 r_26.1.Kind, .int .i64 r_26.1.N, .int .i64 r_26.1.Block], .cell c_44 [.int .i64 r_36.1.Kind, .int .i64 r_36.1.N, .int .i64 r_36.1.Block], .cell c_58 [.int .i64 y_61.Kind, .int .i64 q_65, .int .i64 y_61.Block], .cell c_67 [.int .i64 y_74.Kind, .int .i64 y_74.N, .int .i64 y_74.Block]]) [2, 3, 0, 1, 4, 5, 6, 7] (by decide) rfl ?_
                refine JL_op rfl (op_call (f := 17) (fn := Try.f17) (args := [.pointer (some (Addr.add c_23 0))]) (post := mem_Memory_Blocks_post s_49 c_23 v_43 r_86.2.2 r_36.2.2.2) [.cell c_23 [v_43, .int .i64 r_36.2.2.2], .row o_Gmem_Block 45 v_43 r_86.2.2] [.row (t_Gmem_Value).o 37 (.slice (some c_46) 8 8) s_98, .cell c_93 [.int .i64 r_86.1.Kind, .int .i64 r_86.1.N, .int .i64 r_86.1.Block], .cell c_34 [.int .i64 r_26.1.Kind, .int .i64 r_26.1.N, .int .i64 r_26.1.Block], .cell c_44 [.int .i64 r_36.1.Kind, .int .i64 r_36.1.N, .int .i64 r_36.1.Block], .cell c_58 [.int .i64 y_61.Kind, .int .i64 q_65, .int .i64 y_61.Block], .cell c_67 [.int .i64 y_74.Kind, .int .i64 y_74.N, .int .i64 y_74.Block]] rfl rfl rfl Try.func17 Try.pn17 rfl rfl (fun y st hy hpre => mem_Memory_Blocks_ref st s_49 c_23 v_43 r_86.2.2 r_36.2.2.2 hpre y hy) ?_)
                intro r_100 v_102 s_105 PV_103 hr_101 hle_106 hp_104
                obtain ⟨v_108, rfl, rfl, rfl⟩ := hp_104
                refine J_freeze_row 0 rfl rfl fun s_109 hle_110 h_111 => ?_
                refine JL_op rfl (op_read rfl rfl (r_assign (v := v_108) rfl) ?_)
                refine JL_nil ?_
                refine J_then ?_
                refine J_seq ?_
                refine J_region ?_
                refine JL_op rfl (op_read rfl rfl (r_move (v := .int .i64 0) rfl) ?_)
                refine JL_nil ?_
                refine J_then ?_
                refine J_block ?_
                refine J_select (PV' := [.cell c_23 [v_43, .int .i64 r_36.2.2.2], .row o_Gmem_Block 45 v_43 r_86.2.2, .cell c_34 [.int .i64 r_26.1.Kind, .int .i64 r_26.1.N, .int .i64 r_26.1.Block], .cell c_44 [.int .i64 r_36.1.Kind, .int .i64 r_36.1.N, .int .i64 r_36.1.Block], .row (t_Gmem_Value).o 37 (.slice (some c_46) 8 8) s_98]) [0, 1, 4, 5, 2] (by decide) rfl ?_
                refine J_loop (fun (y : Int) L τ PV => s_109 = τ ∧ L = [(1, v_4), (5, .pointer (some (Addr.add c_23 0))), (6, .pointer (some (Addr.add c_34 0))), (8, .pointer (some (Addr.add c_44 0))), (10, .pointer (some (Addr.add c_46 0))), (17, v_108), (32, v_1), (33, .int .i64 cells_2.len), (34, .int .i64 x_48.2.2), (79, .int .i64 y)] ∧ PV = [.cell c_23 [v_43, .int .i64 r_36.2.2.2], .row o_Gmem_Block 45 v_43 r_86.2.2, .cell c_34 [.int .i64 r_26.1.Kind, .int .i64 r_26.1.N, .int .i64 r_26.1.Block], .cell c_44 [.int .i64 r_36.1.Kind, .int .i64 r_36.1.N, .int .i64 r_36.1.Block], .row (t_Gmem_Value).o 37 (.slice (some c_46) 8 8) s_98]) (fun (y : W2 Unit Unit) e L τ PV => match y, e with | .a y, e => e = .exit 2 ∧ (s_109 = τ ∧ L = [(1, v_4), (5, .pointer (some (Addr.add c_23 0))), (6, .pointer (some (Addr.add c_34 0))), (8, .pointer (some (Addr.add c_44 0))), (10, .pointer (some (Addr.add c_46 0))), (32, v_1), (33, .int .i64 cells_2.len), (34, .int .i64 x_48.2.2)] ∧ PV = [.cell c_23 [v_43, .int .i64 r_36.2.2.2], .row o_Gmem_Block 45 v_43 r_86.2.2, .cell c_34 [.int .i64 r_26.1.Kind, .int .i64 r_26.1.N, .int .i64 r_26.1.Block], .cell c_44 [.int .i64 r_36.1.Kind, .int .i64 r_36.1.N, .int .i64 r_36.1.Block], .row (t_Gmem_Value).o 37 (.slice (some c_46) 8 8) s_98]) | .b y, e => e = .ret ∧ (s_109 = τ ∧ L = [(4, .bool false)] ∧ PV = [])) _ ?_ ⟨rfl, rfl, rfl⟩ ?_ ?_
                · exact ⟨rfl, rfl, rfl, rfl, rfl, rfl, rfl, rfl, rfl, rfl, trivial⟩
                · rintro x_112 _ b s_115 _ ⟨rfl, rfl, rfl⟩
                  unfold lychgatelaw06_MemWrites_L1
                  refine J_seq ?_
                  refine J_region ?_
                  refine JL_op rfl (op_read rfl rfl (r_lss rfl rfl) ?_)
                  refine JL_nil ?_
                  refine J_then ?_
                  refine J_seq ?_
                  refine J_cond rfl (fun hc_116 => ?_) (fun hc_116 => ?_)
                  · refine J_skip ?_
                    refine J_then ?_
                    refine J_seq ?_
                    refine J_block ?_
                    refine J_seq ?_
                    refine J_region ?_
                    refine JL_op rfl (op_read rfl rfl (r_move (v := .int .i64 x_112) rfl) ?_)
                    refine JL_op rfl (op_read rfl rfl (r_assign (v := .int .i64 x_112) rfl) ?_)
                    refine JL_nil ?_
                    refine J_then ?_
                    refine J_seq ?_
                    refine J_region_any 14 [.cell c_23 [v_43, .int .i64 r_36.2.2.2], .row o_Gmem_Block 45 v_43 r_86.2.2, .cell c_34 [.int .i64 r_26.1.Kind, .int .i64 r_26.1.N, .int .i64 r_26.1.Block], .cell c_44 [.int .i64 r_36.1.Kind, .int .i64 r_36.1.N, .int .i64 r_36.1.Block], .row (t_Gmem_Value).o 37 (.slice (some c_46) 8 8) s_98] Try.mixed (by kernel_rfl) fun hns => ?_
                    have hS_117 : HeldOK s_109 [.cell c_23 [v_43, .int .i64 r_36.2.2.2], .row o_Gmem_Block 45 v_43 r_86.2.2, .cell c_34 [.int .i64 r_26.1.Kind, .int .i64 r_26.1.N, .int .i64 r_26.1.Block], .cell c_44 [.int .i64 r_36.1.Kind, .int .i64 r_36.1.N, .int .i64 r_36.1.Block], .row (t_Gmem_Value).o 37 (.slice (some c_46) 8 8) s_98] s_109 [.cell c_23 [v_43, .int .i64 r_36.2.2.2], .row o_Gmem_Block 45 v_43 r_86.2.2, .cell c_34 [.int .i64 r_26.1.Kind, .int .i64 r_26.1.N, .int .i64 r_26.1.Block], .cell c_44 [.int .i64 r_36.1.Kind, .int .i64 r_36.1.N, .int .i64 r_36.1.Block], .row (t_Gmem_Value).o 37 (.slice (some c_46) 8 8) s_98] := HeldOK.same [0, 1, 2, 3, 4] (by decide) rfl
                    refine JA_takep 0 rfl hns (by kernel_rfl) (by kernel_rfl) rfl (.inr hS_117) rfl rfl rfl (r_move (v := v_108) rfl) ?_
                    refine JA_takep 1 rfl hns (by kernel_rfl) (by kernel_rfl) rfl (.inr hS_117) rfl rfl rfl (r_move (v := .int .i64 x_112) rfl) ?_
                    refine J_bind fun q_118 hq_119 => ?_
                    refine JA_takep 2 rfl hns (by kernel_rfl) (by kernel_rfl) rfl (.inr hS_117) rfl rfl rfl (r_quo rfl rfl hq_119) ?_
                    refine J_bind fun x_120 hx_121 => ?_
                    refine JA_takep 3 rfl hns (by kernel_rfl) (by kernel_rfl) rfl (.inr hS_117) rfl rfl rfl (r_index_frozen (v := v_108) (T := t_Gmem_Block) (q := x_120) Try.pu41 Try.pi45 rfl rfl rfl h_111 hx_121) ?_
                    refine JA_takep 4 rfl hns (by kernel_rfl) (by kernel_rfl) rfl (.inr hS_117) rfl rfl rfl (r_fieldAddr (r := elemAddr v_108 ((q_118).toNat * (t_Gmem_Block).size + 1)) Try.pu45 (f := Try.pf45.getD 1 default) rfl Try.pi43 (by decide) rfl (elemAddr_add _ _ _)) ?_
                    refine JA_takes 5 rfl hns (by kernel_rfl) (by kernel_rfl) (by kernel_rfl) rfl (by kernel_rfl) hS_117 rfl rfl rfl (l_elem_frozen (v := v_108) (T := t_Gmem_Block) (Tf := (tSl t_Gmem_Value)) (q := x_120) (i := q_118) (off := 1) Try.pu43 Try.pi43 rfl rfl rfl h_111 hx_121 f_Gmem_Block_Cells (by decide)) ?_
                    intro v_122 h_123
                    refine JA_takep 6 rfl hns (by kernel_rfl) (by kernel_rfl) rfl (.inr hS_117) rfl rfl rfl (r_move (v := .int .i64 x_112) rfl) ?_
                    refine J_bind fun q_124 hq_125 => ?_
                    refine JA_takep 7 rfl hns (by kernel_rfl) (by kernel_rfl) rfl (.inr hS_117) rfl rfl rfl (r_rem rfl rfl hq_125) ?_
                    refine J_bind fun x_126 hx_127 => ?_
                    refine JA_takep 8 rfl hns (by kernel_rfl) (by kernel_rfl) rfl (.inr hS_117) rfl rfl rfl (r_index_frozen (v := v_122) (T := t_Gmem_Value) (q := x_126) Try.pu43 Try.pi29 rfl rfl rfl h_123 hx_127) ?_
                    refine JA_takes 9 rfl hns (by kernel_rfl) (by kernel_rfl) (by kernel_rfl) rfl (by kernel_rfl) hS_117 rfl rfl rfl (l_elem_frozen (v := v_122) (T := t_Gmem_Value) (Tf := t_Gmem_Value) (q := x_126) (i := q_124) (off := 0) Try.pu29 Try.pi29 rfl rfl rfl h_123 hx_127 (FieldAt.self _) (by decide)) ?_
                    intro v_128 h_129
                    obtain rfl := t_Gmem_Value_v.1 h_129
                    refine JA_takep 10 rfl hns (by kernel_rfl) (by kernel_rfl) rfl (.inr hS_117) rfl rfl rfl (r_move (v := .int .i64 x_112) rfl) ?_
                    refine J_bind fun x_130 hx_131 => ?_
                    refine JA_take 11 rfl hns (by kernel_rfl) (by kernel_rfl) (by kernel_rfl) rfl (by kernel_rfl) hS_117 rfl rfl rfl (r_index_arrow (T := (t_Gmem_Value).o) (s := s_98) (q := x_130) 4 Try.pu37 Try.pi29 rfl rfl rfl rfl hx_131) ?_
                    refine JA_takes 12 rfl hns (by kernel_rfl) (by kernel_rfl) (by kernel_rfl) rfl (by kernel_rfl) hS_117 rfl rfl rfl (l_elem_orow (v := (.slice (some c_46) 8 8)) (T := (t_Gmem_Value).o) (Tf := t_Gmem_Value) (q := x_130) (i := x_112) (off := 0) 4 Try.pu29 Try.pi29 rfl rfl rfl rfl hx_131 (OFieldAt.self (T := (t_Gmem_Value).o)) (by decide)) ?_
                    intro v_132 h_133
                    obtain rfl := t_Gmem_Value_v.1 h_133
                    refine JA_takep 13 rfl hns (by kernel_rfl) (by kernel_rfl) rfl (.inr hS_117) rfl rfl rfl (r_neq_struct (by kernel_rfl) rfl rfl (by decide) (eq_Gmem_Value (x := x_126) (y := x_130))) ?_
                    refine JA_done (by kernel_rfl) ?_
                    refine J_then ?_
                    refine J_cond rfl (fun hc_134 => ?_) (fun hc_134 => ?_)
                    · refine J_seq ?_
                      refine J_region ?_
                      refine JL_op rfl (op_read rfl rfl (r_assign (v := .bool false) rfl) ?_)
                      refine JL_nil ?_
                      refine J_then ?_
                      refine J_ret ?_
                      refine J_in_ret ?_
                      refine J_then_ret ?_
                      refine J_select (PV' := []) [] (by decide) rfl ?_
                      refine J_done trivial _ ?_ ⟨rfl, rfl, rfl, rfl⟩
                      exact ⟨rfl, trivial⟩
                    · refine J_skip ?_
                      refine J_in_normal ?_
                      refine J_then ?_
                      refine J_region ?_
                      refine JL_op rfl (op_read rfl rfl (r_add rfl rfl) ?_)
                      refine JL_op rfl (op_read rfl rfl (r_move (v := .int .i64 (IntKind.i64.wrap (x_112 + 1))) rfl) ?_)
                      refine JL_nil ?_
                      refine J_next _ ?_ ⟨rfl, rfl, rfl⟩
                      exact ⟨rfl, rfl, rfl, rfl, rfl, rfl, rfl, rfl, rfl, rfl, trivial⟩
                  · refine J_exit ?_
                    refine J_then_exit ?_
                    refine J_done trivial _ ?_ ⟨rfl, rfl, rfl, rfl⟩
                    exact ⟨rfl, rfl, rfl, rfl, rfl, rfl, rfl, rfl, trivial⟩
                · rintro (y_136 | y_140) e L b τ PV ht
                  · obtain ⟨rfl, ht⟩ := ht
                    revert ht; revert PV; revert τ; revert b; revert L
                    rintro _ b s_139 _ ⟨rfl, rfl, rfl⟩
                    refine J_in_exit ?_
                    refine J_in_normal ?_
                    refine J_then ?_
                    refine J_region ?_
                    refine JL_op rfl (op_read rfl rfl (r_add rfl rfl) ?_)
                    refine JL_op rfl (op_read rfl rfl (r_move (v := .int .i64 (IntKind.i64.wrap (x_48.2.2 + 1))) rfl) ?_)
                    refine JL_nil ?_
                    refine J_next _ ?_ ⟨(FS.le.trans hle_50 hle_110), rfl, rfl⟩
                    exact ⟨rfl, rfl, rfl, rfl, rfl, rfl, rfl, rfl, trivial⟩
                  · obtain ⟨rfl, ht⟩ := ht
                    revert ht; revert PV; revert τ; revert b; revert L
                    rintro _ b s_143 _ ⟨rfl, rfl, rfl⟩
                    refine J_in_ret ?_
                    refine J_in_ret ?_
                    refine J_then_ret ?_
                    refine J_done trivial _ ?_ ⟨rfl, (FS.le.trans hle_50 hle_110), rfl, rfl⟩
                    exact ⟨rfl, trivial⟩
      · refine J_exit ?_
        refine J_then_exit ?_
        refine J_select (PV' := []) [] (by decide) rfl ?_
        refine J_done trivial _ ?_ ⟨rfl, hle_50, rfl, rfl⟩
        exact trivial
    · rintro (y_145 | y_148) e L b τ PV ht
      · obtain ⟨rfl, ht⟩ := ht
        revert ht; revert PV; revert τ; revert b; revert L
        rintro _ b s_146 _ ⟨hle_147, rfl, rfl⟩
        refine J_in_exit ?_
        refine J_then ?_
        refine J_seq ?_
        refine J_region ?_
        refine JL_op rfl (op_read rfl rfl (r_assign (v := .bool true) rfl) ?_)
        refine JL_nil ?_
        refine J_then ?_
        refine J_ret ?_
        exact J_returnV1 (PV' := []) rfl rv_tmp [] (by decide) rfl ⟨rfl, rfl⟩
      · obtain ⟨rfl, ht⟩ := ht
        revert ht; revert PV; revert τ; revert b; revert L
        rintro _ b s_149 _ ⟨hle_150, rfl, rfl⟩
        refine J_in_ret ?_
        refine J_then_ret ?_
        exact J_returnV1 (PV' := []) rfl rv_tmp [] (by decide) rfl ⟨rfl, rfl⟩
end Go.Px
