/- The calls do what the models say, part 15. -/
import Derived.Test.YthpibdcdeopneaaMd
import Derived.Test.YthpibdcdeopneaaRf1
import Derived.Test.YthpibdcdeopneaaRf2
import Derived.Test.YthpibdcdeopneaaRf3
import Derived.Test.YthpibdcdeopneaaRf4
import Derived.Test.YthpibdcdeopneaaRf5
namespace Go.Px
open Go.Proofs
set_option linter.unusedVariables false
def lychgatelaw06_MemRefused_post (σ0 : FS) (v_1 : Value) (script_2 : Sl Glychgatelaw06_Op) (r : Bool) (σ : FS) (PV : List Priv) (v : Value) : Prop :=
  .bool r = v ∧ PV = []
set_option maxRecDepth 100000 in
theorem lychgatelaw06_MemRefused_ref (s : Start) (σ : FS) (v_1 : Value) (script_2 : Sl Glychgatelaw06_Op) (h_3 : (tSl t_Glychgatelaw06_Op).vrel σ v_1 script_2) (hs : Pre s σ []) (r : Bool) (hr : lychgatelaw06_MemRefused script_2 = some r) : Does Try.prog 9 [v_1] s σ (lychgatelaw06_MemRefused_post σ v_1 script_2 r) := by
  unfold lychgatelaw06_MemRefused at hr
  refine does_of_J Try.func9 rfl (n := 216) rfl rfl hs hr ?_
  refine J_seq ?_
  refine J_region ?_
  refine JL_op rfl (op_read rfl rfl (r_assign (v := .bool false) rfl) ?_)
  refine JL_nil ?_
  refine J_then ?_
  refine J_seq ?_
  refine J_region ?_
  refine JL_op rfl (op_call (f := 11) (fn := Try.f11) (args := []) (post := mem_New_post σ) [] [] rfl rfl rfl Try.func11 Try.pn11 rfl rfl (fun y st hy hpre => mem_New_ref st σ  hpre y hy) ?_)
  intro r_4 v_6 s_9 PV_7 hr_5 hle_10 hp_8
  obtain ⟨c_12, v_14, rfl, rfl, rfl⟩ := hp_8
  refine JL_op rfl (op_read rfl rfl (r_assign (v := .pointer (some (Addr.add c_12 0))) rfl) ?_)
  refine JL_nil ?_
  refine J_then ?_
  refine J_seq ?_
  refine J_seq ?_
  refine J_region ?_
  refine JL_op rfl (op_call (f := 10) (fn := Try.f10) (args := []) (post := lychgatelaw06_wakes_post σ) [] [.cell c_12 [v_14, .int .i64 0], .row o_Gmem_Block 45 v_14 r_4] rfl rfl rfl Try.func10 Try.pn10 rfl rfl (fun y st hy hpre => lychgatelaw06_wakes_ref st σ  hpre y hy) ?_)
  intro r_15 v_17 s_20 PV_18 hr_16 hle_21 hp_19
  obtain ⟨rfl, rfl, rfl⟩ := hp_19
  refine JL_op rfl (op_read rfl rfl (r_not rfl) ?_)
  refine JL_nil ?_
  refine J_then ?_
  refine J_cond rfl (fun hc_22 => ?_) (fun hc_22 => ?_)
  · refine J_seq ?_
    refine J_region ?_
    refine JL_op rfl (op_read rfl rfl (r_assign (v := .bool false) rfl) ?_)
    refine JL_nil ?_
    refine J_then ?_
    refine J_ret ?_
    refine J_then_ret ?_
    exact J_returnV1 (PV' := []) rfl rv_tmp [] (by decide) rfl ⟨rfl, rfl⟩
  · refine J_skip ?_
    refine J_then ?_
    refine J_seq ?_
    refine J_seq ?_
    refine J_region ?_
    refine JL_op rfl (op_read rfl rfl (r_move (v := v_1) rfl) ?_)
    refine JL_op rfl (op_read rfl rfl (r_move (v := v_1) rfl) ?_)
    refine JL_op rfl (op_read rfl rfl (r_len_frozen (v := v_1) Try.pu52 rfl h_3) ?_)
    refine JL_op rfl (op_read rfl rfl (r_min rfl rfl) ?_)
    refine J_bind fun s_25 hs_26 => ?_
    refine JL_op rfl (op_reads rfl rfl (l_slice_frozen (v := v_1) (T := t_Glychgatelaw06_Op) (s' := s_25) (i := 0) (j := (if 100 < script_2.len then 100 else script_2.len)) Try.pu52 Try.pi58 rfl rfl h_3 rfl ⟨_, rfl⟩ hs_26) ?_)
    intro v_23 h_24
    refine JL_op rfl (op_read rfl rfl (r_len_frozen (v := v_23) Try.pu52 rfl h_24) ?_)
    refine JL_op rfl (op_read rfl rfl (r_move (v := .int .i64 0) rfl) ?_)
    refine JL_nil ?_
    refine J_then ?_
    refine J_block ?_
    refine J_loop (fun (y : (Sl Gmem_Block) × Int × Int) L τ PV => ∃ (w0 : Value), σ.le τ ∧ L = [(3, .pointer (some (Addr.add c_12 0))), (27, v_23), (28, .int .i64 s_25.len), (29, .int .i64 y.2.2)] ∧ PV = [.cell c_12 [w0, .int .i64 y.2.1], .row o_Gmem_Block 45 w0 y.1]) (fun (y : W2 Unit Unit) e L τ PV => match y, e with | .a y, e => e = .exit 0 ∧ (σ.le τ ∧ L = [] ∧ PV = []) | .b y, e => e = .ret ∧ (σ.le τ ∧ L = [(2, .bool false)] ∧ PV = [])) _ ?_ ⟨v_14, (FS.le.refl _), rfl, rfl⟩ ?_ ?_
    · exact ⟨rfl, rfl, rfl, rfl, trivial⟩
    · rintro x_27 _ b s_28 _ ⟨v_30, hle_29, rfl, rfl⟩
      unfold lychgatelaw06_MemRefused_L3
      refine J_seq ?_
      refine J_region ?_
      refine JL_op rfl (op_read rfl rfl (r_lss rfl rfl) ?_)
      refine JL_nil ?_
      refine J_then ?_
      refine J_seq ?_
      refine J_cond rfl (fun hc_31 => ?_) (fun hc_31 => ?_)
      · refine J_skip ?_
        refine J_then ?_
        refine J_seq ?_
        refine J_cut (fun (y : W2 ((Sl Gmem_Block) × Int) Unit) e L τ PV => match y, e with | .a y, e => e = .normal ∧ (∃ (w0 : Value), s_28.le τ ∧ L = [(3, .pointer (some (Addr.add c_12 0))), (27, v_23), (28, .int .i64 s_25.len), (29, .int .i64 x_27.2.2)] ∧ PV = [.cell c_12 [w0, .int .i64 y.2], .row o_Gmem_Block 45 w0 y.1]) | .b y, e => e = .ret ∧ (s_28.le τ ∧ L = [(2, .bool false)] ∧ PV = [])) ?_ ?_
        · refine J_block ?_
          refine J_seq ?_
          refine J_region ?_
          refine J_bind fun x_32 hx_33 => ?_
          refine JL_op rfl (op_read rfl rfl (r_index_frozen (v := v_23) (T := t_Glychgatelaw06_Op) (q := x_32) Try.pu52 Try.pi58 rfl rfl rfl (Ty.vmono _ hle_29 h_24) hx_33) ?_)
          refine JL_op rfl (op_reads rfl rfl (l_elem_frozen (v := v_23) (T := t_Glychgatelaw06_Op) (Tf := t_Glychgatelaw06_Op) (q := x_32) (i := x_27.2.2) (off := 0) Try.pu58 Try.pi58 rfl rfl rfl (Ty.vmono _ hle_29 h_24) hx_33 (FieldAt.self _) (by decide)) ?_)
          intro v_34 h_35
          obtain rfl := t_Glychgatelaw06_Op_v.1 h_35
          refine JL_op rfl (op_alloc (cs := [.int .i64 0, .int .i64 0, .int .i64 0, .int .i64 0, .int .i64 0, .int .i64 0, .int .i64 0, .bool false]) rfl Try.pi58 rfl rfl ?_)
          intro c_36
          refine JL_op rfl (op_store_priv (a := c_36) (off := 0) (vs := [.int .i64 x_32.Kind, .int .i64 x_32.P.Kind, .int .i64 x_32.P.N, .int .i64 x_32.P.Block, .int .i64 x_32.V.Kind, .int .i64 x_32.V.N, .int .i64 x_32.V.Block, .bool x_32.Write]) (cs' := [.int .i64 x_32.Kind, .int .i64 x_32.P.Kind, .int .i64 x_32.P.N, .int .i64 x_32.P.Block, .int .i64 x_32.V.Kind, .int .i64 x_32.V.N, .int .i64 x_32.V.Block, .bool x_32.Write]) (PV' := [.cell c_36 [.int .i64 x_32.Kind, .int .i64 x_32.P.Kind, .int .i64 x_32.P.N, .int .i64 x_32.P.Block, .int .i64 x_32.V.Kind, .int .i64 x_32.V.N, .int .i64 x_32.V.Block, .bool x_32.Write], .cell c_12 [v_30, .int .i64 x_27.2.1], .row o_Gmem_Block 45 v_30 x_27.1]) 0 Try.pi58 rfl rfl rfl ⟨rfl, rfl, rfl, rfl, rfl, rfl, rfl, rfl, trivial⟩ rfl rfl rfl rfl rfl ?_)
          refine JL_nil ?_
          refine J_then ?_
          refine J_seq ?_
          refine J_region ?_
          refine JL_op rfl (op_read rfl rfl (r_move (v := .pointer (some (Addr.add c_12 0))) rfl) ?_)
          refine J_select (PV' := [.cell c_12 [v_30, .int .i64 x_27.2.1], .row o_Gmem_Block 45 v_30 x_27.1, .cell c_36 [.int .i64 x_32.Kind, .int .i64 x_32.P.Kind, .int .i64 x_32.P.N, .int .i64 x_32.P.Block, .int .i64 x_32.V.Kind, .int .i64 x_32.V.N, .int .i64 x_32.V.Block, .bool x_32.Write]]) [1, 2, 0] (by decide) rfl ?_
          refine JL_op rfl (op_call (f := 17) (fn := Try.f17) (args := [.pointer (some (Addr.add c_12 0))]) (post := mem_Memory_Blocks_post s_28 c_12 v_30 x_27.1 x_27.2.1) [.cell c_12 [v_30, .int .i64 x_27.2.1], .row o_Gmem_Block 45 v_30 x_27.1] [.cell c_36 [.int .i64 x_32.Kind, .int .i64 x_32.P.Kind, .int .i64 x_32.P.N, .int .i64 x_32.P.Block, .int .i64 x_32.V.Kind, .int .i64 x_32.V.N, .int .i64 x_32.V.Block, .bool x_32.Write]] rfl rfl rfl Try.func17 Try.pn17 rfl rfl (fun y st hy hpre => mem_Memory_Blocks_ref st s_28 c_12 v_30 x_27.1 x_27.2.1 hpre y hy) ?_)
          intro r_38 v_40 s_43 PV_41 hr_39 hle_44 hp_42
          obtain ⟨v_46, rfl, rfl, rfl⟩ := hp_42
          refine J_freeze_row 0 rfl rfl fun s_47 hle_48 h_49 => ?_
          refine JL_op rfl (op_read rfl rfl (r_move (v := .pointer (some (Addr.add c_12 0))) rfl) ?_)
          refine JL_op rfl (op_call (f := 13) (fn := Try.f13) (args := [.pointer (some (Addr.add c_12 0))]) (post := mem_Memory_Used_post s_47 c_12 v_30 x_27.1 x_27.2.1) [.cell c_12 [v_30, .int .i64 x_27.2.1], .row o_Gmem_Block 45 v_30 x_27.1] [.cell c_36 [.int .i64 x_32.Kind, .int .i64 x_32.P.Kind, .int .i64 x_32.P.N, .int .i64 x_32.P.Block, .int .i64 x_32.V.Kind, .int .i64 x_32.V.N, .int .i64 x_32.V.Block, .bool x_32.Write]] rfl rfl rfl Try.func13 Try.pn13 rfl rfl (fun y st hy hpre => mem_Memory_Used_ref st s_47 c_12 v_30 x_27.1 x_27.2.1 hpre y hy) ?_)
          intro r_50 v_52 s_55 PV_53 hr_51 hle_56 hp_54
          obtain ⟨rfl, rfl, rfl⟩ := hp_54
          refine JL_op rfl (op_read rfl rfl (r_assign (v := v_46) rfl) ?_)
          refine JL_op rfl (op_read rfl rfl (r_assign (v := .int .i64 x_27.2.1) rfl) ?_)
          refine JL_nil ?_
          refine J_then ?_
          refine J_seq ?_
          refine J_region ?_
          refine JL_op rfl (op_read rfl rfl (r_assign (v := .bool false) rfl) ?_)
          refine JL_op rfl (op_read rfl rfl (r_assign (v := .bool false) rfl) ?_)
          refine JL_nil ?_
          refine J_then ?_
          refine J_seq ?_
          refine J_seq ?_
          refine J_region ?_
          refine JL_op rfl (op_read rfl rfl (r_fieldAddr (r := Addr.add c_36 0) Try.pu58 (f := Try.pf58.getD 0 default) rfl Try.pi3 (by decide) rfl (Addr.add_add _ _ _)) ?_)
          refine JL_op rfl (op_read rfl rfl (r_load_priv (a := c_36) (off := 0) (cs' := [.int .i64 x_32.Kind]) (v := .int .i64 x_32.Kind) 2 Try.pu3 Try.pi3 rfl rfl rfl rfl (by decide) rfl) ?_)
          refine JL_nil ?_
          refine J_then ?_
          refine J_cut (fun (y : (Sl Gmem_Block) × Int × Bool × Bool) e L τ PV => e = .normal ∧ (∃ (w0 : Value), s_47 = τ ∧ L = [(3, .pointer (some (Addr.add c_12 0))), (6, v_46), (7, .int .i64 x_27.2.1), (8, .bool y.2.2.1), (9, .bool y.2.2.2), (27, v_23), (28, .int .i64 s_25.len), (29, .int .i64 x_27.2.2)] ∧ PV = [.cell c_12 [w0, .int .i64 y.2.1], .row o_Gmem_Block 45 w0 y.1])) ?_ ?_
          · refine J_block ?_
            refine J_seq ?_
            refine J_region ?_
            refine JL_op rfl (op_read rfl rfl (r_eql rfl rfl) ?_)
            refine JL_op rfl (op_read rfl rfl (r_assign (v := .bool (decide (x_32.Kind = 1))) rfl) ?_)
            refine JL_nil ?_
            refine J_then ?_
            refine J_cut (fun (y : (Sl Gmem_Block) × Int × Bool × Bool) e L τ PV => e = .normal ∧ (∃ (w0 : Value), s_47 = τ ∧ L = [(3, .pointer (some (Addr.add c_12 0))), (6, v_46), (7, .int .i64 x_27.2.1), (8, .bool y.2.2.1), (9, .bool y.2.2.2), (27, v_23), (28, .int .i64 s_25.len), (29, .int .i64 x_27.2.2)] ∧ PV = [.cell c_12 [w0, .int .i64 y.2.1], .row o_Gmem_Block 45 w0 y.1])) ?_ ?_
            · refine J_cond rfl (fun hc_57 => ?_) (fun hc_57 => ?_)
              · refine J_seq ?_
                refine J_region ?_
                refine JL_op rfl (op_read rfl rfl (r_move (v := .pointer (some (Addr.add c_12 0))) rfl) ?_)
                refine JL_op rfl (op_read rfl rfl (r_fieldAddr (r := Addr.add c_36 1) Try.pu58 (f := Try.pf58.getD 1 default) rfl Try.pi29 (by decide) rfl (Addr.add_add _ _ _)) ?_)
                refine JL_op rfl (op_read rfl rfl (r_fieldAddr (r := Addr.add c_36 2) Try.pu29 (f := Try.pf29.getD 1 default) rfl Try.pi2 (by decide) rfl (Addr.add_add _ _ _)) ?_)
                refine JL_op rfl (op_read rfl rfl (r_load_priv (a := c_36) (off := 2) (cs' := [.int .i64 x_32.P.N]) (v := .int .i64 x_32.P.N) 2 Try.pu2 Try.pi2 rfl rfl rfl rfl (by decide) rfl) ?_)
                refine JL_op rfl (op_call (f := 12) (fn := Try.f12) (args := [.pointer (some (Addr.add c_12 0)), .int .i64 x_32.P.N]) (post := mem_Memory_Alloc_post s_47 c_12 v_30 x_27.1 x_27.2.1 x_32.P.N) [.cell c_12 [v_30, .int .i64 x_27.2.1], .row o_Gmem_Block 45 v_30 x_27.1] [.cell c_36 [.int .i64 x_32.Kind, .int .i64 x_32.P.Kind, .int .i64 x_32.P.N, .int .i64 x_32.P.Block, .int .i64 x_32.V.Kind, .int .i64 x_32.V.N, .int .i64 x_32.V.Block, .bool x_32.Write]] rfl rfl rfl Try.func12 Try.pn12 rfl rfl (fun y st hy hpre => mem_Memory_Alloc_ref st s_47 c_12 v_30 x_27.1 x_27.2.1 x_32.P.N hpre y hy) ?_)
                intro r_58 v_60 s_63 PV_61 hr_59 hle_64 hp_62
                obtain ⟨v_65, rfl, rfl, rfl⟩ := hp_62
                refine JL_op rfl (op_read rfl rfl (r_move (v := .tuple #[.agg #[.int .i64 r_58.1.Kind, .int .i64 r_58.1.N, .int .i64 r_58.1.Block], .bool r_58.2.1]) rfl) ?_)
                refine JL_op rfl (op_read rfl rfl (r_extract (v := .agg #[.int .i64 r_58.1.Kind, .int .i64 r_58.1.N, .int .i64 r_58.1.Block]) rfl rfl) ?_)
                refine JL_op rfl (op_read rfl rfl (r_extract (v := .bool r_58.2.1) rfl rfl) ?_)
                refine JL_op rfl (op_alloc (cs := [.int .i64 0, .int .i64 0, .int .i64 0]) rfl Try.pi29 rfl rfl ?_)
                intro c_66
                refine JL_op rfl (op_store_priv (a := c_66) (off := 0) (vs := [.int .i64 r_58.1.Kind, .int .i64 r_58.1.N, .int .i64 r_58.1.Block]) (cs' := [.int .i64 r_58.1.Kind, .int .i64 r_58.1.N, .int .i64 r_58.1.Block]) (PV' := [.cell c_66 [.int .i64 r_58.1.Kind, .int .i64 r_58.1.N, .int .i64 r_58.1.Block], .cell c_12 [v_65, .int .i64 r_58.2.2.2], .row o_Gmem_Block 45 v_65 r_58.2.2.1, .cell c_36 [.int .i64 x_32.Kind, .int .i64 x_32.P.Kind, .int .i64 x_32.P.N, .int .i64 x_32.P.Block, .int .i64 x_32.V.Kind, .int .i64 x_32.V.N, .int .i64 x_32.V.Block, .bool x_32.Write]]) 0 Try.pi29 rfl rfl rfl ⟨rfl, rfl, rfl, trivial⟩ rfl rfl rfl rfl rfl ?_)
                refine JL_op rfl (op_read rfl rfl (r_assign (v := .bool r_58.2.1) rfl) ?_)
                refine JL_nil ?_
                refine J_then ?_
                refine J_region ?_
                refine JL_op rfl (op_read rfl rfl (r_move (v := .bool r_58.2.1) rfl) ?_)
                refine JL_op rfl (op_read rfl rfl (r_not rfl) ?_)
                refine JL_op rfl (op_read rfl rfl (r_assign (v := .bool (!r_58.2.1)) rfl) ?_)
                refine JL_nil ?_
                refine J_select (PV' := [.cell c_12 [v_65, .int .i64 r_58.2.2.2], .row o_Gmem_Block 45 v_65 r_58.2.2.1]) [1, 2] (by decide) rfl ?_
                refine J_cut_end _ ?_ ⟨rfl, v_65, rfl, rfl, rfl⟩ trivial
                exact ⟨rfl, rfl, rfl, rfl, rfl, rfl, rfl, rfl, trivial⟩
              · refine J_seq ?_
                refine J_region ?_
                refine JL_op rfl (op_read rfl rfl (r_eql rfl rfl) ?_)
                refine JL_op rfl (op_read rfl rfl (r_assign (v := .bool (decide (x_32.Kind = 2))) rfl) ?_)
                refine JL_nil ?_
                refine J_then ?_
                refine J_cut (fun (y : (Sl Gmem_Block) × Bool × Bool) e L τ PV => e = .normal ∧ (s_47 = τ ∧ L = [(3, .pointer (some (Addr.add c_12 0))), (6, v_46), (7, .int .i64 x_27.2.1), (8, .bool y.2.1), (9, .bool y.2.2), (27, v_23), (28, .int .i64 s_25.len), (29, .int .i64 x_27.2.2)] ∧ PV = [.cell c_12 [v_30, .int .i64 x_27.2.1], .row o_Gmem_Block 45 v_30 y.1])) ?_ ?_
                · refine J_cond rfl (fun hc_68 => ?_) (fun hc_68 => ?_)
                  · refine J_region ?_
                    refine JL_op rfl (op_read rfl rfl (r_move (v := .pointer (some (Addr.add c_12 0))) rfl) ?_)
                    refine JL_op rfl (op_read rfl rfl (r_fieldAddr (r := Addr.add c_36 1) Try.pu58 (f := Try.pf58.getD 1 default) rfl Try.pi29 (by decide) rfl (Addr.add_add _ _ _)) ?_)
                    refine JL_op rfl (op_read rfl rfl (r_load_priv (a := c_36) (off := 1) (cs' := [.int .i64 x_32.P.Kind, .int .i64 x_32.P.N, .int .i64 x_32.P.Block]) (v := .agg #[.int .i64 x_32.P.Kind, .int .i64 x_32.P.N, .int .i64 x_32.P.Block]) 2 Try.pu29 Try.pi29 rfl rfl rfl rfl (by decide) rfl) ?_)
                    refine JL_op rfl (op_call (f := 14) (fn := Try.f14) (args := [.pointer (some (Addr.add c_12 0)), .agg #[.int .i64 x_32.P.Kind, .int .i64 x_32.P.N, .int .i64 x_32.P.Block]]) (post := mem_Memory_Free_post s_47 c_12 v_30 x_27.1 x_27.2.1 (.agg #[.int .i64 x_32.P.Kind, .int .i64 x_32.P.N, .int .i64 x_32.P.Block]) x_32.P) [.cell c_12 [v_30, .int .i64 x_27.2.1], .row o_Gmem_Block 45 v_30 x_27.1] [.cell c_36 [.int .i64 x_32.Kind, .int .i64 x_32.P.Kind, .int .i64 x_32.P.N, .int .i64 x_32.P.Block, .int .i64 x_32.V.Kind, .int .i64 x_32.V.N, .int .i64 x_32.V.Block, .bool x_32.Write]] rfl rfl rfl Try.func14 Try.pn14 rfl rfl (fun y st hy hpre => mem_Memory_Free_ref st s_47 c_12 v_30 x_27.1 x_27.2.1 (.agg #[.int .i64 x_32.P.Kind, .int .i64 x_32.P.N, .int .i64 x_32.P.Block]) x_32.P (t_Gmem_Value_v.2 rfl) hpre y hy) ?_)
                    intro r_69 v_71 s_74 PV_72 hr_70 hle_75 hp_73
                    obtain ⟨rfl, rfl, rfl⟩ := hp_73
                    refine JL_op rfl (op_read rfl rfl (r_neq rfl rfl) ?_)
                    refine JL_op rfl (op_read rfl rfl (r_assign (v := .bool (decide (r_69.1 ≠ 0))) rfl) ?_)
                    refine JL_nil ?_
                    refine J_select (PV' := [.cell c_12 [v_30, .int .i64 x_27.2.1], .row o_Gmem_Block 45 v_30 r_69.2]) [0, 1] (by decide) rfl ?_
                    refine J_cut_end _ ?_ ⟨rfl, rfl, rfl, rfl⟩ trivial
                    exact ⟨rfl, rfl, rfl, rfl, rfl, rfl, rfl, rfl, trivial⟩
                  · refine J_seq ?_
                    refine J_region ?_
                    refine JL_op rfl (op_read rfl rfl (r_eql rfl rfl) ?_)
                    refine JL_op rfl (op_read rfl rfl (r_assign (v := .bool (decide (x_32.Kind = 3))) rfl) ?_)
                    refine JL_nil ?_
                    refine J_then ?_
                    refine J_cut (fun (y : (Sl Gmem_Block) × Bool × Bool) e L τ PV => e = .normal ∧ (s_47 = τ ∧ L = [(3, .pointer (some (Addr.add c_12 0))), (6, v_46), (7, .int .i64 x_27.2.1), (8, .bool y.2.1), (9, .bool y.2.2), (27, v_23), (28, .int .i64 s_25.len), (29, .int .i64 x_27.2.2)] ∧ PV = [.cell c_12 [v_30, .int .i64 x_27.2.1], .row o_Gmem_Block 45 v_30 y.1])) ?_ ?_
                    · refine J_cond rfl (fun hc_76 => ?_) (fun hc_76 => ?_)
                      · refine J_region ?_
                        refine JL_op rfl (op_read rfl rfl (r_move (v := .pointer (some (Addr.add c_12 0))) rfl) ?_)
                        refine JL_op rfl (op_read rfl rfl (r_fieldAddr (r := Addr.add c_36 1) Try.pu58 (f := Try.pf58.getD 1 default) rfl Try.pi29 (by decide) rfl (Addr.add_add _ _ _)) ?_)
                        refine JL_op rfl (op_read rfl rfl (r_load_priv (a := c_36) (off := 1) (cs' := [.int .i64 x_32.P.Kind, .int .i64 x_32.P.N, .int .i64 x_32.P.Block]) (v := .agg #[.int .i64 x_32.P.Kind, .int .i64 x_32.P.N, .int .i64 x_32.P.Block]) 2 Try.pu29 Try.pi29 rfl rfl rfl rfl (by decide) rfl) ?_)
                        refine JL_op rfl (op_read rfl rfl (r_fieldAddr (r := Addr.add c_36 7) Try.pu58 (f := Try.pf58.getD 3 default) rfl Try.pi4 (by decide) rfl (Addr.add_add _ _ _)) ?_)
                        refine JL_op rfl (op_read rfl rfl (r_load_priv (a := c_36) (off := 7) (cs' := [.bool x_32.Write]) (v := .bool x_32.Write) 2 Try.pu4 Try.pi4 rfl rfl rfl rfl (by decide) rfl) ?_)
                        refine JL_op rfl (op_call (f := 15) (fn := Try.f15) (args := [.pointer (some (Addr.add c_12 0)), .agg #[.int .i64 x_32.P.Kind, .int .i64 x_32.P.N, .int .i64 x_32.P.Block], .bool x_32.Write]) (post := mem_Memory_Begin_post s_47 c_12 v_30 x_27.1 x_27.2.1 (.agg #[.int .i64 x_32.P.Kind, .int .i64 x_32.P.N, .int .i64 x_32.P.Block]) x_32.P x_32.Write) [.cell c_12 [v_30, .int .i64 x_27.2.1], .row o_Gmem_Block 45 v_30 x_27.1] [.cell c_36 [.int .i64 x_32.Kind, .int .i64 x_32.P.Kind, .int .i64 x_32.P.N, .int .i64 x_32.P.Block, .int .i64 x_32.V.Kind, .int .i64 x_32.V.N, .int .i64 x_32.V.Block, .bool x_32.Write]] rfl rfl rfl Try.func15 Try.pn15 rfl rfl (fun y st hy hpre => mem_Memory_Begin_ref st s_47 c_12 v_30 x_27.1 x_27.2.1 (.agg #[.int .i64 x_32.P.Kind, .int .i64 x_32.P.N, .int .i64 x_32.P.Block]) x_32.P (t_Gmem_Value_v.2 rfl) x_32.Write hpre y hy) ?_)
                        intro r_77 v_79 s_82 PV_80 hr_78 hle_83 hp_81
                        obtain ⟨rfl, rfl, rfl⟩ := hp_81
                        refine JL_op rfl (op_read rfl rfl (r_neq rfl rfl) ?_)
                        refine JL_op rfl (op_read rfl rfl (r_assign (v := .bool (decide (r_77.1 ≠ 0))) rfl) ?_)
                        refine JL_nil ?_
                        refine J_select (PV' := [.cell c_12 [v_30, .int .i64 x_27.2.1], .row o_Gmem_Block 45 v_30 r_77.2]) [0, 1] (by decide) rfl ?_
                        refine J_cut_end _ ?_ ⟨rfl, rfl, rfl, rfl⟩ trivial
                        exact ⟨rfl, rfl, rfl, rfl, rfl, rfl, rfl, rfl, trivial⟩
                      · refine J_seq ?_
                        refine J_region ?_
                        refine JL_op rfl (op_read rfl rfl (r_eql rfl rfl) ?_)
                        refine JL_op rfl (op_read rfl rfl (r_assign (v := .bool (decide (x_32.Kind = 4))) rfl) ?_)
                        refine JL_nil ?_
                        refine J_then ?_
                        refine J_cut (fun (y : (Sl Gmem_Block) × Bool × Bool) e L τ PV => e = .normal ∧ (s_47 = τ ∧ L = [(3, .pointer (some (Addr.add c_12 0))), (6, v_46), (7, .int .i64 x_27.2.1), (8, .bool y.2.1), (9, .bool y.2.2), (27, v_23), (28, .int .i64 s_25.len), (29, .int .i64 x_27.2.2)] ∧ PV = [.cell c_12 [v_30, .int .i64 x_27.2.1], .row o_Gmem_Block 45 v_30 y.1])) ?_ ?_
                        · refine J_cond rfl (fun hc_84 => ?_) (fun hc_84 => ?_)
                          · refine J_seq ?_
                            refine J_region ?_
                            refine JL_op rfl (op_read rfl rfl (r_move (v := .pointer (some (Addr.add c_12 0))) rfl) ?_)
                            refine JL_op rfl (op_read rfl rfl (r_fieldAddr (r := Addr.add c_36 1) Try.pu58 (f := Try.pf58.getD 1 default) rfl Try.pi29 (by decide) rfl (Addr.add_add _ _ _)) ?_)
                            refine JL_op rfl (op_read rfl rfl (r_load_priv (a := c_36) (off := 1) (cs' := [.int .i64 x_32.P.Kind, .int .i64 x_32.P.N, .int .i64 x_32.P.Block]) (v := .agg #[.int .i64 x_32.P.Kind, .int .i64 x_32.P.N, .int .i64 x_32.P.Block]) 2 Try.pu29 Try.pi29 rfl rfl rfl rfl (by decide) rfl) ?_)
                            refine JL_op rfl (op_read rfl rfl (r_fieldAddr (r := Addr.add c_36 7) Try.pu58 (f := Try.pf58.getD 3 default) rfl Try.pi4 (by decide) rfl (Addr.add_add _ _ _)) ?_)
                            refine JL_op rfl (op_read rfl rfl (r_load_priv (a := c_36) (off := 7) (cs' := [.bool x_32.Write]) (v := .bool x_32.Write) 2 Try.pu4 Try.pi4 rfl rfl rfl rfl (by decide) rfl) ?_)
                            refine JL_op rfl (op_read rfl rfl (r_fieldAddr (r := Addr.add c_36 4) Try.pu58 (f := Try.pf58.getD 2 default) rfl Try.pi29 (by decide) rfl (Addr.add_add _ _ _)) ?_)
                            refine JL_op rfl (op_read rfl rfl (r_load_priv (a := c_36) (off := 4) (cs' := [.int .i64 x_32.V.Kind, .int .i64 x_32.V.N, .int .i64 x_32.V.Block]) (v := .agg #[.int .i64 x_32.V.Kind, .int .i64 x_32.V.N, .int .i64 x_32.V.Block]) 2 Try.pu29 Try.pi29 rfl rfl rfl rfl (by decide) rfl) ?_)
                            refine JL_op rfl (op_call (f := 16) (fn := Try.f16) (args := [.pointer (some (Addr.add c_12 0)), .agg #[.int .i64 x_32.P.Kind, .int .i64 x_32.P.N, .int .i64 x_32.P.Block], .bool x_32.Write, .agg #[.int .i64 x_32.V.Kind, .int .i64 x_32.V.N, .int .i64 x_32.V.Block]]) (post := mem_Memory_End_post s_47 c_12 v_30 x_27.1 x_27.2.1 (.agg #[.int .i64 x_32.P.Kind, .int .i64 x_32.P.N, .int .i64 x_32.P.Block]) x_32.P x_32.Write (.agg #[.int .i64 x_32.V.Kind, .int .i64 x_32.V.N, .int .i64 x_32.V.Block]) x_32.V) [.cell c_12 [v_30, .int .i64 x_27.2.1], .row o_Gmem_Block 45 v_30 x_27.1] [.cell c_36 [.int .i64 x_32.Kind, .int .i64 x_32.P.Kind, .int .i64 x_32.P.N, .int .i64 x_32.P.Block, .int .i64 x_32.V.Kind, .int .i64 x_32.V.N, .int .i64 x_32.V.Block, .bool x_32.Write]] rfl rfl rfl Try.func16 Try.pn16 rfl rfl (fun y st hy hpre => mem_Memory_End_ref st s_47 c_12 v_30 x_27.1 x_27.2.1 (.agg #[.int .i64 x_32.P.Kind, .int .i64 x_32.P.N, .int .i64 x_32.P.Block]) x_32.P (t_Gmem_Value_v.2 rfl) x_32.Write (.agg #[.int .i64 x_32.V.Kind, .int .i64 x_32.V.N, .int .i64 x_32.V.Block]) x_32.V (t_Gmem_Value_v.2 rfl) hpre y hy) ?_)
                            intro r_85 v_87 s_90 PV_88 hr_86 hle_91 hp_89
                            obtain ⟨rfl, rfl, rfl⟩ := hp_89
                            refine JL_op rfl (op_read rfl rfl (r_move (v := .tuple #[.agg #[.int .i64 r_85.1.Kind, .int .i64 r_85.1.N, .int .i64 r_85.1.Block], .int .i64 r_85.2.1]) rfl) ?_)
                            refine JL_op rfl (op_read rfl rfl (r_extract (v := .agg #[.int .i64 r_85.1.Kind, .int .i64 r_85.1.N, .int .i64 r_85.1.Block]) rfl rfl) ?_)
                            refine JL_op rfl (op_read rfl rfl (r_extract (v := .int .i64 r_85.2.1) rfl rfl) ?_)
                            refine JL_op rfl (op_alloc (cs := [.int .i64 0, .int .i64 0, .int .i64 0]) rfl Try.pi29 rfl rfl ?_)
                            intro c_92
                            refine JL_op rfl (op_store_priv (a := c_92) (off := 0) (vs := [.int .i64 r_85.1.Kind, .int .i64 r_85.1.N, .int .i64 r_85.1.Block]) (cs' := [.int .i64 r_85.1.Kind, .int .i64 r_85.1.N, .int .i64 r_85.1.Block]) (PV' := [.cell c_92 [.int .i64 r_85.1.Kind, .int .i64 r_85.1.N, .int .i64 r_85.1.Block], .cell c_12 [v_30, .int .i64 x_27.2.1], .row o_Gmem_Block 45 v_30 r_85.2.2, .cell c_36 [.int .i64 x_32.Kind, .int .i64 x_32.P.Kind, .int .i64 x_32.P.N, .int .i64 x_32.P.Block, .int .i64 x_32.V.Kind, .int .i64 x_32.V.N, .int .i64 x_32.V.Block, .bool x_32.Write]]) 0 Try.pi29 rfl rfl rfl ⟨rfl, rfl, rfl, trivial⟩ rfl rfl rfl rfl rfl ?_)
                            refine JL_op rfl (op_read rfl rfl (r_assign (v := .int .i64 r_85.2.1) rfl) ?_)
                            refine JL_nil ?_
                            refine J_then ?_
                            refine J_region ?_
                            refine JL_op rfl (op_read rfl rfl (r_move (v := .int .i64 r_85.2.1) rfl) ?_)
                            refine JL_op rfl (op_read rfl rfl (r_neq rfl rfl) ?_)
                            refine JL_op rfl (op_read rfl rfl (r_move (v := .int .i64 r_85.2.1) rfl) ?_)
                            refine JL_op rfl (op_read rfl rfl (r_eql rfl rfl) ?_)
                            refine JL_op rfl (op_read rfl rfl (r_assign (v := .bool (decide (r_85.2.1 ≠ 0))) rfl) ?_)
                            refine JL_op rfl (op_read rfl rfl (r_assign (v := .bool (decide (r_85.2.1 = 4))) rfl) ?_)
                            refine JL_nil ?_
                            refine J_select (PV' := [.cell c_12 [v_30, .int .i64 x_27.2.1], .row o_Gmem_Block 45 v_30 r_85.2.2]) [1, 2] (by decide) rfl ?_
                            refine J_cut_end _ ?_ ⟨rfl, rfl, rfl, rfl⟩ trivial
                            exact ⟨rfl, rfl, rfl, rfl, rfl, rfl, rfl, rfl, trivial⟩
                          · refine J_seq ?_
                            refine J_region ?_
                            refine JL_op rfl (op_read rfl rfl (r_eql rfl rfl) ?_)
                            refine JL_op rfl (op_read rfl rfl (r_assign (v := .bool (decide (x_32.Kind = 5))) rfl) ?_)
                            refine JL_nil ?_
                            refine J_then ?_
                            refine J_cut (fun (y : (Sl Gmem_Block) × Bool) e L τ PV => e = .normal ∧ (s_47 = τ ∧ L = [(3, .pointer (some (Addr.add c_12 0))), (6, v_46), (7, .int .i64 x_27.2.1), (8, .bool y.2), (9, .bool false), (27, v_23), (28, .int .i64 s_25.len), (29, .int .i64 x_27.2.2)] ∧ PV = [.cell c_12 [v_30, .int .i64 x_27.2.1], .row o_Gmem_Block 45 v_30 y.1])) ?_ ?_
                            · refine J_cond rfl (fun hc_94 => ?_) (fun hc_94 => ?_)
                              · refine J_seq ?_
                                refine J_region ?_
                                refine JL_op rfl (op_read rfl rfl (r_move (v := .pointer (some (Addr.add c_12 0))) rfl) ?_)
                                refine JL_op rfl (op_read rfl rfl (r_fieldAddr (r := Addr.add c_36 1) Try.pu58 (f := Try.pf58.getD 1 default) rfl Try.pi29 (by decide) rfl (Addr.add_add _ _ _)) ?_)
                                refine JL_op rfl (op_read rfl rfl (r_load_priv (a := c_36) (off := 1) (cs' := [.int .i64 x_32.P.Kind, .int .i64 x_32.P.N, .int .i64 x_32.P.Block]) (v := .agg #[.int .i64 x_32.P.Kind, .int .i64 x_32.P.N, .int .i64 x_32.P.Block]) 2 Try.pu29 Try.pi29 rfl rfl rfl rfl (by decide) rfl) ?_)
                                refine JL_op rfl (op_call (f := 18) (fn := Try.f18) (args := [.pointer (some (Addr.add c_12 0)), .agg #[.int .i64 x_32.P.Kind, .int .i64 x_32.P.N, .int .i64 x_32.P.Block]]) (post := mem_Memory_Lock_post s_47 c_12 v_30 x_27.1 x_27.2.1 (.agg #[.int .i64 x_32.P.Kind, .int .i64 x_32.P.N, .int .i64 x_32.P.Block]) x_32.P) [.cell c_12 [v_30, .int .i64 x_27.2.1], .row o_Gmem_Block 45 v_30 x_27.1] [.cell c_36 [.int .i64 x_32.Kind, .int .i64 x_32.P.Kind, .int .i64 x_32.P.N, .int .i64 x_32.P.Block, .int .i64 x_32.V.Kind, .int .i64 x_32.V.N, .int .i64 x_32.V.Block, .bool x_32.Write]] rfl rfl rfl Try.func18 Try.pn18 rfl rfl (fun y st hy hpre => mem_Memory_Lock_ref st s_47 c_12 v_30 x_27.1 x_27.2.1 (.agg #[.int .i64 x_32.P.Kind, .int .i64 x_32.P.N, .int .i64 x_32.P.Block]) x_32.P (t_Gmem_Value_v.2 rfl) hpre y hy) ?_)
                                intro r_95 v_97 s_100 PV_98 hr_96 hle_101 hp_99
                                obtain ⟨rfl, rfl, rfl⟩ := hp_99
                                refine JL_op rfl (op_read rfl rfl (r_move (v := .tuple #[.bool r_95.1, .int .i64 r_95.2.1]) rfl) ?_)
                                refine JL_op rfl (op_read rfl rfl (r_extract (v := .bool r_95.1) rfl rfl) ?_)
                                refine JL_op rfl (op_read rfl rfl (r_extract (v := .int .i64 r_95.2.1) rfl rfl) ?_)
                                refine JL_op rfl (op_read rfl rfl (r_assign (v := .bool r_95.1) rfl) ?_)
                                refine JL_op rfl (op_read rfl rfl (r_assign (v := .int .i64 r_95.2.1) rfl) ?_)
                                refine JL_nil ?_
                                refine J_then ?_
                                refine J_region ?_
                                refine JL_op rfl (op_read rfl rfl (r_move (v := .int .i64 r_95.2.1) rfl) ?_)
                                refine JL_op rfl (op_read rfl rfl (r_neq rfl rfl) ?_)
                                refine JL_op rfl (op_read rfl rfl (r_move (v := .bool (decide (r_95.2.1 ≠ 0))) rfl) ?_)
                                refine J_forkL (e := (decide (r_95.2.1 ≠ 0))) 3 [(3, .pointer (some (Addr.add c_12 0))), (6, v_46), (7, .int .i64 x_27.2.1), (9, .bool false), (27, v_23), (28, .int .i64 s_25.len), (29, .int .i64 x_27.2.2), (98, .bool (decide (r_95.2.1 ≠ 0) || !r_95.1))] (fun hc_102 hk => ?_) (fun hc_102 hk => ?_) (fun b => ?_)
                                · refine JL_skip rfl rfl hc_102 rfl rfl ?_
                                  refine JL_skip rfl rfl hc_102 rfl rfl ?_
                                  refine JL_op rfl (op_read rfl rfl (r_pick_t (v := .bool true) rfl hc_102 rfl) ?_)
                                  refine J_prune [(3, .pointer (some (Addr.add c_12 0))), (6, v_46), (7, .int .i64 x_27.2.1), (9, .bool false), (27, v_23), (28, .int .i64 s_25.len), (29, .int .i64 x_27.2.2), (98, .bool (decide (r_95.2.1 ≠ 0) || !r_95.1))] ⟨rfl, rfl, rfl, rfl, rfl, rfl, rfl, (by show Value.bool _ = Value.bool _; rw [hc_102]; rfl), trivial⟩ hk
                                · refine JL_opg rfl rfl hc_102 (op_read rfl rfl (r_move (v := .bool r_95.1) rfl) ?_)
                                  refine JL_opg rfl rfl hc_102 (op_read rfl rfl (r_not rfl) ?_)
                                  refine JL_op rfl (op_read rfl rfl (r_pick_f (v := .bool (!r_95.1)) rfl hc_102 rfl) ?_)
                                  refine J_prune [(3, .pointer (some (Addr.add c_12 0))), (6, v_46), (7, .int .i64 x_27.2.1), (9, .bool false), (27, v_23), (28, .int .i64 s_25.len), (29, .int .i64 x_27.2.2), (98, .bool (decide (r_95.2.1 ≠ 0) || !r_95.1))] ⟨rfl, rfl, rfl, rfl, rfl, rfl, rfl, (by show Value.bool _ = Value.bool _; rw [hc_102]; rfl), trivial⟩ hk
                                · refine JL_op rfl (op_read rfl rfl (r_assign (v := .bool (decide (r_95.2.1 ≠ 0) || !r_95.1)) rfl) ?_)
                                  refine JL_nil ?_
                                  refine J_select (PV' := [.cell c_12 [v_30, .int .i64 x_27.2.1], .row o_Gmem_Block 45 v_30 r_95.2.2]) [0, 1] (by decide) rfl ?_
                                  refine J_cut_end _ ?_ ⟨rfl, rfl, rfl, rfl⟩ trivial
                                  exact ⟨rfl, rfl, rfl, rfl, rfl, rfl, rfl, rfl, trivial⟩
                              · refine J_seq ?_
                                refine J_region ?_
                                refine JL_op rfl (op_read rfl rfl (r_eql rfl rfl) ?_)
                                refine JL_op rfl (op_read rfl rfl (r_assign (v := .bool (decide (x_32.Kind = 6))) rfl) ?_)
                                refine JL_nil ?_
                                refine J_then ?_
                                refine J_cut (fun (y : (Sl Gmem_Block) × Bool) e L τ PV => e = .normal ∧ (s_47 = τ ∧ L = [(3, .pointer (some (Addr.add c_12 0))), (6, v_46), (7, .int .i64 x_27.2.1), (8, .bool y.2), (9, .bool false), (27, v_23), (28, .int .i64 s_25.len), (29, .int .i64 x_27.2.2)] ∧ PV = [.cell c_12 [v_30, .int .i64 x_27.2.1], .row o_Gmem_Block 45 v_30 y.1])) ?_ ?_
                                · refine J_cond rfl (fun hc_103 => ?_) (fun hc_103 => ?_)
                                  · refine J_region ?_
                                    refine JL_op rfl (op_read rfl rfl (r_move (v := .pointer (some (Addr.add c_12 0))) rfl) ?_)
                                    refine JL_op rfl (op_read rfl rfl (r_fieldAddr (r := Addr.add c_36 1) Try.pu58 (f := Try.pf58.getD 1 default) rfl Try.pi29 (by decide) rfl (Addr.add_add _ _ _)) ?_)
                                    refine JL_op rfl (op_read rfl rfl (r_load_priv (a := c_36) (off := 1) (cs' := [.int .i64 x_32.P.Kind, .int .i64 x_32.P.N, .int .i64 x_32.P.Block]) (v := .agg #[.int .i64 x_32.P.Kind, .int .i64 x_32.P.N, .int .i64 x_32.P.Block]) 2 Try.pu29 Try.pi29 rfl rfl rfl rfl (by decide) rfl) ?_)
                                    refine JL_op rfl (op_call (f := 19) (fn := Try.f19) (args := [.pointer (some (Addr.add c_12 0)), .agg #[.int .i64 x_32.P.Kind, .int .i64 x_32.P.N, .int .i64 x_32.P.Block]]) (post := mem_Memory_Unlock_post s_47 c_12 v_30 x_27.1 x_27.2.1 (.agg #[.int .i64 x_32.P.Kind, .int .i64 x_32.P.N, .int .i64 x_32.P.Block]) x_32.P) [.cell c_12 [v_30, .int .i64 x_27.2.1], .row o_Gmem_Block 45 v_30 x_27.1] [.cell c_36 [.int .i64 x_32.Kind, .int .i64 x_32.P.Kind, .int .i64 x_32.P.N, .int .i64 x_32.P.Block, .int .i64 x_32.V.Kind, .int .i64 x_32.V.N, .int .i64 x_32.V.Block, .bool x_32.Write]] rfl rfl rfl Try.func19 Try.pn19 rfl rfl (fun y st hy hpre => mem_Memory_Unlock_ref st s_47 c_12 v_30 x_27.1 x_27.2.1 (.agg #[.int .i64 x_32.P.Kind, .int .i64 x_32.P.N, .int .i64 x_32.P.Block]) x_32.P (t_Gmem_Value_v.2 rfl) hpre y hy) ?_)
                                    intro r_104 v_106 s_109 PV_107 hr_105 hle_110 hp_108
                                    obtain ⟨rfl, rfl, rfl⟩ := hp_108
                                    refine JL_op rfl (op_read rfl rfl (r_neq rfl rfl) ?_)
                                    refine JL_op rfl (op_read rfl rfl (r_assign (v := .bool (decide (r_104.1 ≠ 0))) rfl) ?_)
                                    refine JL_nil ?_
                                    refine J_select (PV' := [.cell c_12 [v_30, .int .i64 x_27.2.1], .row o_Gmem_Block 45 v_30 r_104.2]) [0, 1] (by decide) rfl ?_
                                    refine J_cut_end _ ?_ ⟨rfl, rfl, rfl, rfl⟩ trivial
                                    exact ⟨rfl, rfl, rfl, rfl, rfl, rfl, rfl, rfl, trivial⟩
                                  · refine J_skip ?_
                                    refine J_select (PV' := [.cell c_12 [v_30, .int .i64 x_27.2.1], .row o_Gmem_Block 45 v_30 x_27.1]) [0, 1] (by decide) rfl ?_
                                    refine J_cut_end _ ?_ ⟨rfl, rfl, rfl, rfl⟩ trivial
                                    exact ⟨rfl, rfl, rfl, rfl, rfl, rfl, rfl, rfl, trivial⟩
                                · rintro y_111 _ _ b s_114 _ ⟨rfl, ⟨rfl, rfl, rfl⟩⟩
                                  refine J_cut_end _ ?_ ⟨rfl, rfl, rfl, rfl⟩ trivial
                                  exact ⟨rfl, rfl, rfl, rfl, rfl, rfl, rfl, rfl, trivial⟩
                            · rintro y_115 _ _ b s_118 _ ⟨rfl, ⟨rfl, rfl, rfl⟩⟩
                              refine J_cut_end _ ?_ ⟨rfl, rfl, rfl, rfl⟩ trivial
                              exact ⟨rfl, rfl, rfl, rfl, rfl, rfl, rfl, rfl, trivial⟩
                        · rintro y_119 _ _ b s_122 _ ⟨rfl, ⟨rfl, rfl, rfl⟩⟩
                          refine J_cut_end _ ?_ ⟨rfl, rfl, rfl, rfl⟩ trivial
                          exact ⟨rfl, rfl, rfl, rfl, rfl, rfl, rfl, rfl, trivial⟩
                    · rintro y_123 _ _ b s_126 _ ⟨rfl, ⟨rfl, rfl, rfl⟩⟩
                      refine J_cut_end _ ?_ ⟨rfl, rfl, rfl, rfl⟩ trivial
                      exact ⟨rfl, rfl, rfl, rfl, rfl, rfl, rfl, rfl, trivial⟩
                · rintro y_127 _ _ b s_130 _ ⟨rfl, ⟨rfl, rfl, rfl⟩⟩
                  refine J_cut_end _ ?_ ⟨rfl, v_30, rfl, rfl, rfl⟩ trivial
                  exact ⟨rfl, rfl, rfl, rfl, rfl, rfl, rfl, rfl, trivial⟩
            · rintro y_131 _ _ b s_135 _ ⟨rfl, ⟨v_134, rfl, rfl, rfl⟩⟩
              refine J_in_normal ?_
              refine J_cut_end _ ?_ ⟨rfl, v_134, rfl, rfl, rfl⟩ trivial
              exact ⟨rfl, rfl, rfl, rfl, rfl, rfl, rfl, rfl, trivial⟩
          · rintro y_136 _ _ b s_140 _ ⟨rfl, ⟨v_139, rfl, rfl, rfl⟩⟩
            refine J_then ?_
            refine J_seq ?_
            refine J_region ?_
            refine JL_op rfl (op_read rfl rfl (r_move (v := .pointer (some (Addr.add c_12 0))) rfl) ?_)
            refine JL_op rfl (op_call (f := 17) (fn := Try.f17) (args := [.pointer (some (Addr.add c_12 0))]) (post := mem_Memory_Blocks_post s_47 c_12 v_139 y_136.1 y_136.2.1) [.cell c_12 [v_139, .int .i64 y_136.2.1], .row o_Gmem_Block 45 v_139 y_136.1] [] rfl rfl rfl Try.func17 Try.pn17 rfl rfl (fun y st hy hpre => mem_Memory_Blocks_ref st s_47 c_12 v_139 y_136.1 y_136.2.1 hpre y hy) ?_)
            intro r_141 v_143 s_146 PV_144 hr_142 hle_147 hp_145
            obtain ⟨v_149, rfl, rfl, rfl⟩ := hp_145
            refine J_freeze_row 0 rfl rfl fun s_150 hle_151 h_152 => ?_
            refine JL_op rfl (op_read rfl rfl (r_assign (v := v_149) rfl) ?_)
            refine JL_nil ?_
            refine J_then ?_
            refine J_seq ?_
            refine J_seq ?_
            refine J_region ?_
            refine JL_op rfl (op_read rfl rfl (r_move (v := .bool y_136.2.2.1) rfl) ?_)
            refine JL_op rfl (op_read rfl rfl (r_not rfl) ?_)
            refine JL_nil ?_
            refine J_then ?_
            refine J_cond rfl (fun hc_153 => ?_) (fun hc_153 => ?_)
            · refine J_exit ?_
              refine J_then_exit ?_
              refine J_in_exit ?_
              refine J_cut_end _ ?_ ⟨rfl, v_139, (FS.le.trans hle_48 hle_151), rfl, rfl⟩ trivial
              exact ⟨rfl, rfl, rfl, rfl, trivial⟩
            · refine J_skip ?_
              refine J_then ?_
              refine J_seq ?_
              refine J_seq ?_
              refine J_region ?_
              refine JL_op rfl (op_read rfl rfl (r_move (v := v_149) rfl) ?_)
              refine JL_op rfl (op_read rfl rfl (r_len_frozen (v := v_149) Try.pu41 rfl h_152) ?_)
              refine JL_op rfl (op_read rfl rfl (r_move (v := v_46) rfl) ?_)
              refine JL_op rfl (op_read rfl rfl (r_len_frozen (v := v_46) Try.pu41 rfl (Ty.vmono _ hle_151 h_49)) ?_)
              refine JL_op rfl (op_read rfl rfl (r_neq rfl rfl) ?_)
              refine JL_op rfl (op_read rfl rfl (r_move (v := .bool (decide (r_141.len ≠ r_38.len))) rfl) ?_)
              refine J_forkLB (e := (decide (r_141.len ≠ r_38.len))) 5 (fun (y : Bool) L τ PV => s_150 = τ ∧ L = [(3, .pointer (some (Addr.add c_12 0))), (6, v_46), (9, .bool y_136.2.2.2), (16, v_149), (27, v_23), (28, .int .i64 s_25.len), (29, .int .i64 x_27.2.2), (120, .bool y)] ∧ PV = [.cell c_12 [v_139, .int .i64 y_136.2.1], .row o_Gmem_Block 45 v_139 y_136.1]) (fun hc_154 hk => ?_) (fun hc_154 hk => ?_) ?_
              · refine JL_skip rfl rfl hc_154 rfl rfl ?_
                refine JL_skip rfl rfl hc_154 rfl rfl ?_
                refine JL_skip rfl rfl hc_154 rfl rfl ?_
                refine JL_skip rfl rfl hc_154 rfl rfl ?_
                refine JL_op rfl (op_read rfl rfl (r_pick_t (v := .bool true) rfl hc_154 rfl) ?_)
                refine J_prune _ ?_ fun b => hk true _ b _ _ ⟨rfl, rfl, rfl⟩
                exact ⟨rfl, rfl, rfl, rfl, rfl, rfl, rfl, rfl, trivial⟩
              · refine JL_opg rfl rfl hc_154 (op_read rfl rfl (r_move (v := .pointer (some (Addr.add c_12 0))) rfl) ?_)
                refine J_assoc ?_
                refine JL_opg rfl rfl hc_154 (op_call (f := 13) (fn := Try.f13) (args := [.pointer (some (Addr.add c_12 0))]) (post := mem_Memory_Used_post s_150 c_12 v_139 y_136.1 y_136.2.1) [.cell c_12 [v_139, .int .i64 y_136.2.1], .row o_Gmem_Block 45 v_139 y_136.1] [] rfl rfl rfl Try.func13 Try.pn13 rfl rfl (fun y st hy hpre => mem_Memory_Used_ref st s_150 c_12 v_139 y_136.1 y_136.2.1 hpre y hy) ?_)
                intro r_156 v_158 s_161 PV_159 hr_157 hle_162 hp_160
                obtain ⟨rfl, rfl, rfl⟩ := hp_160
                refine JL_opg rfl rfl hc_154 (op_read rfl rfl (r_move (v := .int .i64 x_27.2.1) rfl) ?_)
                refine JL_opg rfl rfl hc_154 (op_read rfl rfl (r_neq rfl rfl) ?_)
                refine JL_op rfl (op_read rfl rfl (r_pick_f (v := .bool (decide (y_136.2.1 ≠ x_27.2.1))) rfl hc_154 rfl) ?_)
                refine J_prune _ ?_ fun b => hk (decide (y_136.2.1 ≠ x_27.2.1)) _ b _ _ ⟨rfl, rfl, rfl⟩
                exact ⟨rfl, rfl, rfl, rfl, rfl, rfl, rfl, rfl, trivial⟩
              · rintro y_155 _ b s_165 _ ⟨rfl, rfl, rfl⟩
                refine JL_nil ?_
                refine J_then ?_
                refine J_cond rfl (fun hc_166 => ?_) (fun hc_166 => ?_)
                · refine J_seq ?_
                  refine J_region ?_
                  refine JL_op rfl (op_read rfl rfl (r_assign (v := .bool false) rfl) ?_)
                  refine JL_nil ?_
                  refine J_then ?_
                  refine J_ret ?_
                  refine J_then_ret ?_
                  refine J_in_ret ?_
                  refine J_select (PV' := []) [] (by decide) rfl ?_
                  refine J_cut_end _ ?_ ⟨rfl, (FS.le.trans hle_48 hle_151), rfl, rfl⟩ trivial
                  exact ⟨rfl, trivial⟩
                · refine J_skip ?_
                  refine J_then ?_
                  refine J_seq ?_
                  refine J_region ?_
                  refine JL_op rfl (op_read rfl rfl (r_assign (v := .int .i64 0) rfl) ?_)
                  refine JL_nil ?_
                  refine J_then ?_
                  refine J_seq ?_
                  refine J_seq ?_
                  refine J_region ?_
                  refine JL_op rfl (op_read rfl rfl (r_move (v := v_46) rfl) ?_)
                  refine JL_op rfl (op_read rfl rfl (r_len_frozen (v := v_46) Try.pu41 rfl (Ty.vmono _ hle_151 h_49)) ?_)
                  refine JL_op rfl (op_read rfl rfl (r_move (v := .int .i64 0) rfl) ?_)
                  refine JL_nil ?_
                  refine J_then ?_
                  refine J_block ?_
                  refine J_loop (fun (y : Int × Int) L τ PV => s_150 = τ ∧ L = [(3, .pointer (some (Addr.add c_12 0))), (6, v_46), (9, .bool y_136.2.2.2), (16, v_149), (17, .int .i64 y.1), (27, v_23), (28, .int .i64 s_25.len), (29, .int .i64 x_27.2.2), (122, .int .i64 r_38.len), (123, .int .i64 y.2)] ∧ PV = [.cell c_12 [v_139, .int .i64 y_136.2.1], .row o_Gmem_Block 45 v_139 y_136.1]) (fun (y : W2 Int Unit) e L τ PV => match y, e with | .a y, e => e = .exit 3 ∧ (s_150 = τ ∧ L = [(3, .pointer (some (Addr.add c_12 0))), (9, .bool y_136.2.2.2), (17, .int .i64 y), (27, v_23), (28, .int .i64 s_25.len), (29, .int .i64 x_27.2.2)] ∧ PV = [.cell c_12 [v_139, .int .i64 y_136.2.1], .row o_Gmem_Block 45 v_139 y_136.1]) | .b y, e => e = .ret ∧ (s_150 = τ ∧ L = [(2, .bool false)] ∧ PV = [])) _ ?_ ⟨rfl, rfl, rfl⟩ ?_ ?_
                  · exact ⟨rfl, rfl, rfl, rfl, rfl, rfl, rfl, rfl, rfl, rfl, trivial⟩
                  · rintro x_167 _ b s_170 _ ⟨rfl, rfl, rfl⟩
                    unfold lychgatelaw06_MemRefused_L2
                    refine J_seq ?_
                    refine J_region ?_
                    refine JL_op rfl (op_read rfl rfl (r_lss rfl rfl) ?_)
                    refine JL_nil ?_
                    refine J_then ?_
                    refine J_seq ?_
                    refine J_cond rfl (fun hc_171 => ?_) (fun hc_171 => ?_)
                    · refine J_skip ?_
                      refine J_then ?_
                      refine J_seq ?_
                      refine J_block ?_
                      refine J_seq ?_
                      refine J_region ?_
                      refine JL_op rfl (op_read rfl rfl (r_move (v := .int .i64 x_167.2) rfl) ?_)
                      refine JL_op rfl (op_read rfl rfl (r_assign (v := .int .i64 x_167.2) rfl) ?_)
                      refine JL_nil ?_
                      refine J_then ?_
                      refine J_seq ?_
                      refine J_seq ?_
                      refine J_region_any 11 [.cell c_12 [v_139, .int .i64 y_136.2.1], .row o_Gmem_Block 45 v_139 y_136.1] Try.mixed (by kernel_rfl) fun hns => ?_
                      have hS_172 : HeldOK s_150 [.cell c_12 [v_139, .int .i64 y_136.2.1], .row o_Gmem_Block 45 v_139 y_136.1] s_150 [.cell c_12 [v_139, .int .i64 y_136.2.1], .row o_Gmem_Block 45 v_139 y_136.1] := HeldOK.same [0, 1] (by decide) rfl
                      refine JA_takep 0 rfl hns (by kernel_rfl) (by kernel_rfl) rfl (.inr hS_172) rfl rfl rfl (r_move (v := v_46) rfl) ?_
                      refine JA_takep 1 rfl hns (by kernel_rfl) (by kernel_rfl) rfl (.inr hS_172) rfl rfl rfl (r_move (v := .int .i64 x_167.2) rfl) ?_
                      refine J_bind fun x_173 hx_174 => ?_
                      refine JA_takep 2 rfl hns (by kernel_rfl) (by kernel_rfl) rfl (.inr hS_172) rfl rfl rfl (r_index_frozen (v := v_46) (T := t_Gmem_Block) (q := x_173) Try.pu41 Try.pi45 rfl rfl rfl (Ty.vmono _ hle_151 h_49) hx_174) ?_
                      refine JA_takep 3 rfl hns (by kernel_rfl) (by kernel_rfl) rfl (.inr hS_172) rfl rfl rfl (r_fieldAddr (r := elemAddr v_46 ((x_167.2).toNat * (t_Gmem_Block).size + 0)) Try.pu45 (f := Try.pf45.getD 0 default) rfl Try.pi4 (by decide) rfl (elemAddr_add _ _ _)) ?_
                      refine JA_takes 4 rfl hns (by kernel_rfl) (by kernel_rfl) (by kernel_rfl) rfl (by kernel_rfl) hS_172 rfl rfl rfl (l_elem_frozen (v := v_46) (T := t_Gmem_Block) (Tf := tBool) (q := x_173) (i := x_167.2) (off := 0) Try.pu4 Try.pi4 rfl rfl rfl (Ty.vmono _ hle_151 h_49) hx_174 f_Gmem_Block_Live (by decide)) ?_
                      intro v_175 h_176
                      obtain rfl := tBool_v.1 h_176
                      refine JA_takep 5 rfl hns (by kernel_rfl) (by kernel_rfl) rfl (.inr hS_172) rfl rfl rfl (r_move (v := v_149) rfl) ?_
                      refine JA_takep 6 rfl hns (by kernel_rfl) (by kernel_rfl) rfl (.inr hS_172) rfl rfl rfl (r_move (v := .int .i64 x_167.2) rfl) ?_
                      refine J_bind fun x_177 hx_178 => ?_
                      refine JA_takep 7 rfl hns (by kernel_rfl) (by kernel_rfl) rfl (.inr hS_172) rfl rfl rfl (r_index_frozen (v := v_149) (T := t_Gmem_Block) (q := x_177) Try.pu41 Try.pi45 rfl rfl rfl h_152 hx_178) ?_
                      refine JA_takep 8 rfl hns (by kernel_rfl) (by kernel_rfl) rfl (.inr hS_172) rfl rfl rfl (r_fieldAddr (r := elemAddr v_149 ((x_167.2).toNat * (t_Gmem_Block).size + 0)) Try.pu45 (f := Try.pf45.getD 0 default) rfl Try.pi4 (by decide) rfl (elemAddr_add _ _ _)) ?_
                      refine JA_takes 9 rfl hns (by kernel_rfl) (by kernel_rfl) (by kernel_rfl) rfl (by kernel_rfl) hS_172 rfl rfl rfl (l_elem_frozen (v := v_149) (T := t_Gmem_Block) (Tf := tBool) (q := x_177) (i := x_167.2) (off := 0) Try.pu4 Try.pi4 rfl rfl rfl h_152 hx_178 f_Gmem_Block_Live (by decide)) ?_
                      intro v_179 h_180
                      obtain rfl := tBool_v.1 h_180
                      refine JA_takep 10 rfl hns (by kernel_rfl) (by kernel_rfl) rfl (.inr hS_172) rfl rfl rfl (r_bneq Try.pu4 rfl rfl) ?_
                      refine JA_done (by kernel_rfl) ?_
                      refine J_then ?_
                      refine J_cond rfl (fun hc_181 => ?_) (fun hc_181 => ?_)
                      · refine J_seq ?_
                        refine J_region ?_
                        refine JL_op rfl (op_read rfl rfl (r_assign (v := .bool false) rfl) ?_)
                        refine JL_nil ?_
                        refine J_then ?_
                        refine J_ret ?_
                        refine J_then_ret ?_
                        refine J_in_ret ?_
                        refine J_then_ret ?_
                        refine J_select (PV' := []) [] (by decide) rfl ?_
                        refine J_done trivial _ ?_ ⟨rfl, rfl, rfl, rfl⟩
                        exact ⟨rfl, trivial⟩
                      · refine J_skip ?_
                        refine J_then ?_
                        refine J_seq ?_
                        refine J_region ?_
                        refine JL_op rfl (op_read rfl rfl (r_move (v := v_46) rfl) ?_)
                        refine JL_op rfl (op_read rfl rfl (r_move (v := .int .i64 x_167.2) rfl) ?_)
                        refine JL_op rfl (op_read rfl rfl (r_index_frozen (v := v_46) (T := t_Gmem_Block) (q := x_173) Try.pu41 Try.pi45 rfl rfl rfl (Ty.vmono _ hle_151 h_49) hx_174) ?_)
                        refine JL_op rfl (op_read rfl rfl (r_fieldAddr (r := elemAddr v_46 ((x_167.2).toNat * (t_Gmem_Block).size + 1)) Try.pu45 (f := Try.pf45.getD 1 default) rfl Try.pi43 (by decide) rfl (elemAddr_add _ _ _)) ?_)
                        refine JL_op rfl (op_reads rfl rfl (l_elem_frozen (v := v_46) (T := t_Gmem_Block) (Tf := (tSl t_Gmem_Value)) (q := x_173) (i := x_167.2) (off := 1) Try.pu43 Try.pi43 rfl rfl rfl (Ty.vmono _ hle_151 h_49) hx_174 f_Gmem_Block_Cells (by decide)) ?_)
                        intro v_182 h_183
                        refine JL_op rfl (op_read rfl rfl (r_len_frozen (v := v_182) Try.pu43 rfl h_183) ?_)
                        refine JL_op rfl (op_read rfl rfl (r_move (v := .int .i64 0) rfl) ?_)
                        refine JL_nil ?_
                        refine J_then ?_
                        refine J_block ?_
                        refine J_loop (fun (y : Int × Int) L τ PV => s_150 = τ ∧ L = [(3, .pointer (some (Addr.add c_12 0))), (6, v_46), (9, .bool y_136.2.2.2), (16, v_149), (17, .int .i64 y.1), (18, .int .i64 x_167.2), (27, v_23), (28, .int .i64 s_25.len), (29, .int .i64 x_27.2.2), (122, .int .i64 r_38.len), (123, .int .i64 x_167.2), (142, .int .i64 x_173.Cells.len), (143, .int .i64 y.2)] ∧ PV = [.cell c_12 [v_139, .int .i64 y_136.2.1], .row o_Gmem_Block 45 v_139 y_136.1]) (fun (y : W2 Int Unit) e L τ PV => match y, e with | .a y, e => e = .exit 5 ∧ (s_150 = τ ∧ L = [(3, .pointer (some (Addr.add c_12 0))), (6, v_46), (9, .bool y_136.2.2.2), (16, v_149), (17, .int .i64 y), (27, v_23), (28, .int .i64 s_25.len), (29, .int .i64 x_27.2.2), (122, .int .i64 r_38.len), (123, .int .i64 x_167.2)] ∧ PV = [.cell c_12 [v_139, .int .i64 y_136.2.1], .row o_Gmem_Block 45 v_139 y_136.1]) | .b y, e => e = .ret ∧ (s_150 = τ ∧ L = [(2, .bool false)] ∧ PV = [])) _ ?_ ⟨rfl, rfl, rfl⟩ ?_ ?_
                        · exact ⟨rfl, rfl, rfl, rfl, rfl, rfl, rfl, rfl, rfl, rfl, rfl, rfl, rfl, trivial⟩
                        · rintro x_184 _ b s_187 _ ⟨rfl, rfl, rfl⟩
                          unfold lychgatelaw06_MemRefused_L1
                          refine J_seq ?_
                          refine J_region ?_
                          refine JL_op rfl (op_read rfl rfl (r_lss rfl rfl) ?_)
                          refine JL_nil ?_
                          refine J_then ?_
                          refine J_seq ?_
                          refine J_cond rfl (fun hc_188 => ?_) (fun hc_188 => ?_)
                          · refine J_skip ?_
                            refine J_then ?_
                            refine J_seq ?_
                            refine J_block ?_
                            refine J_seq ?_
                            refine J_region ?_
                            refine JL_op rfl (op_read rfl rfl (r_move (v := .int .i64 x_184.2) rfl) ?_)
                            refine JL_op rfl (op_read rfl rfl (r_assign (v := .int .i64 x_184.2) rfl) ?_)
                            refine JL_nil ?_
                            refine J_then ?_
                            refine J_seq ?_
                            refine J_seq ?_
                            refine J_region_any 36 [.cell c_12 [v_139, .int .i64 y_136.2.1], .row o_Gmem_Block 45 v_139 y_136.1] Try.mixed (by kernel_rfl) fun hns => ?_
                            have hS_189 : HeldOK s_150 [.cell c_12 [v_139, .int .i64 y_136.2.1], .row o_Gmem_Block 45 v_139 y_136.1] s_150 [.cell c_12 [v_139, .int .i64 y_136.2.1], .row o_Gmem_Block 45 v_139 y_136.1] := HeldOK.same [0, 1] (by decide) rfl
                            refine JA_takep 0 rfl hns (by kernel_rfl) (by kernel_rfl) rfl (.inr hS_189) rfl rfl rfl (r_move (v := v_46) rfl) ?_
                            refine JA_takep 1 rfl hns (by kernel_rfl) (by kernel_rfl) rfl (.inr hS_189) rfl rfl rfl (r_move (v := .int .i64 x_167.2) rfl) ?_
                            refine JA_takep 2 rfl hns (by kernel_rfl) (by kernel_rfl) rfl (.inr hS_189) rfl rfl rfl (r_index_frozen (v := v_46) (T := t_Gmem_Block) (q := x_173) Try.pu41 Try.pi45 rfl rfl rfl (Ty.vmono _ hle_151 h_49) hx_174) ?_
                            refine JA_takep 3 rfl hns (by kernel_rfl) (by kernel_rfl) rfl (.inr hS_189) rfl rfl rfl (r_fieldAddr (r := elemAddr v_46 ((x_167.2).toNat * (t_Gmem_Block).size + 1)) Try.pu45 (f := Try.pf45.getD 1 default) rfl Try.pi43 (by decide) rfl (elemAddr_add _ _ _)) ?_
                            refine JA_takes 4 rfl hns (by kernel_rfl) (by kernel_rfl) (by kernel_rfl) rfl (by kernel_rfl) hS_189 rfl rfl rfl (l_elem_frozen (v := v_46) (T := t_Gmem_Block) (Tf := (tSl t_Gmem_Value)) (q := x_173) (i := x_167.2) (off := 1) Try.pu43 Try.pi43 rfl rfl rfl (Ty.vmono _ hle_151 h_49) hx_174 f_Gmem_Block_Cells (by decide)) ?_
                            intro v_190 h_191
                            refine JA_takep 5 rfl hns (by kernel_rfl) (by kernel_rfl) rfl (.inr hS_189) rfl rfl rfl (r_move (v := .int .i64 x_184.2) rfl) ?_
                            refine J_bind fun x_192 hx_193 => ?_
                            refine JA_takep 6 rfl hns (by kernel_rfl) (by kernel_rfl) rfl (.inr hS_189) rfl rfl rfl (r_index_frozen (v := v_190) (T := t_Gmem_Value) (q := x_192) Try.pu43 Try.pi29 rfl rfl rfl h_191 hx_193) ?_
                            refine JA_takes 7 rfl hns (by kernel_rfl) (by kernel_rfl) (by kernel_rfl) rfl (by kernel_rfl) hS_189 rfl rfl rfl (l_elem_frozen (v := v_190) (T := t_Gmem_Value) (Tf := t_Gmem_Value) (q := x_192) (i := x_184.2) (off := 0) Try.pu29 Try.pi29 rfl rfl rfl h_191 hx_193 (FieldAt.self _) (by decide)) ?_
                            intro v_194 h_195
                            obtain rfl := t_Gmem_Value_v.1 h_195
                            refine JA_takep 8 rfl hns (by kernel_rfl) (by kernel_rfl) rfl (.inr hS_189) rfl rfl rfl (r_move (v := v_149) rfl) ?_
                            refine JA_takep 9 rfl hns (by kernel_rfl) (by kernel_rfl) rfl (.inr hS_189) rfl rfl rfl (r_move (v := .int .i64 x_167.2) rfl) ?_
                            refine JA_takep 10 rfl hns (by kernel_rfl) (by kernel_rfl) rfl (.inr hS_189) rfl rfl rfl (r_index_frozen (v := v_149) (T := t_Gmem_Block) (q := x_177) Try.pu41 Try.pi45 rfl rfl rfl h_152 hx_178) ?_
                            refine JA_takep 11 rfl hns (by kernel_rfl) (by kernel_rfl) rfl (.inr hS_189) rfl rfl rfl (r_fieldAddr (r := elemAddr v_149 ((x_167.2).toNat * (t_Gmem_Block).size + 1)) Try.pu45 (f := Try.pf45.getD 1 default) rfl Try.pi43 (by decide) rfl (elemAddr_add _ _ _)) ?_
                            refine JA_takes 12 rfl hns (by kernel_rfl) (by kernel_rfl) (by kernel_rfl) rfl (by kernel_rfl) hS_189 rfl rfl rfl (l_elem_frozen (v := v_149) (T := t_Gmem_Block) (Tf := (tSl t_Gmem_Value)) (q := x_177) (i := x_167.2) (off := 1) Try.pu43 Try.pi43 rfl rfl rfl h_152 hx_178 f_Gmem_Block_Cells (by decide)) ?_
                            intro v_196 h_197
                            refine JA_takep 13 rfl hns (by kernel_rfl) (by kernel_rfl) rfl (.inr hS_189) rfl rfl rfl (r_move (v := .int .i64 x_184.2) rfl) ?_
                            refine J_bind fun x_198 hx_199 => ?_
                            refine JA_takep 14 rfl hns (by kernel_rfl) (by kernel_rfl) rfl (.inr hS_189) rfl rfl rfl (r_index_frozen (v := v_196) (T := t_Gmem_Value) (q := x_198) Try.pu43 Try.pi29 rfl rfl rfl h_197 hx_199) ?_
                            refine JA_takes 15 rfl hns (by kernel_rfl) (by kernel_rfl) (by kernel_rfl) rfl (by kernel_rfl) hS_189 rfl rfl rfl (l_elem_frozen (v := v_196) (T := t_Gmem_Value) (Tf := t_Gmem_Value) (q := x_198) (i := x_184.2) (off := 0) Try.pu29 Try.pi29 rfl rfl rfl h_197 hx_199 (FieldAt.self _) (by decide)) ?_
                            intro v_200 h_201
                            obtain rfl := t_Gmem_Value_v.1 h_201
                            refine JA_takep 16 rfl hns (by kernel_rfl) (by kernel_rfl) rfl (.inr hS_189) rfl rfl rfl (r_neq_struct (by kernel_rfl) rfl rfl (by decide) (eq_Gmem_Value (x := x_192) (y := x_198))) ?_
                            refine JA_takep 17 rfl hns (by kernel_rfl) (by kernel_rfl) rfl (.inr hS_189) rfl rfl rfl (r_move (v := .bool (!(decide (x_192 = x_198)))) rfl) ?_
                            refine J_forkAB (e := (!(decide (x_192 = x_198)))) 0 #[true, true, true, true, true, true, true, true, true, true, true, true, true, true, true, true, true, true, true, true, true, true, true, true, true, true, true, true, true, true, true, true, true, true, true, true] (fun (y : Bool) L τ PV => s_150 = τ ∧ L = [(3, .pointer (some (Addr.add c_12 0))), (6, v_46), (9, .bool y_136.2.2.2), (16, v_149), (17, .int .i64 x_184.1), (18, .int .i64 x_167.2), (19, .int .i64 x_184.2), (27, v_23), (28, .int .i64 s_25.len), (29, .int .i64 x_27.2.2), (122, .int .i64 r_38.len), (123, .int .i64 x_167.2), (142, .int .i64 x_173.Cells.len), (143, .int .i64 x_184.2), (181, .bool y)] ∧ PV = [.cell c_12 [v_139, .int .i64 y_136.2.1], .row o_Gmem_Block 45 v_139 y_136.1]) (fun hc_202 hk => ?_) (fun hc_202 hk => ?_) ?_
                            · refine JA_skip (y := some (!(decide (x_192 = x_198)))) 18 rfl hns (by kernel_rfl) (by kernel_rfl) rfl (.inr hS_189) rfl rfl (by rw [hc_202]; decide) rfl rfl ?_
                              refine JA_skip (y := some (!(decide (x_192 = x_198)))) 19 rfl hns (by kernel_rfl) (by kernel_rfl) rfl (.inr hS_189) rfl rfl (by rw [hc_202]; decide) rfl rfl ?_
                              refine JA_skip (y := some (!(decide (x_192 = x_198)))) 20 rfl hns (by kernel_rfl) (by kernel_rfl) rfl (.inr hS_189) rfl rfl (by rw [hc_202]; decide) rfl rfl ?_
                              refine JA_skip (y := some (!(decide (x_192 = x_198)))) 21 rfl hns (by kernel_rfl) (by kernel_rfl) rfl (.inr hS_189) rfl rfl (by rw [hc_202]; decide) rfl rfl ?_
                              refine JA_skip (y := some (!(decide (x_192 = x_198)))) 22 rfl hns (by kernel_rfl) (by kernel_rfl) rfl (.inr hS_189) rfl rfl (by rw [hc_202]; decide) rfl rfl ?_
                              refine JA_skip (y := some (!(decide (x_192 = x_198)))) 23 rfl hns (by kernel_rfl) (by kernel_rfl) rfl (.inr hS_189) rfl rfl (by rw [hc_202]; decide) rfl rfl ?_
                              refine JA_skip (y := some (!(decide (x_192 = x_198)))) 24 rfl hns (by kernel_rfl) (by kernel_rfl) rfl (.inr hS_189) rfl rfl (by rw [hc_202]; decide) rfl rfl ?_
                              refine JA_skip (y := some (!(decide (x_192 = x_198)))) 25 rfl hns (by kernel_rfl) (by kernel_rfl) rfl (.inr hS_189) rfl rfl (by rw [hc_202]; decide) rfl rfl ?_
                              refine JA_skip (y := some (!(decide (x_192 = x_198)))) 26 rfl hns (by kernel_rfl) (by kernel_rfl) rfl (.inr hS_189) rfl rfl (by rw [hc_202]; decide) rfl rfl ?_
                              refine JA_skip (y := some (!(decide (x_192 = x_198)))) 27 rfl hns (by kernel_rfl) (by kernel_rfl) rfl (.inr hS_189) rfl rfl (by rw [hc_202]; decide) rfl rfl ?_
                              refine JA_skip (y := some (!(decide (x_192 = x_198)))) 28 rfl hns (by kernel_rfl) (by kernel_rfl) rfl (.inr hS_189) rfl rfl (by rw [hc_202]; decide) rfl rfl ?_
                              refine JA_skip (y := some (!(decide (x_192 = x_198)))) 29 rfl hns (by kernel_rfl) (by kernel_rfl) rfl (.inr hS_189) rfl rfl (by rw [hc_202]; decide) rfl rfl ?_
                              refine JA_skip (y := some (!(decide (x_192 = x_198)))) 30 rfl hns (by kernel_rfl) (by kernel_rfl) rfl (.inr hS_189) rfl rfl (by rw [hc_202]; decide) rfl rfl ?_
                              refine JA_skip (y := some (!(decide (x_192 = x_198)))) 31 rfl hns (by kernel_rfl) (by kernel_rfl) rfl (.inr hS_189) rfl rfl (by rw [hc_202]; decide) rfl rfl ?_
                              refine JA_skip (y := some (!(decide (x_192 = x_198)))) 32 rfl hns (by kernel_rfl) (by kernel_rfl) rfl (.inr hS_189) rfl rfl (by rw [hc_202]; decide) rfl rfl ?_
                              refine JA_skip (y := some (!(decide (x_192 = x_198)))) 33 rfl hns (by kernel_rfl) (by kernel_rfl) rfl (.inr hS_189) rfl rfl (by rw [hc_202]; decide) rfl rfl ?_
                              refine JA_skip (y := some (!(decide (x_192 = x_198)))) 34 rfl hns (by kernel_rfl) (by kernel_rfl) rfl (.inr hS_189) rfl rfl (by rw [hc_202]; decide) rfl rfl ?_
                              refine JA_takep 35 rfl hns (by kernel_rfl) (by kernel_rfl) rfl (.inr hS_189) rfl rfl rfl (r_pick_t (v := .bool true) rfl hc_202 rfl) ?_
                              refine J_prune _ ?_ fun b => hk true _ b _ _ ⟨rfl, rfl, rfl⟩
                              exact ⟨rfl, rfl, rfl, rfl, rfl, rfl, rfl, rfl, rfl, rfl, rfl, rfl, rfl, rfl, rfl, trivial⟩
                            · refine JA_takepg 18 rfl hns (by kernel_rfl) (by kernel_rfl) rfl (.inr hS_189) rfl rfl hc_202 rfl rfl (r_move (v := v_46) rfl) ?_
                              refine JA_takepg 19 rfl hns (by kernel_rfl) (by kernel_rfl) rfl (.inr hS_189) rfl rfl hc_202 rfl rfl (r_move (v := .int .i64 x_167.2) rfl) ?_
                              refine JA_takepg 20 rfl hns (by kernel_rfl) (by kernel_rfl) rfl (.inr hS_189) rfl rfl hc_202 rfl rfl (r_index_frozen (v := v_46) (T := t_Gmem_Block) (q := x_173) Try.pu41 Try.pi45 rfl rfl rfl (Ty.vmono _ hle_151 h_49) hx_174) ?_
                              refine JA_takepg 21 rfl hns (by kernel_rfl) (by kernel_rfl) rfl (.inr hS_189) rfl rfl hc_202 rfl rfl (r_fieldAddr (r := elemAddr v_46 ((x_167.2).toNat * (t_Gmem_Block).size + 3)) Try.pu45 (f := Try.pf45.getD 3 default) rfl Try.pi23 (by decide) rfl (elemAddr_add _ _ _)) ?_
                              refine JA_takesg 22 rfl hns (by kernel_rfl) (by kernel_rfl) (by kernel_rfl) rfl (by kernel_rfl) hS_189 rfl rfl hc_202 rfl rfl (l_elem_frozen (v := v_46) (T := t_Gmem_Block) (Tf := (tSl tBool)) (q := x_173) (i := x_167.2) (off := 3) Try.pu23 Try.pi23 rfl rfl rfl (Ty.vmono _ hle_151 h_49) hx_174 f_Gmem_Block_Writer (by decide)) ?_
                              intro v_204 h_205
                              refine JA_takepg 23 rfl hns (by kernel_rfl) (by kernel_rfl) rfl (.inr hS_189) rfl rfl hc_202 rfl rfl (r_move (v := .int .i64 x_184.2) rfl) ?_
                              refine J_assoc ?_
                              refine J_bind fun x_206 hx_207 => ?_
                              refine JA_takepg 24 rfl hns (by kernel_rfl) (by kernel_rfl) rfl (.inr hS_189) rfl rfl hc_202 rfl rfl (r_index_frozen (v := v_204) (T := tBool) (q := x_206) Try.pu23 Try.pi4 rfl rfl rfl h_205 hx_207) ?_
                              refine JA_takesg 25 rfl hns (by kernel_rfl) (by kernel_rfl) (by kernel_rfl) rfl (by kernel_rfl) hS_189 rfl rfl hc_202 rfl rfl (l_elem_frozen (v := v_204) (T := tBool) (Tf := tBool) (q := x_206) (i := x_184.2) (off := 0) Try.pu4 Try.pi4 rfl rfl rfl h_205 hx_207 (FieldAt.self _) (by decide)) ?_
                              intro v_208 h_209
                              obtain rfl := tBool_v.1 h_209
                              refine JA_takepg 26 rfl hns (by kernel_rfl) (by kernel_rfl) rfl (.inr hS_189) rfl rfl hc_202 rfl rfl (r_move (v := v_149) rfl) ?_
                              refine JA_takepg 27 rfl hns (by kernel_rfl) (by kernel_rfl) rfl (.inr hS_189) rfl rfl hc_202 rfl rfl (r_move (v := .int .i64 x_167.2) rfl) ?_
                              refine JA_takepg 28 rfl hns (by kernel_rfl) (by kernel_rfl) rfl (.inr hS_189) rfl rfl hc_202 rfl rfl (r_index_frozen (v := v_149) (T := t_Gmem_Block) (q := x_177) Try.pu41 Try.pi45 rfl rfl rfl h_152 hx_178) ?_
                              refine JA_takepg 29 rfl hns (by kernel_rfl) (by kernel_rfl) rfl (.inr hS_189) rfl rfl hc_202 rfl rfl (r_fieldAddr (r := elemAddr v_149 ((x_167.2).toNat * (t_Gmem_Block).size + 3)) Try.pu45 (f := Try.pf45.getD 3 default) rfl Try.pi23 (by decide) rfl (elemAddr_add _ _ _)) ?_
                              refine JA_takesg 30 rfl hns (by kernel_rfl) (by kernel_rfl) (by kernel_rfl) rfl (by kernel_rfl) hS_189 rfl rfl hc_202 rfl rfl (l_elem_frozen (v := v_149) (T := t_Gmem_Block) (Tf := (tSl tBool)) (q := x_177) (i := x_167.2) (off := 3) Try.pu23 Try.pi23 rfl rfl rfl h_152 hx_178 f_Gmem_Block_Writer (by decide)) ?_
                              intro v_210 h_211
                              refine JA_takepg 31 rfl hns (by kernel_rfl) (by kernel_rfl) rfl (.inr hS_189) rfl rfl hc_202 rfl rfl (r_move (v := .int .i64 x_184.2) rfl) ?_
                              refine J_assoc ?_
                              refine J_bind fun x_212 hx_213 => ?_
                              refine JA_takepg 32 rfl hns (by kernel_rfl) (by kernel_rfl) rfl (.inr hS_189) rfl rfl hc_202 rfl rfl (r_index_frozen (v := v_210) (T := tBool) (q := x_212) Try.pu23 Try.pi4 rfl rfl rfl h_211 hx_213) ?_
                              refine JA_takesg 33 rfl hns (by kernel_rfl) (by kernel_rfl) (by kernel_rfl) rfl (by kernel_rfl) hS_189 rfl rfl hc_202 rfl rfl (l_elem_frozen (v := v_210) (T := tBool) (Tf := tBool) (q := x_212) (i := x_184.2) (off := 0) Try.pu4 Try.pi4 rfl rfl rfl h_211 hx_213 (FieldAt.self _) (by decide)) ?_
                              intro v_214 h_215
                              obtain rfl := tBool_v.1 h_215
                              refine JA_takepg 34 rfl hns (by kernel_rfl) (by kernel_rfl) rfl (.inr hS_189) rfl rfl hc_202 rfl rfl (r_bneq Try.pu4 rfl rfl) ?_
                              refine JA_takep 35 rfl hns (by kernel_rfl) (by kernel_rfl) rfl (.inr hS_189) rfl rfl rfl (r_pick_f (v := .bool (x_206 != x_212)) rfl hc_202 rfl) ?_
                              refine J_prune _ ?_ fun b => hk (x_206 != x_212) _ b _ _ ⟨rfl, rfl, rfl⟩
                              exact ⟨rfl, rfl, rfl, rfl, rfl, rfl, rfl, rfl, rfl, rfl, rfl, rfl, rfl, rfl, rfl, trivial⟩
                            · rintro y_203 _ b s_218 _ ⟨rfl, rfl, rfl⟩
                              have hS_219 : HeldOK s_150 [.cell c_12 [v_139, .int .i64 y_136.2.1], .row o_Gmem_Block 45 v_139 y_136.1] s_150 [.cell c_12 [v_139, .int .i64 y_136.2.1], .row o_Gmem_Block 45 v_139 y_136.1] := HeldOK.same [0, 1] (by decide) rfl
                              refine JA_done (by kernel_rfl) ?_
                              refine J_then ?_
                              refine J_cond rfl (fun hc_220 => ?_) (fun hc_220 => ?_)
                              · refine J_seq ?_
                                refine J_region ?_
                                refine JL_op rfl (op_read rfl rfl (r_assign (v := .bool false) rfl) ?_)
                                refine JL_nil ?_
                                refine J_then ?_
                                refine J_ret ?_
                                refine J_then_ret ?_
                                refine J_in_ret ?_
                                refine J_then_ret ?_
                                refine J_select (PV' := []) [] (by decide) rfl ?_
                                refine J_done trivial _ ?_ ⟨rfl, rfl, rfl, rfl⟩
                                exact ⟨rfl, trivial⟩
                              · refine J_skip ?_
                                refine J_then ?_
                                refine J_region_any 20 [.cell c_12 [v_139, .int .i64 y_136.2.1], .row o_Gmem_Block 45 v_139 y_136.1] Try.mixed (by kernel_rfl) fun hns => ?_
                                have hS_221 : HeldOK s_150 [.cell c_12 [v_139, .int .i64 y_136.2.1], .row o_Gmem_Block 45 v_139 y_136.1] s_150 [.cell c_12 [v_139, .int .i64 y_136.2.1], .row o_Gmem_Block 45 v_139 y_136.1] := HeldOK.same [0, 1] (by decide) rfl
                                refine JA_takep 0 rfl hns (by kernel_rfl) (by kernel_rfl) rfl (.inr hS_221) rfl rfl rfl (r_move (v := .int .i64 x_184.1) rfl) ?_
                                refine JA_takep 1 rfl hns (by kernel_rfl) (by kernel_rfl) rfl (.inr hS_221) rfl rfl rfl (r_move (v := v_46) rfl) ?_
                                refine JA_takep 2 rfl hns (by kernel_rfl) (by kernel_rfl) rfl (.inr hS_221) rfl rfl rfl (r_move (v := .int .i64 x_167.2) rfl) ?_
                                refine JA_takep 3 rfl hns (by kernel_rfl) (by kernel_rfl) rfl (.inr hS_221) rfl rfl rfl (r_index_frozen (v := v_46) (T := t_Gmem_Block) (q := x_173) Try.pu41 Try.pi45 rfl rfl rfl (Ty.vmono _ hle_151 h_49) hx_174) ?_
                                refine JA_takep 4 rfl hns (by kernel_rfl) (by kernel_rfl) rfl (.inr hS_221) rfl rfl rfl (r_fieldAddr (r := elemAddr v_46 ((x_167.2).toNat * (t_Gmem_Block).size + 2)) Try.pu45 (f := Try.pf45.getD 2 default) rfl Try.pi36 (by decide) rfl (elemAddr_add _ _ _)) ?_
                                refine JA_takes 5 rfl hns (by kernel_rfl) (by kernel_rfl) (by kernel_rfl) rfl (by kernel_rfl) hS_221 rfl rfl rfl (l_elem_frozen (v := v_46) (T := t_Gmem_Block) (Tf := (tSl (tInt .i64))) (q := x_173) (i := x_167.2) (off := 2) Try.pu36 Try.pi36 rfl rfl rfl (Ty.vmono _ hle_151 h_49) hx_174 f_Gmem_Block_Readers (by decide)) ?_
                                intro v_222 h_223
                                refine JA_takep 6 rfl hns (by kernel_rfl) (by kernel_rfl) rfl (.inr hS_221) rfl rfl rfl (r_move (v := .int .i64 x_184.2) rfl) ?_
                                refine J_bind fun x_224 hx_225 => ?_
                                refine JA_takep 7 rfl hns (by kernel_rfl) (by kernel_rfl) rfl (.inr hS_221) rfl rfl rfl (r_index_frozen (v := v_222) (T := (tInt .i64)) (q := x_224) Try.pu36 Try.pi3 rfl rfl rfl h_223 hx_225) ?_
                                refine JA_takes 8 rfl hns (by kernel_rfl) (by kernel_rfl) (by kernel_rfl) rfl (by kernel_rfl) hS_221 rfl rfl rfl (l_elem_frozen (v := v_222) (T := (tInt .i64)) (Tf := (tInt .i64)) (q := x_224) (i := x_184.2) (off := 0) Try.pu3 Try.pi3 rfl rfl rfl h_223 hx_225 (FieldAt.self _) (by decide)) ?_
                                intro v_226 h_227
                                obtain rfl := tInt_v.1 h_227
                                refine JA_takep 9 rfl hns (by kernel_rfl) (by kernel_rfl) rfl (.inr hS_221) rfl rfl rfl (r_move (v := v_149) rfl) ?_
                                refine JA_takep 10 rfl hns (by kernel_rfl) (by kernel_rfl) rfl (.inr hS_221) rfl rfl rfl (r_move (v := .int .i64 x_167.2) rfl) ?_
                                refine JA_takep 11 rfl hns (by kernel_rfl) (by kernel_rfl) rfl (.inr hS_221) rfl rfl rfl (r_index_frozen (v := v_149) (T := t_Gmem_Block) (q := x_177) Try.pu41 Try.pi45 rfl rfl rfl h_152 hx_178) ?_
                                refine JA_takep 12 rfl hns (by kernel_rfl) (by kernel_rfl) rfl (.inr hS_221) rfl rfl rfl (r_fieldAddr (r := elemAddr v_149 ((x_167.2).toNat * (t_Gmem_Block).size + 2)) Try.pu45 (f := Try.pf45.getD 2 default) rfl Try.pi36 (by decide) rfl (elemAddr_add _ _ _)) ?_
                                refine JA_takes 13 rfl hns (by kernel_rfl) (by kernel_rfl) (by kernel_rfl) rfl (by kernel_rfl) hS_221 rfl rfl rfl (l_elem_frozen (v := v_149) (T := t_Gmem_Block) (Tf := (tSl (tInt .i64))) (q := x_177) (i := x_167.2) (off := 2) Try.pu36 Try.pi36 rfl rfl rfl h_152 hx_178 f_Gmem_Block_Readers (by decide)) ?_
                                intro v_228 h_229
                                refine JA_takep 14 rfl hns (by kernel_rfl) (by kernel_rfl) rfl (.inr hS_221) rfl rfl rfl (r_move (v := .int .i64 x_184.2) rfl) ?_
                                refine J_bind fun x_230 hx_231 => ?_
                                refine JA_takep 15 rfl hns (by kernel_rfl) (by kernel_rfl) rfl (.inr hS_221) rfl rfl rfl (r_index_frozen (v := v_228) (T := (tInt .i64)) (q := x_230) Try.pu36 Try.pi3 rfl rfl rfl h_229 hx_231) ?_
                                refine JA_takes 16 rfl hns (by kernel_rfl) (by kernel_rfl) (by kernel_rfl) rfl (by kernel_rfl) hS_221 rfl rfl rfl (l_elem_frozen (v := v_228) (T := (tInt .i64)) (Tf := (tInt .i64)) (q := x_230) (i := x_184.2) (off := 0) Try.pu3 Try.pi3 rfl rfl rfl h_229 hx_231 (FieldAt.self _) (by decide)) ?_
                                intro v_232 h_233
                                obtain rfl := tInt_v.1 h_233
                                refine JA_takep 17 rfl hns (by kernel_rfl) (by kernel_rfl) rfl (.inr hS_221) rfl rfl rfl (r_sub rfl rfl) ?_
                                refine JA_takep 18 rfl hns (by kernel_rfl) (by kernel_rfl) rfl (.inr hS_221) rfl rfl rfl (r_add rfl rfl) ?_
                                refine JA_takep 19 rfl hns (by kernel_rfl) (by kernel_rfl) rfl (.inr hS_221) rfl rfl rfl (r_assign (v := .int .i64 (IntKind.i64.wrap (x_184.1 + (IntKind.i64.wrap (x_224 - x_230))))) rfl) ?_
                                refine JA_done (by kernel_rfl) ?_
                                refine J_in_normal ?_
                                refine J_then ?_
                                refine J_region ?_
                                refine JL_op rfl (op_read rfl rfl (r_add rfl rfl) ?_)
                                refine JL_op rfl (op_read rfl rfl (r_move (v := .int .i64 (IntKind.i64.wrap (x_184.2 + 1))) rfl) ?_)
                                refine JL_nil ?_
                                refine J_next _ ?_ ⟨rfl, rfl, rfl⟩
                                exact ⟨rfl, rfl, rfl, rfl, rfl, rfl, rfl, rfl, rfl, rfl, rfl, rfl, rfl, trivial⟩
                          · refine J_exit ?_
                            refine J_then_exit ?_
                            refine J_done trivial _ ?_ ⟨rfl, rfl, rfl, rfl⟩
                            exact ⟨rfl, rfl, rfl, rfl, rfl, rfl, rfl, rfl, rfl, rfl, trivial⟩
                        · rintro (y_235 | y_239) e L b τ PV ht
                          · obtain ⟨rfl, ht⟩ := ht
                            revert ht; revert PV; revert τ; revert b; revert L
                            rintro _ b s_238 _ ⟨rfl, rfl, rfl⟩
                            refine J_in_exit ?_
                            refine J_in_normal ?_
                            refine J_then ?_
                            refine J_region ?_
                            refine JL_op rfl (op_read rfl rfl (r_add rfl rfl) ?_)
                            refine JL_op rfl (op_read rfl rfl (r_move (v := .int .i64 (IntKind.i64.wrap (x_167.2 + 1))) rfl) ?_)
                            refine JL_nil ?_
                            refine J_next _ ?_ ⟨rfl, rfl, rfl⟩
                            exact ⟨rfl, rfl, rfl, rfl, rfl, rfl, rfl, rfl, rfl, rfl, trivial⟩
                          · obtain ⟨rfl, ht⟩ := ht
                            revert ht; revert PV; revert τ; revert b; revert L
                            rintro _ b s_242 _ ⟨rfl, rfl, rfl⟩
                            refine J_in_ret ?_
                            refine J_in_ret ?_
                            refine J_then_ret ?_
                            refine J_done trivial _ ?_ ⟨rfl, rfl, rfl, rfl⟩
                            exact ⟨rfl, trivial⟩
                    · refine J_exit ?_
                      refine J_then_exit ?_
                      refine J_done trivial _ ?_ ⟨rfl, rfl, rfl, rfl⟩
                      exact ⟨rfl, rfl, rfl, rfl, rfl, rfl, trivial⟩
                  · rintro (y_244 | y_251) e L b τ PV ht
                    · obtain ⟨rfl, ht⟩ := ht
                      revert ht; revert PV; revert τ; revert b; revert L
                      rintro _ b s_247 _ ⟨rfl, rfl, rfl⟩
                      refine J_in_exit ?_
                      refine J_then ?_
                      refine J_seq ?_
                      refine J_region ?_
                      refine JL_op rfl (op_read rfl rfl (r_move (v := .bool y_136.2.2.2) rfl) ?_)
                      refine JL_op rfl (op_read rfl rfl (r_move (v := .int .i64 y_244) rfl) ?_)
                      refine JL_op rfl (op_read rfl rfl (r_eql rfl rfl) ?_)
                      refine JL_op rfl (op_read rfl rfl (r_bneq Try.pu4 rfl rfl) ?_)
                      refine JL_op rfl (op_read rfl rfl (r_move (v := .bool (y_136.2.2.2 != (decide (y_244 = 1)))) rfl) ?_)
                      refine J_forkL (e := (y_136.2.2.2 != (decide (y_244 = 1)))) 7 [(3, .pointer (some (Addr.add c_12 0))), (27, v_23), (28, .int .i64 s_25.len), (29, .int .i64 x_27.2.2), (214, .bool ((y_136.2.2.2 != (decide (y_244 = 1))) || (!y_136.2.2.2 && decide (y_244 ≠ 0))))] (fun hc_248 hk => ?_) (fun hc_248 hk => ?_) (fun b => ?_)
                      · refine JL_skip rfl rfl hc_248 rfl rfl ?_
                        refine JL_skip rfl rfl hc_248 rfl rfl ?_
                        refine JL_skip rfl rfl hc_248 rfl rfl ?_
                        refine JL_skipn rfl rfl rfl rfl ?_
                        refine JL_skipn rfl rfl rfl rfl ?_
                        refine JL_skip rfl rfl hc_248 rfl rfl ?_
                        refine JL_op rfl (op_read rfl rfl (r_pick_t (v := .bool true) rfl hc_248 rfl) ?_)
                        refine J_prune [(3, .pointer (some (Addr.add c_12 0))), (27, v_23), (28, .int .i64 s_25.len), (29, .int .i64 x_27.2.2), (214, .bool ((y_136.2.2.2 != (decide (y_244 = 1))) || (!y_136.2.2.2 && decide (y_244 ≠ 0))))] ⟨rfl, rfl, rfl, rfl, (by show Value.bool _ = Value.bool _; rw [hc_248]; rfl), trivial⟩ hk
                      · refine JL_opg rfl rfl hc_248 (op_read rfl rfl (r_move (v := .bool y_136.2.2.2) rfl) ?_)
                        refine JL_opg rfl rfl hc_248 (op_read rfl rfl (r_not rfl) ?_)
                        refine JL_opg rfl rfl hc_248 (op_read rfl rfl (r_move (v := .bool (!y_136.2.2.2)) rfl) ?_)
                        refine J_forkL (e := (!y_136.2.2.2)) 3 [(3, .pointer (some (Addr.add c_12 0))), (9, .bool y_136.2.2.2), (17, .int .i64 y_244), (27, v_23), (28, .int .i64 s_25.len), (29, .int .i64 x_27.2.2), (203, .bool y_136.2.2.2), (204, .int .i64 y_244), (205, .bool (decide (y_244 = 1))), (206, .bool (y_136.2.2.2 != (decide (y_244 = 1)))), (207, .bool (y_136.2.2.2 != (decide (y_244 = 1)))), (208, .bool y_136.2.2.2), (209, .bool (!y_136.2.2.2)), (210, .bool (!y_136.2.2.2)), (213, .bool (!y_136.2.2.2 && decide (y_244 ≠ 0)))] (fun hc_249 hk => ?_) (fun hc_249 hk => ?_) (fun b => ?_)
                        · refine JL_opg rfl rfl hc_249 (op_read rfl rfl (r_move (v := .int .i64 y_244) rfl) ?_)
                          refine JL_opg rfl rfl hc_249 (op_read rfl rfl (r_neq rfl rfl) ?_)
                          refine JL_opg rfl rfl hc_248 (op_read rfl rfl (r_pick_t (v := .bool (decide (y_244 ≠ 0))) rfl hc_249 rfl) ?_)
                          refine J_prune [(3, .pointer (some (Addr.add c_12 0))), (9, .bool y_136.2.2.2), (17, .int .i64 y_244), (27, v_23), (28, .int .i64 s_25.len), (29, .int .i64 x_27.2.2), (203, .bool y_136.2.2.2), (204, .int .i64 y_244), (205, .bool (decide (y_244 = 1))), (206, .bool (y_136.2.2.2 != (decide (y_244 = 1)))), (207, .bool (y_136.2.2.2 != (decide (y_244 = 1)))), (208, .bool y_136.2.2.2), (209, .bool (!y_136.2.2.2)), (210, .bool (!y_136.2.2.2)), (213, .bool (!y_136.2.2.2 && decide (y_244 ≠ 0)))] ⟨rfl, rfl, rfl, rfl, rfl, rfl, rfl, rfl, rfl, rfl, rfl, rfl, rfl, rfl, (by show Value.bool _ = Value.bool _; rw [hc_249]; rfl), trivial⟩ hk
                        · refine JL_skip rfl rfl hc_249 rfl rfl ?_
                          refine JL_skip rfl rfl hc_249 rfl rfl ?_
                          refine JL_opg rfl rfl hc_248 (op_read rfl rfl (r_pick_f (v := .bool false) rfl hc_249 rfl) ?_)
                          refine J_prune [(3, .pointer (some (Addr.add c_12 0))), (9, .bool y_136.2.2.2), (17, .int .i64 y_244), (27, v_23), (28, .int .i64 s_25.len), (29, .int .i64 x_27.2.2), (203, .bool y_136.2.2.2), (204, .int .i64 y_244), (205, .bool (decide (y_244 = 1))), (206, .bool (y_136.2.2.2 != (decide (y_244 = 1)))), (207, .bool (y_136.2.2.2 != (decide (y_244 = 1)))), (208, .bool y_136.2.2.2), (209, .bool (!y_136.2.2.2)), (210, .bool (!y_136.2.2.2)), (213, .bool (!y_136.2.2.2 && decide (y_244 ≠ 0)))] ⟨rfl, rfl, rfl, rfl, rfl, rfl, rfl, rfl, rfl, rfl, rfl, rfl, rfl, rfl, (by show Value.bool _ = Value.bool _; rw [hc_249]; rfl), trivial⟩ hk
                        · refine JL_op rfl (op_read rfl rfl (r_pick_f (v := .bool (!y_136.2.2.2 && decide (y_244 ≠ 0))) rfl hc_248 rfl) ?_)
                          refine J_prune [(3, .pointer (some (Addr.add c_12 0))), (27, v_23), (28, .int .i64 s_25.len), (29, .int .i64 x_27.2.2), (214, .bool ((y_136.2.2.2 != (decide (y_244 = 1))) || (!y_136.2.2.2 && decide (y_244 ≠ 0))))] ⟨rfl, rfl, rfl, rfl, (by show Value.bool _ = Value.bool _; rw [hc_248]; rfl), trivial⟩ hk
                      · refine JL_nil ?_
                        refine J_then ?_
                        refine J_cond rfl (fun hc_250 => ?_) (fun hc_250 => ?_)
                        · refine J_seq ?_
                          refine J_region ?_
                          refine JL_op rfl (op_read rfl rfl (r_assign (v := .bool false) rfl) ?_)
                          refine JL_nil ?_
                          refine J_then ?_
                          refine J_ret ?_
                          refine J_in_ret ?_
                          refine J_select (PV' := []) [] (by decide) rfl ?_
                          refine J_cut_end _ ?_ ⟨rfl, (FS.le.trans hle_48 hle_151), rfl, rfl⟩ trivial
                          exact ⟨rfl, trivial⟩
                        · refine J_skip ?_
                          refine J_in_normal ?_
                          refine J_cut_end _ ?_ ⟨rfl, v_139, (FS.le.trans hle_48 hle_151), rfl, rfl⟩ trivial
                          exact ⟨rfl, rfl, rfl, rfl, trivial⟩
                    · obtain ⟨rfl, ht⟩ := ht
                      revert ht; revert PV; revert τ; revert b; revert L
                      rintro _ b s_254 _ ⟨rfl, rfl, rfl⟩
                      refine J_in_ret ?_
                      refine J_then_ret ?_
                      refine J_in_ret ?_
                      refine J_cut_end _ ?_ ⟨rfl, (FS.le.trans hle_48 hle_151), rfl, rfl⟩ trivial
                      exact ⟨rfl, trivial⟩
        · rintro (y_256 | y_260) e L b τ PV ht
          · obtain ⟨rfl, ht⟩ := ht
            revert ht; revert PV; revert τ; revert b; revert L
            rintro _ b s_257 _ ⟨v_259, hle_258, rfl, rfl⟩
            refine J_then ?_
            refine J_region ?_
            refine JL_op rfl (op_read rfl rfl (r_add rfl rfl) ?_)
            refine JL_op rfl (op_read rfl rfl (r_move (v := .int .i64 (IntKind.i64.wrap (x_27.2.2 + 1))) rfl) ?_)
            refine JL_nil ?_
            refine J_next _ ?_ ⟨v_259, (FS.le.trans hle_29 hle_258), rfl, rfl⟩
            exact ⟨rfl, rfl, rfl, rfl, trivial⟩
          · obtain ⟨rfl, ht⟩ := ht
            revert ht; revert PV; revert τ; revert b; revert L
            rintro _ b s_261 _ ⟨hle_262, rfl, rfl⟩
            refine J_then_ret ?_
            refine J_done trivial _ ?_ ⟨rfl, (FS.le.trans hle_29 hle_262), rfl, rfl⟩
            exact ⟨rfl, trivial⟩
      · refine J_exit ?_
        refine J_then_exit ?_
        refine J_select (PV' := []) [] (by decide) rfl ?_
        refine J_done trivial _ ?_ ⟨rfl, hle_29, rfl, rfl⟩
        exact trivial
    · rintro (y_264 | y_267) e L b τ PV ht
      · obtain ⟨rfl, ht⟩ := ht
        revert ht; revert PV; revert τ; revert b; revert L
        rintro _ b s_265 _ ⟨hle_266, rfl, rfl⟩
        refine J_in_exit ?_
        refine J_then ?_
        refine J_seq ?_
        refine J_region ?_
        refine JL_op rfl (op_read rfl rfl (r_assign (v := .bool true) rfl) ?_)
        refine JL_nil ?_
        refine J_then ?_
        refine J_ret ?_
        exact J_returnV1 (PV' := []) rfl rv_tmp [] (by decide) rfl ⟨rfl, rfl⟩
      · obtain ⟨rfl, ht⟩ := ht
        revert ht; revert PV; revert τ; revert b; revert L
        rintro _ b s_268 _ ⟨hle_269, rfl, rfl⟩
        refine J_in_ret ?_
        refine J_then_ret ?_
        exact J_returnV1 (PV' := []) rfl rv_tmp [] (by decide) rfl ⟨rfl, rfl⟩
end Go.Px
