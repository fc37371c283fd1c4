/- The calls do what the models say, part 9. -/
import Derived.Test.YthpibdcdeopneaaMd
import Derived.Test.YthpibdcdeopneaaRf1
import Derived.Test.YthpibdcdeopneaaRf2
import Derived.Test.YthpibdcdeopneaaRf3
namespace Go.Px
open Go.Proofs
set_option linter.unusedVariables false
def lychgatelaw06_MemFull_post (σ0 : FS) (v_1 : Value) (sizes_2 : Sl Int) (v_4 : Value) (free_5 : Sl Bool) (r : Bool) (σ : FS) (PV : List Priv) (v : Value) : Prop :=
  σ0 = σ ∧ .bool r = v ∧ PV = []
set_option maxRecDepth 100000 in
theorem lychgatelaw06_MemFull_ref (s : Start) (σ : FS) (v_1 : Value) (sizes_2 : Sl Int) (h_3 : (tSl (tInt .i64)).vrel σ v_1 sizes_2) (v_4 : Value) (free_5 : Sl Bool) (h_6 : (tSl tBool).vrel σ v_4 free_5) (hs : Pre s σ []) (r : Bool) (hr : lychgatelaw06_MemFull sizes_2 free_5 = some r) : Does Try.prog 3 [v_1, v_4] s σ (lychgatelaw06_MemFull_post σ v_1 sizes_2 v_4 free_5 r) := by
  unfold lychgatelaw06_MemFull at hr
  refine does_of_J Try.func3 rfl (n := 79) rfl rfl hs hr ?_
  refine J_seq ?_
  refine J_region ?_
  refine JL_op rfl (op_read rfl rfl (r_assign (v := .bool false) rfl) ?_)
  refine JL_nil ?_
  refine J_then ?_
  refine J_seq ?_
  refine J_seq ?_
  refine J_region ?_
  refine JL_op rfl (op_call (f := 10) (fn := Try.f10) (args := []) (post := lychgatelaw06_wakes_post σ) [] [] rfl rfl rfl Try.func10 Try.pn10 rfl rfl (fun y st hy hpre => lychgatelaw06_wakes_ref st σ  hpre y hy) ?_)
  intro r_7 v_9 s_12 PV_10 hr_8 hle_13 hp_11
  obtain ⟨rfl, rfl, rfl⟩ := hp_11
  refine JL_op rfl (op_read rfl rfl (r_not rfl) ?_)
  refine JL_nil ?_
  refine J_then ?_
  refine J_cond rfl (fun hc_14 => ?_) (fun hc_14 => ?_)
  · refine J_seq ?_
    refine J_region ?_
    refine JL_op rfl (op_read rfl rfl (r_assign (v := .bool false) rfl) ?_)
    refine JL_nil ?_
    refine J_then ?_
    refine J_ret ?_
    refine J_then_ret ?_
    exact J_returnV1 (PV' := []) rfl rv_tmp [] (by decide) rfl ⟨rfl, rfl, rfl⟩
  · refine J_skip ?_
    refine J_then ?_
    refine J_seq ?_
    refine J_region ?_
    refine JL_op rfl (op_call (f := 11) (fn := Try.f11) (args := []) (post := mem_New_post σ) [] [] rfl rfl rfl Try.func11 Try.pn11 rfl rfl (fun y st hy hpre => mem_New_ref st σ  hpre y hy) ?_)
    intro r_15 v_17 s_20 PV_18 hr_16 hle_21 hp_19
    obtain ⟨c_23, v_25, rfl, rfl, rfl⟩ := hp_19
    refine JL_op rfl (op_read rfl rfl (r_assign (v := .pointer (some (Addr.add c_23 0))) rfl) ?_)
    refine JL_nil ?_
    refine J_then ?_
    refine J_seq ?_
    refine J_region ?_
    refine JL_op rfl (op_read rfl rfl (r_assign (v := .int .i64 0) rfl) ?_)
    refine JL_nil ?_
    refine J_then ?_
    refine J_seq ?_
    refine J_seq ?_
    refine J_region ?_
    refine JL_op rfl (op_read rfl rfl (r_move (v := v_1) rfl) ?_)
    refine JL_op rfl (op_read rfl rfl (r_len_frozen (v := v_1) Try.pu22 rfl h_3) ?_)
    refine JL_op rfl (op_read rfl rfl (r_move (v := .int .i64 0) rfl) ?_)
    refine JL_nil ?_
    refine J_then ?_
    refine J_block ?_
    refine J_loop (fun (y : (Sl Gmem_Block) × Int × Int × Int) L τ PV => ∃ (w0 : Value), σ = τ ∧ L = [(1, v_4), (5, .pointer (some (Addr.add c_23 0))), (6, .int .i64 y.2.2.1), (15, v_1), (16, .int .i64 sizes_2.len), (17, .int .i64 y.2.2.2)] ∧ PV = [.cell c_23 [w0, .int .i64 y.2.1], .row o_Gmem_Block 45 w0 y.1]) (fun (y : W2 Unit Unit) e L τ PV => match y, e with | .a y, e => e = .exit 0 ∧ (σ = τ ∧ L = [] ∧ PV = []) | .b y, e => e = .ret ∧ (σ = τ ∧ L = [(4, .bool false)] ∧ PV = [])) _ ?_ ⟨v_25, rfl, rfl, rfl⟩ ?_ ?_
    · exact ⟨rfl, rfl, rfl, rfl, rfl, rfl, trivial⟩
    · rintro x_26 _ b s_30 _ ⟨v_29, rfl, rfl, rfl⟩
      unfold lychgatelaw06_MemFull_L1
      refine J_seq ?_
      refine J_region ?_
      refine JL_op rfl (op_read rfl rfl (r_lss rfl rfl) ?_)
      refine JL_nil ?_
      refine J_then ?_
      refine J_seq ?_
      refine J_cond rfl (fun hc_31 => ?_) (fun hc_31 => ?_)
      · refine J_skip ?_
        refine J_then ?_
        refine J_seq ?_
        refine J_cut (fun (y : W2 ((Sl Gmem_Block) × Int × Int) Unit) e L τ PV => match y, e with | .a y, e => e = .normal ∧ (∃ (w0 : Value), σ = τ ∧ L = [(1, v_4), (5, .pointer (some (Addr.add c_23 0))), (6, .int .i64 y.2.2), (15, v_1), (16, .int .i64 sizes_2.len), (17, .int .i64 x_26.2.2.2)] ∧ PV = [.cell c_23 [w0, .int .i64 y.2.1], .row o_Gmem_Block 45 w0 y.1]) | .b y, e => e = .ret ∧ (σ = τ ∧ L = [(4, .bool false)] ∧ PV = [])) ?_ ?_
        · refine J_block ?_
          refine J_seq ?_
          refine J_region ?_
          refine JL_op rfl (op_read rfl rfl (r_move (v := .int .i64 x_26.2.2.2) rfl) ?_)
          refine J_bind fun x_32 hx_33 => ?_
          refine JL_op rfl (op_read rfl rfl (r_index_frozen (v := v_1) (T := (tInt .i64)) (q := x_32) Try.pu22 Try.pi2 rfl rfl rfl h_3 hx_33) ?_)
          refine JL_op rfl (op_reads rfl rfl (l_elem_frozen (v := v_1) (T := (tInt .i64)) (Tf := (tInt .i64)) (q := x_32) (i := x_26.2.2.2) (off := 0) Try.pu2 Try.pi2 rfl rfl rfl h_3 hx_33 (FieldAt.self _) (by decide)) ?_)
          intro v_34 h_35
          obtain rfl := tInt_v.1 h_35
          refine JL_op rfl (op_read rfl rfl (r_assign (v := .int .i64 x_26.2.2.2) rfl) ?_)
          refine JL_op rfl (op_read rfl rfl (r_assign (v := .int .i64 x_32) rfl) ?_)
          refine JL_nil ?_
          refine J_then ?_
          refine J_seq ?_
          refine J_region ?_
          refine JL_op rfl (op_read rfl rfl (r_move (v := .pointer (some (Addr.add c_23 0))) rfl) ?_)
          refine JL_op rfl (op_read rfl rfl (r_move (v := .int .i64 x_32) rfl) ?_)
          refine JL_op rfl (op_call (f := 12) (fn := Try.f12) (args := [.pointer (some (Addr.add c_23 0)), .int .i64 x_32]) (post := mem_Memory_Alloc_post σ c_23 v_29 x_26.1 x_26.2.1 x_32) [.cell c_23 [v_29, .int .i64 x_26.2.1], .row o_Gmem_Block 45 v_29 x_26.1] [] rfl rfl rfl Try.func12 Try.pn12 rfl rfl (fun y st hy hpre => mem_Memory_Alloc_ref st σ c_23 v_29 x_26.1 x_26.2.1 x_32 hpre y hy) ?_)
          intro r_36 v_38 s_41 PV_39 hr_37 hle_42 hp_40
          obtain ⟨v_43, rfl, rfl, rfl⟩ := hp_40
          refine JL_op rfl (op_read rfl rfl (r_move (v := .tuple #[.agg #[.int .i64 r_36.1.Kind, .int .i64 r_36.1.N, .int .i64 r_36.1.Block], .bool r_36.2.1]) rfl) ?_)
          refine JL_op rfl (op_read rfl rfl (r_extract (v := .agg #[.int .i64 r_36.1.Kind, .int .i64 r_36.1.N, .int .i64 r_36.1.Block]) rfl rfl) ?_)
          refine JL_op rfl (op_read rfl rfl (r_extract (v := .bool r_36.2.1) rfl rfl) ?_)
          refine JL_op rfl (op_alloc (cs := [.int .i64 0, .int .i64 0, .int .i64 0]) rfl Try.pi29 rfl rfl ?_)
          intro c_44
          refine JL_op rfl (op_store_priv (a := c_44) (off := 0) (vs := [.int .i64 r_36.1.Kind, .int .i64 r_36.1.N, .int .i64 r_36.1.Block]) (cs' := [.int .i64 r_36.1.Kind, .int .i64 r_36.1.N, .int .i64 r_36.1.Block]) (PV' := [.cell c_44 [.int .i64 r_36.1.Kind, .int .i64 r_36.1.N, .int .i64 r_36.1.Block], .cell c_23 [v_43, .int .i64 r_36.2.2.2], .row o_Gmem_Block 45 v_43 r_36.2.2.1]) 0 Try.pi29 rfl rfl rfl ⟨rfl, rfl, rfl, trivial⟩ rfl rfl rfl rfl rfl ?_)
          refine JL_op rfl (op_read rfl rfl (r_assign (v := .bool r_36.2.1) rfl) ?_)
          refine JL_nil ?_
          refine J_then ?_
          refine J_seq ?_
          refine J_region ?_
          refine JL_op rfl (op_read rfl rfl (r_move (v := .int .i64 x_32) rfl) ?_)
          refine JL_op rfl (op_read rfl rfl (r_geq rfl rfl) ?_)
          refine JL_op rfl (op_read rfl rfl (r_move (v := .bool (decide (0 ≤ x_32))) rfl) ?_)
          refine J_forkL (e := (decide (0 ≤ x_32))) 3 [(1, v_4), (5, .pointer (some (Addr.add c_23 0))), (6, .int .i64 x_26.2.2.1), (7, .int .i64 x_26.2.2.2), (8, .int .i64 x_32), (9, .pointer (some (Addr.add c_44 0))), (10, .bool r_36.2.1), (15, v_1), (16, .int .i64 sizes_2.len), (17, .int .i64 x_26.2.2.2), (33, .bool (decide (0 ≤ x_32) && decide (x_32 ≤ 256)))] (fun hc_46 hk => ?_) (fun hc_46 hk => ?_) (fun b => ?_)
          · refine JL_opg rfl rfl hc_46 (op_read rfl rfl (r_move (v := .int .i64 x_32) rfl) ?_)
            refine JL_opg rfl rfl hc_46 (op_read rfl rfl (r_leq rfl rfl) ?_)
            refine JL_op rfl (op_read rfl rfl (r_pick_t (v := .bool (decide (x_32 ≤ 256))) rfl hc_46 rfl) ?_)
            refine J_prune [(1, v_4), (5, .pointer (some (Addr.add c_23 0))), (6, .int .i64 x_26.2.2.1), (7, .int .i64 x_26.2.2.2), (8, .int .i64 x_32), (9, .pointer (some (Addr.add c_44 0))), (10, .bool r_36.2.1), (15, v_1), (16, .int .i64 sizes_2.len), (17, .int .i64 x_26.2.2.2), (33, .bool (decide (0 ≤ x_32) && decide (x_32 ≤ 256)))] ⟨rfl, rfl, rfl, rfl, rfl, rfl, rfl, rfl, rfl, rfl, (by show Value.bool _ = Value.bool _; rw [hc_46]; rfl), trivial⟩ hk
          · refine JL_skip rfl rfl hc_46 rfl rfl ?_
            refine JL_skip rfl rfl hc_46 rfl rfl ?_
            refine JL_op rfl (op_read rfl rfl (r_pick_f (v := .bool false) rfl hc_46 rfl) ?_)
            refine J_prune [(1, v_4), (5, .pointer (some (Addr.add c_23 0))), (6, .int .i64 x_26.2.2.1), (7, .int .i64 x_26.2.2.2), (8, .int .i64 x_32), (9, .pointer (some (Addr.add c_44 0))), (10, .bool r_36.2.1), (15, v_1), (16, .int .i64 sizes_2.len), (17, .int .i64 x_26.2.2.2), (33, .bool (decide (0 ≤ x_32) && decide (x_32 ≤ 256)))] ⟨rfl, rfl, rfl, rfl, rfl, rfl, rfl, rfl, rfl, rfl, (by show Value.bool _ = Value.bool _; rw [hc_46]; rfl), trivial⟩ hk
          · refine JL_op rfl (op_read rfl rfl (r_move (v := .bool (decide (0 ≤ x_32) && decide (x_32 ≤ 256))) rfl) ?_)
            refine J_forkL (e := (decide (0 ≤ x_32) && decide (x_32 ≤ 256))) 6 [(1, v_4), (5, .pointer (some (Addr.add c_23 0))), (6, .int .i64 x_26.2.2.1), (7, .int .i64 x_26.2.2.2), (8, .int .i64 x_32), (9, .pointer (some (Addr.add c_44 0))), (10, .bool r_36.2.1), (15, v_1), (16, .int .i64 sizes_2.len), (17, .int .i64 x_26.2.2.2), (40, .bool ((decide (0 ≤ x_32) && decide (x_32 ≤ 256)) && decide ((IntKind.i64.wrap ((IntKind.i64.wrap (x_26.2.2.1 + x_32)) + 1)) ≤ 4096)))] (fun hc_47 hk => ?_) (fun hc_47 hk => ?_) (fun b => ?_)
            · refine JL_opg rfl rfl hc_47 (op_read rfl rfl (r_move (v := .int .i64 x_26.2.2.1) rfl) ?_)
              refine JL_opg rfl rfl hc_47 (op_read rfl rfl (r_move (v := .int .i64 x_32) rfl) ?_)
              refine JL_opg rfl rfl hc_47 (op_read rfl rfl (r_add rfl rfl) ?_)
              refine JL_opg rfl rfl hc_47 (op_read rfl rfl (r_add rfl rfl) ?_)
              refine JL_opg rfl rfl hc_47 (op_read rfl rfl (r_leq rfl rfl) ?_)
              refine JL_op rfl (op_read rfl rfl (r_pick_t (v := .bool (decide ((IntKind.i64.wrap ((IntKind.i64.wrap (x_26.2.2.1 + x_32)) + 1)) ≤ 4096))) rfl hc_47 rfl) ?_)
              refine J_prune [(1, v_4), (5, .pointer (some (Addr.add c_23 0))), (6, .int .i64 x_26.2.2.1), (7, .int .i64 x_26.2.2.2), (8, .int .i64 x_32), (9, .pointer (some (Addr.add c_44 0))), (10, .bool r_36.2.1), (15, v_1), (16, .int .i64 sizes_2.len), (17, .int .i64 x_26.2.2.2), (40, .bool ((decide (0 ≤ x_32) && decide (x_32 ≤ 256)) && decide ((IntKind.i64.wrap ((IntKind.i64.wrap (x_26.2.2.1 + x_32)) + 1)) ≤ 4096)))] ⟨rfl, rfl, rfl, rfl, rfl, rfl, rfl, rfl, rfl, rfl, (by show Value.bool _ = Value.bool _; rw [hc_47]; rfl), trivial⟩ hk
            · refine JL_skip rfl rfl hc_47 rfl rfl ?_
              refine JL_skip rfl rfl hc_47 rfl rfl ?_
              refine JL_skip rfl rfl hc_47 rfl rfl ?_
              refine JL_skip rfl rfl hc_47 rfl rfl ?_
              refine JL_skip rfl rfl hc_47 rfl rfl ?_
              refine JL_op rfl (op_read rfl rfl (r_pick_f (v := .bool false) rfl hc_47 rfl) ?_)
              refine J_prune [(1, v_4), (5, .pointer (some (Addr.add c_23 0))), (6, .int .i64 x_26.2.2.1), (7, .int .i64 x_26.2.2.2), (8, .int .i64 x_32), (9, .pointer (some (Addr.add c_44 0))), (10, .bool r_36.2.1), (15, v_1), (16, .int .i64 sizes_2.len), (17, .int .i64 x_26.2.2.2), (40, .bool ((decide (0 ≤ x_32) && decide (x_32 ≤ 256)) && decide ((IntKind.i64.wrap ((IntKind.i64.wrap (x_26.2.2.1 + x_32)) + 1)) ≤ 4096)))] ⟨rfl, rfl, rfl, rfl, rfl, rfl, rfl, rfl, rfl, rfl, (by show Value.bool _ = Value.bool _; rw [hc_47]; rfl), trivial⟩ hk
            · refine JL_op rfl (op_read rfl rfl (r_assign (v := .bool ((decide (0 ≤ x_32) && decide (x_32 ≤ 256)) && decide ((IntKind.i64.wrap ((IntKind.i64.wrap (x_26.2.2.1 + x_32)) + 1)) ≤ 4096))) rfl) ?_)
              refine JL_nil ?_
              refine J_then ?_
              refine J_seq ?_
              refine J_seq ?_
              refine J_region ?_
              refine JL_op rfl (op_read rfl rfl (r_move (v := .bool r_36.2.1) rfl) ?_)
              refine JL_op rfl (op_read rfl rfl (r_move (v := .bool ((decide (0 ≤ x_32) && decide (x_32 ≤ 256)) && decide ((IntKind.i64.wrap ((IntKind.i64.wrap (x_26.2.2.1 + x_32)) + 1)) ≤ 4096))) rfl) ?_)
              refine JL_op rfl (op_read rfl rfl (r_bneq Try.pu4 rfl rfl) ?_)
              refine JL_nil ?_
              refine J_then ?_
              refine J_cond rfl (fun hc_48 => ?_) (fun hc_48 => ?_)
              · refine J_seq ?_
                refine J_region ?_
                refine JL_op rfl (op_read rfl rfl (r_assign (v := .bool false) rfl) ?_)
                refine JL_nil ?_
                refine J_then ?_
                refine J_ret ?_
                refine J_then_ret ?_
                refine J_in_ret ?_
                refine J_select (PV' := []) [] (by decide) rfl ?_
                refine J_cut_end _ ?_ ⟨rfl, rfl, rfl, rfl⟩ trivial
                exact ⟨rfl, trivial⟩
              · refine J_skip ?_
                refine J_then ?_
                refine J_seq ?_
                refine J_seq ?_
                refine J_region ?_
                refine JL_op rfl (op_read rfl rfl (r_move (v := .bool r_36.2.1) rfl) ?_)
                refine JL_op rfl (op_read rfl rfl (r_not rfl) ?_)
                refine JL_nil ?_
                refine J_then ?_
                refine J_cond rfl (fun hc_49 => ?_) (fun hc_49 => ?_)
                · refine J_exit ?_
                  refine J_then_exit ?_
                  refine J_in_exit ?_
                  refine J_select (PV' := [.cell c_23 [v_43, .int .i64 r_36.2.2.2], .row o_Gmem_Block 45 v_43 r_36.2.2.1]) [1, 2] (by decide) rfl ?_
                  refine J_cut_end _ ?_ ⟨rfl, v_43, rfl, rfl, rfl⟩ trivial
                  exact ⟨rfl, rfl, rfl, rfl, rfl, rfl, trivial⟩
                · refine J_skip ?_
                  refine J_then ?_
                  refine J_seq ?_
                  refine J_region ?_
                  refine JL_op rfl (op_read rfl rfl (r_move (v := .int .i64 x_26.2.2.1) rfl) ?_)
                  refine JL_op rfl (op_read rfl rfl (r_move (v := .int .i64 x_32) rfl) ?_)
                  refine JL_op rfl (op_read rfl rfl (r_add rfl rfl) ?_)
                  refine JL_op rfl (op_read rfl rfl (r_add rfl rfl) ?_)
                  refine JL_op rfl (op_read rfl rfl (r_assign (v := .int .i64 (IntKind.i64.wrap (x_26.2.2.1 + (IntKind.i64.wrap (x_32 + 1))))) rfl) ?_)
                  refine JL_nil ?_
                  refine J_then ?_
                  refine J_seq ?_
                  refine J_region ?_
                  refine JL_op rfl (op_read rfl rfl (r_move (v := .pointer (some (Addr.add c_23 0))) rfl) ?_)
                  refine J_select (PV' := [.cell c_23 [v_43, .int .i64 r_36.2.2.2], .row o_Gmem_Block 45 v_43 r_36.2.2.1, .cell c_44 [.int .i64 r_36.1.Kind, .int .i64 r_36.1.N, .int .i64 r_36.1.Block]]) [1, 2, 0] (by decide) rfl ?_
                  refine JL_op rfl (op_call (f := 13) (fn := Try.f13) (args := [.pointer (some (Addr.add c_23 0))]) (post := mem_Memory_Used_post σ c_23 v_43 r_36.2.2.1 r_36.2.2.2) [.cell c_23 [v_43, .int .i64 r_36.2.2.2], .row o_Gmem_Block 45 v_43 r_36.2.2.1] [.cell c_44 [.int .i64 r_36.1.Kind, .int .i64 r_36.1.N, .int .i64 r_36.1.Block]] rfl rfl rfl Try.func13 Try.pn13 rfl rfl (fun y st hy hpre => mem_Memory_Used_ref st σ c_23 v_43 r_36.2.2.1 r_36.2.2.2 hpre y hy) ?_)
                  intro r_50 v_52 s_55 PV_53 hr_51 hle_56 hp_54
                  obtain ⟨rfl, rfl, rfl⟩ := hp_54
                  refine JL_op rfl (op_read rfl rfl (r_move (v := .int .i64 (IntKind.i64.wrap (x_26.2.2.1 + (IntKind.i64.wrap (x_32 + 1))))) rfl) ?_)
                  refine JL_op rfl (op_read rfl rfl (r_neq rfl rfl) ?_)
                  refine JL_op rfl (op_read rfl rfl (r_move (v := .bool (decide (r_36.2.2.2 ≠ (IntKind.i64.wrap (x_26.2.2.1 + (IntKind.i64.wrap (x_32 + 1))))))) rfl) ?_)
                  refine J_forkLB (e := (decide (r_36.2.2.2 ≠ (IntKind.i64.wrap (x_26.2.2.1 + (IntKind.i64.wrap (x_32 + 1))))))) 23 (fun (y : (Sl Gmem_Block) × Bool) L τ PV => σ = τ ∧ L = [(1, v_4), (5, .pointer (some (Addr.add c_23 0))), (6, .int .i64 (IntKind.i64.wrap (x_26.2.2.1 + (IntKind.i64.wrap (x_32 + 1))))), (15, v_1), (16, .int .i64 sizes_2.len), (17, .int .i64 x_26.2.2.2), (77, .bool y.2)] ∧ PV = [.cell c_23 [v_43, .int .i64 r_36.2.2.2], .row o_Gmem_Block 45 v_43 y.1]) (fun hc_57 hk => ?_) (fun hc_57 hk => ?_) ?_
                  · refine JL_skip rfl rfl hc_57 rfl rfl ?_
                    refine JL_skip rfl rfl hc_57 rfl rfl ?_
                    refine JL_skip rfl rfl hc_57 rfl rfl ?_
                    refine JL_skip rfl rfl hc_57 rfl rfl ?_
                    refine JL_skip rfl rfl hc_57 rfl rfl ?_
                    refine JL_skipn rfl rfl rfl rfl ?_
                    refine JL_skipn rfl rfl rfl rfl ?_
                    refine JL_skipn rfl rfl rfl rfl ?_
                    refine JL_skipn rfl rfl rfl rfl ?_
                    refine JL_skip rfl rfl hc_57 rfl rfl ?_
                    refine JL_skip rfl rfl hc_57 rfl rfl ?_
                    refine JL_skipn rfl rfl rfl rfl ?_
                    refine JL_skipn rfl rfl rfl rfl ?_
                    refine JL_skipn rfl rfl rfl rfl ?_
                    refine JL_skipn rfl rfl rfl rfl ?_
                    refine JL_skipn rfl rfl rfl rfl ?_
                    refine JL_skipn rfl rfl rfl rfl ?_
                    refine JL_skipn rfl rfl rfl rfl ?_
                    refine JL_skipn rfl rfl rfl rfl ?_
                    refine JL_skipn rfl rfl rfl rfl ?_
                    refine JL_skipn rfl rfl rfl rfl ?_
                    refine JL_skip rfl rfl hc_57 rfl rfl ?_
                    refine JL_op rfl (op_read rfl rfl (r_pick_t (v := .bool true) rfl hc_57 rfl) ?_)
                    refine J_select (PV' := [.cell c_23 [v_43, .int .i64 r_36.2.2.2], .row o_Gmem_Block 45 v_43 r_36.2.2.1]) [0, 1] (by decide) rfl ?_
                    refine J_prune _ ?_ fun b => hk (r_36.2.2.1, true) _ b _ _ ⟨rfl, rfl, rfl⟩
                    exact ⟨rfl, rfl, rfl, rfl, rfl, rfl, rfl, trivial⟩
                  · refine JL_opg rfl rfl hc_57 (op_read rfl rfl (r_move (v := .int .i64 x_26.2.2.2) rfl) ?_)
                    refine JL_opg rfl rfl hc_57 (op_read rfl rfl (r_move (v := v_4) rfl) ?_)
                    refine JL_opg rfl rfl hc_57 (op_read rfl rfl (r_len_frozen (v := v_4) Try.pu23 rfl h_6) ?_)
                    refine JL_opg rfl rfl hc_57 (op_read rfl rfl (r_lss rfl rfl) ?_)
                    refine JL_opg rfl rfl hc_57 (op_read rfl rfl (r_move (v := .bool (decide (x_26.2.2.2 < free_5.len))) rfl) ?_)
                    refine J_assoc ?_
                    refine J_forkLB (e := (decide (x_26.2.2.2 < free_5.len))) 5 (fun (y : Bool) L τ PV => σ = τ ∧ L = [(1, v_4), (5, .pointer (some (Addr.add c_23 0))), (6, .int .i64 (IntKind.i64.wrap (x_26.2.2.1 + (IntKind.i64.wrap (x_32 + 1))))), (7, .int .i64 x_26.2.2.2), (9, .pointer (some (Addr.add c_44 0))), (15, v_1), (16, .int .i64 sizes_2.len), (17, .int .i64 x_26.2.2.2), (50, .pointer (some (Addr.add c_23 0))), (51, .int .i64 r_36.2.2.2), (52, .int .i64 (IntKind.i64.wrap (x_26.2.2.1 + (IntKind.i64.wrap (x_32 + 1))))), (53, .bool (decide (r_36.2.2.2 ≠ (IntKind.i64.wrap (x_26.2.2.1 + (IntKind.i64.wrap (x_32 + 1))))))), (54, .bool (decide (r_36.2.2.2 ≠ (IntKind.i64.wrap (x_26.2.2.1 + (IntKind.i64.wrap (x_32 + 1))))))), (55, .int .i64 x_26.2.2.2), (56, v_4), (57, .int .i64 free_5.len), (58, .bool (decide (x_26.2.2.2 < free_5.len))), (59, .bool (decide (x_26.2.2.2 < free_5.len))), (64, .bool y)] ∧ PV = [.cell c_23 [v_43, .int .i64 r_36.2.2.2], .row o_Gmem_Block 45 v_43 r_36.2.2.1, .cell c_44 [.int .i64 r_36.1.Kind, .int .i64 r_36.1.N, .int .i64 r_36.1.Block]]) (fun hc_59 hk => ?_) (fun hc_59 hk => ?_) ?_
                    · refine JL_opg rfl rfl hc_59 (op_read rfl rfl (r_move (v := v_4) rfl) ?_)
                      refine JL_opg rfl rfl hc_59 (op_read rfl rfl (r_move (v := .int .i64 x_26.2.2.2) rfl) ?_)
                      refine J_assoc ?_
                      refine J_bind fun x_61 hx_62 => ?_
                      refine JL_opg rfl rfl hc_59 (op_read rfl rfl (r_index_frozen (v := v_4) (T := tBool) (q := x_61) Try.pu23 Try.pi4 rfl rfl rfl h_6 hx_62) ?_)
                      refine JL_opg rfl rfl hc_59 (op_reads rfl rfl (l_elem_frozen (v := v_4) (T := tBool) (Tf := tBool) (q := x_61) (i := x_26.2.2.2) (off := 0) Try.pu4 Try.pi4 rfl rfl rfl h_6 hx_62 (FieldAt.self _) (by decide)) ?_)
                      intro v_63 h_64
                      obtain rfl := tBool_v.1 h_64
                      refine JL_opg rfl rfl hc_57 (op_read rfl rfl (r_pick_t (v := .bool x_61) rfl hc_59 rfl) ?_)
                      refine J_prune _ ?_ fun b => hk x_61 _ b _ _ ⟨rfl, rfl, rfl⟩
                      exact ⟨rfl, rfl, rfl, rfl, rfl, rfl, rfl, rfl, rfl, rfl, rfl, rfl, rfl, rfl, rfl, rfl, rfl, rfl, rfl, trivial⟩
                    · refine JL_skip rfl rfl hc_59 rfl rfl ?_
                      refine JL_skip rfl rfl hc_59 rfl rfl ?_
                      refine JL_skip rfl rfl hc_59 rfl rfl ?_
                      refine JL_skip rfl rfl hc_59 rfl rfl ?_
                      refine JL_opg rfl rfl hc_57 (op_read rfl rfl (r_pick_f (v := .bool false) rfl hc_59 rfl) ?_)
                      refine J_prune _ ?_ fun b => hk false _ b _ _ ⟨rfl, rfl, rfl⟩
                      exact ⟨rfl, rfl, rfl, rfl, rfl, rfl, rfl, rfl, rfl, rfl, rfl, rfl, rfl, rfl, rfl, rfl, rfl, rfl, rfl, trivial⟩
                    · rintro y_60 _ b s_67 _ ⟨rfl, rfl, rfl⟩
                      refine JL_opg rfl rfl hc_57 (op_read rfl rfl (r_move (v := .bool y_60) rfl) ?_)
                      refine J_assoc ?_
                      refine J_forkLB (e := y_60) 11 (fun (y : (Sl Gmem_Block) × Bool) L τ PV => σ = τ ∧ L = [(1, v_4), (5, .pointer (some (Addr.add c_23 0))), (6, .int .i64 (IntKind.i64.wrap (x_26.2.2.1 + (IntKind.i64.wrap (x_32 + 1))))), (7, .int .i64 x_26.2.2.2), (9, .pointer (some (Addr.add c_44 0))), (15, v_1), (16, .int .i64 sizes_2.len), (17, .int .i64 x_26.2.2.2), (50, .pointer (some (Addr.add c_23 0))), (51, .int .i64 r_36.2.2.2), (52, .int .i64 (IntKind.i64.wrap (x_26.2.2.1 + (IntKind.i64.wrap (x_32 + 1))))), (53, .bool (decide (r_36.2.2.2 ≠ (IntKind.i64.wrap (x_26.2.2.1 + (IntKind.i64.wrap (x_32 + 1))))))), (54, .bool (decide (r_36.2.2.2 ≠ (IntKind.i64.wrap (x_26.2.2.1 + (IntKind.i64.wrap (x_32 + 1))))))), (55, .int .i64 x_26.2.2.2), (56, v_4), (57, .int .i64 free_5.len), (58, .bool (decide (x_26.2.2.2 < free_5.len))), (59, .bool (decide (x_26.2.2.2 < free_5.len))), (64, .bool y_60), (65, .bool y_60), (76, .bool y.2)] ∧ PV = [.cell c_23 [v_43, .int .i64 r_36.2.2.2], .row o_Gmem_Block 45 v_43 y.1, .cell c_44 [.int .i64 r_36.1.Kind, .int .i64 r_36.1.N, .int .i64 r_36.1.Block]]) (fun hc_68 hk => ?_) (fun hc_68 hk => ?_) ?_
                      · refine JL_opg rfl rfl hc_68 (op_read rfl rfl (r_move (v := .pointer (some (Addr.add c_23 0))) rfl) ?_)
                        refine JL_opg rfl rfl hc_68 (op_read rfl rfl (r_load_priv (a := c_44) (off := 0) (cs' := [.int .i64 r_36.1.Kind, .int .i64 r_36.1.N, .int .i64 r_36.1.Block]) (v := .agg #[.int .i64 r_36.1.Kind, .int .i64 r_36.1.N, .int .i64 r_36.1.Block]) 2 Try.pu29 Try.pi29 rfl rfl rfl rfl (by decide) rfl) ?_)
                        refine J_assoc ?_
                        refine JL_opg rfl rfl hc_68 (op_call (f := 14) (fn := Try.f14) (args := [.pointer (some (Addr.add c_23 0)), .agg #[.int .i64 r_36.1.Kind, .int .i64 r_36.1.N, .int .i64 r_36.1.Block]]) (post := mem_Memory_Free_post σ c_23 v_43 r_36.2.2.1 r_36.2.2.2 (.agg #[.int .i64 r_36.1.Kind, .int .i64 r_36.1.N, .int .i64 r_36.1.Block]) r_36.1) [.cell c_23 [v_43, .int .i64 r_36.2.2.2], .row o_Gmem_Block 45 v_43 r_36.2.2.1] [.cell c_44 [.int .i64 r_36.1.Kind, .int .i64 r_36.1.N, .int .i64 r_36.1.Block]] rfl rfl rfl Try.func14 Try.pn14 rfl rfl (fun y st hy hpre => mem_Memory_Free_ref st σ c_23 v_43 r_36.2.2.1 r_36.2.2.2 (.agg #[.int .i64 r_36.1.Kind, .int .i64 r_36.1.N, .int .i64 r_36.1.Block]) r_36.1 (t_Gmem_Value_v.2 rfl) hpre y hy) ?_)
                        intro r_70 v_72 s_75 PV_73 hr_71 hle_76 hp_74
                        obtain ⟨rfl, rfl, rfl⟩ := hp_74
                        refine JL_opg rfl rfl hc_68 (op_read rfl rfl (r_neq rfl rfl) ?_)
                        refine JL_opg rfl rfl hc_68 (op_read rfl rfl (r_move (v := .bool (decide (r_70.1 ≠ 0))) rfl) ?_)
                        refine J_assoc ?_
                        refine J_forkLB (e := (decide (r_70.1 ≠ 0))) 5 (fun (y : (Sl Gmem_Block) × Bool) L τ PV => σ = τ ∧ L = [(1, v_4), (5, .pointer (some (Addr.add c_23 0))), (6, .int .i64 (IntKind.i64.wrap (x_26.2.2.1 + (IntKind.i64.wrap (x_32 + 1))))), (7, .int .i64 x_26.2.2.2), (9, .pointer (some (Addr.add c_44 0))), (15, v_1), (16, .int .i64 sizes_2.len), (17, .int .i64 x_26.2.2.2), (50, .pointer (some (Addr.add c_23 0))), (51, .int .i64 r_36.2.2.2), (52, .int .i64 (IntKind.i64.wrap (x_26.2.2.1 + (IntKind.i64.wrap (x_32 + 1))))), (53, .bool (decide (r_36.2.2.2 ≠ (IntKind.i64.wrap (x_26.2.2.1 + (IntKind.i64.wrap (x_32 + 1))))))), (54, .bool (decide (r_36.2.2.2 ≠ (IntKind.i64.wrap (x_26.2.2.1 + (IntKind.i64.wrap (x_32 + 1))))))), (55, .int .i64 x_26.2.2.2), (56, v_4), (57, .int .i64 free_5.len), (58, .bool (decide (x_26.2.2.2 < free_5.len))), (59, .bool (decide (x_26.2.2.2 < free_5.len))), (64, .bool y_60), (65, .bool y_60), (66, .pointer (some (Addr.add c_23 0))), (67, .agg #[.int .i64 r_36.1.Kind, .int .i64 r_36.1.N, .int .i64 r_36.1.Block]), (68, .int .i64 r_70.1), (69, .bool (decide (r_70.1 ≠ 0))), (70, .bool (decide (r_70.1 ≠ 0))), (75, .bool y.2)] ∧ PV = [.cell c_23 [v_43, .int .i64 r_36.2.2.2], .row o_Gmem_Block 45 v_43 y.1, .cell c_44 [.int .i64 r_36.1.Kind, .int .i64 r_36.1.N, .int .i64 r_36.1.Block]]) (fun hc_77 hk => ?_) (fun hc_77 hk => ?_) ?_
                        · refine JL_skip rfl rfl hc_77 rfl rfl ?_
                          refine JL_skip rfl rfl hc_77 rfl rfl ?_
                          refine JL_skip rfl rfl hc_77 rfl rfl ?_
                          refine JL_skip rfl rfl hc_77 rfl rfl ?_
                          refine JL_opg rfl rfl hc_68 (op_read rfl rfl (r_pick_t (v := .bool true) rfl hc_77 rfl) ?_)
                          refine J_prune _ ?_ fun b => hk (r_70.2, true) _ b _ _ ⟨rfl, rfl, rfl⟩
                          exact ⟨rfl, rfl, rfl, rfl, rfl, rfl, rfl, rfl, rfl, rfl, rfl, rfl, rfl, rfl, rfl, rfl, rfl, rfl, rfl, rfl, rfl, rfl, rfl, rfl, rfl, rfl, trivial⟩
                        · refine JL_opg rfl rfl hc_77 (op_read rfl rfl (r_move (v := .pointer (some (Addr.add c_23 0))) rfl) ?_)
                          refine JL_opg rfl rfl hc_77 (op_read rfl rfl (r_load_priv (a := c_44) (off := 0) (cs' := [.int .i64 r_36.1.Kind, .int .i64 r_36.1.N, .int .i64 r_36.1.Block]) (v := .agg #[.int .i64 r_36.1.Kind, .int .i64 r_36.1.N, .int .i64 r_36.1.Block]) 2 Try.pu29 Try.pi29 rfl rfl rfl rfl (by decide) rfl) ?_)
                          refine J_assoc ?_
                          refine JL_opg rfl rfl hc_77 (op_call (f := 14) (fn := Try.f14) (args := [.pointer (some (Addr.add c_23 0)), .agg #[.int .i64 r_36.1.Kind, .int .i64 r_36.1.N, .int .i64 r_36.1.Block]]) (post := mem_Memory_Free_post σ c_23 v_43 r_70.2 r_36.2.2.2 (.agg #[.int .i64 r_36.1.Kind, .int .i64 r_36.1.N, .int .i64 r_36.1.Block]) r_36.1) [.cell c_23 [v_43, .int .i64 r_36.2.2.2], .row o_Gmem_Block 45 v_43 r_70.2] [.cell c_44 [.int .i64 r_36.1.Kind, .int .i64 r_36.1.N, .int .i64 r_36.1.Block]] rfl rfl rfl Try.func14 Try.pn14 rfl rfl (fun y st hy hpre => mem_Memory_Free_ref st σ c_23 v_43 r_70.2 r_36.2.2.2 (.agg #[.int .i64 r_36.1.Kind, .int .i64 r_36.1.N, .int .i64 r_36.1.Block]) r_36.1 (t_Gmem_Value_v.2 rfl) hpre y hy) ?_)
                          intro r_79 v_81 s_84 PV_82 hr_80 hle_85 hp_83
                          obtain ⟨rfl, rfl, rfl⟩ := hp_83
                          refine JL_opg rfl rfl hc_77 (op_read rfl rfl (r_neq rfl rfl) ?_)
                          refine JL_opg rfl rfl hc_68 (op_read rfl rfl (r_pick_f (v := .bool (decide (r_79.1 ≠ 2))) rfl hc_77 rfl) ?_)
                          refine J_prune _ ?_ fun b => hk (r_79.2, decide (r_79.1 ≠ 2)) _ b _ _ ⟨rfl, rfl, rfl⟩
                          exact ⟨rfl, rfl, rfl, rfl, rfl, rfl, rfl, rfl, rfl, rfl, rfl, rfl, rfl, rfl, rfl, rfl, rfl, rfl, rfl, rfl, rfl, rfl, rfl, rfl, rfl, rfl, trivial⟩
                        · rintro y_78 _ b s_88 _ ⟨rfl, rfl, rfl⟩
                          refine JL_opg rfl rfl hc_57 (op_read rfl rfl (r_pick_t (v := .bool y_78.2) rfl hc_68 rfl) ?_)
                          refine J_prune _ ?_ fun b => hk (y_78.1, y_78.2) _ b _ _ ⟨rfl, rfl, rfl⟩
                          exact ⟨rfl, rfl, rfl, rfl, rfl, rfl, rfl, rfl, rfl, rfl, rfl, rfl, rfl, rfl, rfl, rfl, rfl, rfl, rfl, rfl, rfl, trivial⟩
                      · refine JL_skip rfl rfl hc_68 rfl rfl ?_
                        refine JL_skip rfl rfl hc_68 rfl rfl ?_
                        refine JL_skip rfl rfl hc_68 rfl rfl ?_
                        refine JL_skip rfl rfl hc_68 rfl rfl ?_
                        refine JL_skip rfl rfl hc_68 rfl rfl ?_
                        refine JL_skipn rfl rfl rfl rfl ?_
                        refine JL_skipn rfl rfl rfl rfl ?_
                        refine JL_skipn rfl rfl rfl rfl ?_
                        refine JL_skipn rfl rfl rfl rfl ?_
                        refine JL_skip rfl rfl hc_68 rfl rfl ?_
                        refine JL_opg rfl rfl hc_57 (op_read rfl rfl (r_pick_f (v := .bool false) rfl hc_68 rfl) ?_)
                        refine J_prune _ ?_ fun b => hk (r_36.2.2.1, false) _ b _ _ ⟨rfl, rfl, rfl⟩
                        exact ⟨rfl, rfl, rfl, rfl, rfl, rfl, rfl, rfl, rfl, rfl, rfl, rfl, rfl, rfl, rfl, rfl, rfl, rfl, rfl, rfl, rfl, trivial⟩
                      · rintro y_69 _ b s_91 _ ⟨rfl, rfl, rfl⟩
                        refine JL_op rfl (op_read rfl rfl (r_pick_f (v := .bool y_69.2) rfl hc_57 rfl) ?_)
                        refine J_select (PV' := [.cell c_23 [v_43, .int .i64 r_36.2.2.2], .row o_Gmem_Block 45 v_43 y_69.1]) [0, 1] (by decide) rfl ?_
                        refine J_prune _ ?_ fun b => hk (y_69.1, y_69.2) _ b _ _ ⟨rfl, rfl, rfl⟩
                        exact ⟨rfl, rfl, rfl, rfl, rfl, rfl, rfl, trivial⟩
                  · rintro y_58 _ b s_94 _ ⟨rfl, rfl, rfl⟩
                    refine JL_nil ?_
                    refine J_then ?_
                    refine J_cond rfl (fun hc_95 => ?_) (fun hc_95 => ?_)
                    · refine J_seq ?_
                      refine J_region ?_
                      refine JL_op rfl (op_read rfl rfl (r_assign (v := .bool false) rfl) ?_)
                      refine JL_nil ?_
                      refine J_then ?_
                      refine J_ret ?_
                      refine J_in_ret ?_
                      refine J_select (PV' := []) [] (by decide) rfl ?_
                      refine J_cut_end _ ?_ ⟨rfl, rfl, rfl, rfl⟩ trivial
                      exact ⟨rfl, trivial⟩
                    · refine J_skip ?_
                      refine J_in_normal ?_
                      refine J_cut_end _ ?_ ⟨rfl, v_43, rfl, rfl, rfl⟩ trivial
                      exact ⟨rfl, rfl, rfl, rfl, rfl, rfl, trivial⟩
        · rintro (y_97 | y_102) e L b τ PV ht
          · obtain ⟨rfl, ht⟩ := ht
            revert ht; revert PV; revert τ; revert b; revert L
            rintro _ b s_101 _ ⟨v_100, rfl, rfl, rfl⟩
            refine J_then ?_
            refine J_region ?_
            refine JL_op rfl (op_read rfl rfl (r_add rfl rfl) ?_)
            refine JL_op rfl (op_read rfl rfl (r_move (v := .int .i64 (IntKind.i64.wrap (x_26.2.2.2 + 1))) rfl) ?_)
            refine JL_nil ?_
            refine J_next _ ?_ ⟨v_100, rfl, rfl, rfl⟩
            exact ⟨rfl, rfl, rfl, rfl, rfl, rfl, trivial⟩
          · obtain ⟨rfl, ht⟩ := ht
            revert ht; revert PV; revert τ; revert b; revert L
            rintro _ b s_105 _ ⟨rfl, rfl, rfl⟩
            refine J_then_ret ?_
            refine J_done trivial _ ?_ ⟨rfl, rfl, rfl, rfl⟩
            exact ⟨rfl, trivial⟩
      · refine J_exit ?_
        refine J_then_exit ?_
        refine J_select (PV' := []) [] (by decide) rfl ?_
        refine J_done trivial _ ?_ ⟨rfl, rfl, rfl, rfl⟩
        exact trivial
    · rintro (y_107 | y_111) e L b τ PV ht
      · obtain ⟨rfl, ht⟩ := ht
        revert ht; revert PV; revert τ; revert b; revert L
        rintro _ b s_110 _ ⟨rfl, rfl, rfl⟩
        refine J_in_exit ?_
        refine J_then ?_
        refine J_seq ?_
        refine J_region ?_
        refine JL_op rfl (op_read rfl rfl (r_assign (v := .bool true) rfl) ?_)
        refine JL_nil ?_
        refine J_then ?_
        refine J_ret ?_
        exact J_returnV1 (PV' := []) rfl rv_tmp [] (by decide) rfl ⟨rfl, rfl, rfl⟩
      · obtain ⟨rfl, ht⟩ := ht
        revert ht; revert PV; revert τ; revert b; revert L
        rintro _ b s_114 _ ⟨rfl, rfl, rfl⟩
        refine J_in_ret ?_
        refine J_then_ret ?_
        exact J_returnV1 (PV' := []) rfl rv_tmp [] (by decide) rfl ⟨rfl, rfl, rfl⟩
end Go.Px
