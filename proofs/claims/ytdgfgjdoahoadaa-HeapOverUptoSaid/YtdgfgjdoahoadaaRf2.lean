/- The calls do what the models say, part 2. -/
import Derived.Test.YtdgfgjdoahoadaaMd
import Derived.Test.YtdgfgjdoahoadaaCT
import Derived.Test.YtdgfgjdoahoadaaRf1
namespace Go.Px
open Go.Proofs
set_option linter.unusedVariables false
def heap_Heap_reach_post (σ0 : FS) (a_1 : Addr) (v_2 : Value) (x_3 : Sl Gheap_Chunk) (Vars_4 : Int) (v_5 : Value) (x_6 : Sl Gdiff_Leq) (v_7 : Value) (p_8 : Gheap_Sym) (v_10 : Value) (index_11 : Gheap_Sym) (write_13 : Bool) (r : (Option Int) × Int) (σ : FS) (PV : List Priv) (v : Value) : Prop :=
  σ0 = σ ∧ .tuple #[peOpt v_2 (o_Gheap_Chunk).size r.1, .int .i64 r.2] = v ∧ PV = [.row o_Gheap_Chunk 49 v_2 x_3, .cell a_1 [v_2, .int .i64 Vars_4, v_5], .row (t_Gdiff_Leq).o 39 v_5 x_6]
set_option maxRecDepth 100000 in
theorem heap_Heap_reach_ref (s : Start) (σ : FS) (a_1 : Addr) (v_2 : Value) (x_3 : Sl Gheap_Chunk) (Vars_4 : Int) (v_5 : Value) (x_6 : Sl Gdiff_Leq) (v_7 : Value) (p_8 : Gheap_Sym) (h_9 : t_Gheap_Sym.vrel σ v_7 p_8) (v_10 : Value) (index_11 : Gheap_Sym) (h_12 : t_Gheap_Sym.vrel σ v_10 index_11) (write_13 : Bool) (hs : Pre s σ [.cell a_1 [v_2, .int .i64 Vars_4, v_5], .row o_Gheap_Chunk 49 v_2 x_3, .row (t_Gdiff_Leq).o 39 v_5 x_6]) (r : (Option Int) × Int) (hr : heap_Heap_reach x_3 Vars_4 x_6 p_8 index_11 write_13 = some r) : Does Try.prog 53 [.pointer (some (Addr.add a_1 0)), v_7, v_10, .bool write_13] s σ (heap_Heap_reach_post σ a_1 v_2 x_3 Vars_4 v_5 x_6 v_7 p_8 v_10 index_11 write_13 r) := by
  unfold heap_Heap_reach at hr
  obtain rfl := t_Gheap_Sym_v.1 h_9
  obtain rfl := t_Gheap_Sym_v.1 h_12
  refine does_of_J Try.func53 rfl (n := 111) rfl rfl hs hr ?_
  refine J_seq ?_
  refine J_region ?_
  refine JL_op rfl (op_box (cs := [.int .i64 p_8.Kind, .int .i64 p_8.Var, .int .i64 p_8.K, .int .i64 p_8.Block]) rfl rfl ?_)
  intro c_14
  refine JL_op rfl (op_box (cs := [.int .i64 index_11.Kind, .int .i64 index_11.Var, .int .i64 index_11.K, .int .i64 index_11.Block]) rfl rfl ?_)
  intro c_16
  refine JL_op rfl (op_read rfl rfl (r_assign (v := .pointer none) rfl) ?_)
  refine JL_op rfl (op_read rfl rfl (r_assign (v := .int .i64 0) rfl) ?_)
  refine JL_nil ?_
  refine J_then ?_
  refine J_seq ?_
  refine J_seq ?_
  refine J_region ?_
  refine JL_op rfl (op_read rfl rfl (r_load_priv (a := c_14) (off := 0) (cs' := [.int .i64 p_8.Kind, .int .i64 p_8.Var, .int .i64 p_8.K, .int .i64 p_8.Block]) (v := .agg #[.int .i64 p_8.Kind, .int .i64 p_8.Var, .int .i64 p_8.K, .int .i64 p_8.Block]) 1 Try.pu33 Try.pi33 rfl rfl rfl rfl (by decide) rfl) ?_)
  refine JL_op rfl (op_callN (f := 56) (fn := Try.f56) (args := [.agg #[.int .i64 p_8.Kind, .int .i64 p_8.Var, .int .i64 p_8.K, .int .i64 p_8.Block], .int .i64 2]) (post := heap_Sym_of_post σ (.agg #[.int .i64 p_8.Kind, .int .i64 p_8.Var, .int .i64 p_8.K, .int .i64 p_8.Block]) p_8 2) 0 rfl rfl rfl Try.func56 Try.pn56 rfl rfl (fun y st hy hpre => heap_Sym_of_ref st σ (.agg #[.int .i64 p_8.Kind, .int .i64 p_8.Var, .int .i64 p_8.K, .int .i64 p_8.Block]) p_8 (t_Gheap_Sym_v.2 rfl) 2 hpre y hy) ?_)
  intro r_18 v_20 s_23 PV_21 hr_19 hle_24 hp_22
  obtain ⟨rfl, rfl, rfl⟩ := hp_22
  refine JL_op rfl (op_read rfl rfl (r_assign (v := .int .i64 r_18) rfl) ?_)
  refine JL_nil ?_
  refine J_then ?_
  refine J_seq ?_
  refine J_region ?_
  refine JL_op rfl (op_read rfl rfl (r_move (v := .int .i64 r_18) rfl) ?_)
  refine JL_op rfl (op_read rfl rfl (r_neq rfl rfl) ?_)
  refine JL_nil ?_
  refine J_then ?_
  refine J_cond rfl (fun hc_25 => ?_) (fun hc_25 => ?_)
  · refine J_seq ?_
    refine J_region ?_
    refine JL_op rfl (op_read rfl rfl (r_move (v := .int .i64 r_18) rfl) ?_)
    refine JL_op rfl (op_read rfl rfl (r_assign (v := .pointer none) rfl) ?_)
    refine JL_op rfl (op_read rfl rfl (r_assign (v := .int .i64 r_18) rfl) ?_)
    refine JL_nil ?_
    refine J_then ?_
    refine J_ret ?_
    refine J_then_ret ?_
    exact J_returnV2 (PV' := [.row o_Gheap_Chunk 49 v_2 x_3, .cell a_1 [v_2, .int .i64 Vars_4, v_5], .row (t_Gdiff_Leq).o 39 v_5 x_6]) rfl rv_tmp rv_tmp [3, 2, 4] (by decide) rfl ⟨rfl, rfl, rfl⟩
  · refine J_skip ?_
    refine J_then ?_
    refine J_seq ?_
    refine J_seq ?_
    refine J_region ?_
    refine JL_op rfl (op_read rfl rfl (r_load_priv (a := c_16) (off := 0) (cs' := [.int .i64 index_11.Kind, .int .i64 index_11.Var, .int .i64 index_11.K, .int .i64 index_11.Block]) (v := .agg #[.int .i64 index_11.Kind, .int .i64 index_11.Var, .int .i64 index_11.K, .int .i64 index_11.Block]) 0 Try.pu33 Try.pi33 rfl rfl rfl rfl (by decide) rfl) ?_)
    refine JL_op rfl (op_callN (f := 56) (fn := Try.f56) (args := [.agg #[.int .i64 index_11.Kind, .int .i64 index_11.Var, .int .i64 index_11.K, .int .i64 index_11.Block], .int .i64 1]) (post := heap_Sym_of_post σ (.agg #[.int .i64 index_11.Kind, .int .i64 index_11.Var, .int .i64 index_11.K, .int .i64 index_11.Block]) index_11 1) 0 rfl rfl rfl Try.func56 Try.pn56 rfl rfl (fun y st hy hpre => heap_Sym_of_ref st σ (.agg #[.int .i64 index_11.Kind, .int .i64 index_11.Var, .int .i64 index_11.K, .int .i64 index_11.Block]) index_11 (t_Gheap_Sym_v.2 rfl) 1 hpre y hy) ?_)
    intro r_26 v_28 s_31 PV_29 hr_27 hle_32 hp_30
    obtain ⟨rfl, rfl, rfl⟩ := hp_30
    refine JL_op rfl (op_read rfl rfl (r_assign (v := .int .i64 r_26) rfl) ?_)
    refine JL_nil ?_
    refine J_then ?_
    refine J_seq ?_
    refine J_region ?_
    refine JL_op rfl (op_read rfl rfl (r_move (v := .int .i64 r_26) rfl) ?_)
    refine JL_op rfl (op_read rfl rfl (r_neq rfl rfl) ?_)
    refine JL_nil ?_
    refine J_then ?_
    refine J_cond rfl (fun hc_33 => ?_) (fun hc_33 => ?_)
    · refine J_seq ?_
      refine J_region ?_
      refine JL_op rfl (op_read rfl rfl (r_move (v := .int .i64 r_26) rfl) ?_)
      refine JL_op rfl (op_read rfl rfl (r_assign (v := .pointer none) rfl) ?_)
      refine JL_op rfl (op_read rfl rfl (r_assign (v := .int .i64 r_26) rfl) ?_)
      refine JL_nil ?_
      refine J_then ?_
      refine J_ret ?_
      refine J_then_ret ?_
      exact J_returnV2 (PV' := [.row o_Gheap_Chunk 49 v_2 x_3, .cell a_1 [v_2, .int .i64 Vars_4, v_5], .row (t_Gdiff_Leq).o 39 v_5 x_6]) rfl rv_tmp rv_tmp [3, 2, 4] (by decide) rfl ⟨rfl, rfl, rfl⟩
    · refine J_skip ?_
      refine J_then ?_
      refine J_seq ?_
      refine J_region ?_
      refine JL_op rfl (op_read rfl rfl (r_move (v := .pointer (some (Addr.add a_1 0))) rfl) ?_)
      refine JL_op rfl (op_read rfl rfl (r_load_priv (a := c_14) (off := 0) (cs' := [.int .i64 p_8.Kind, .int .i64 p_8.Var, .int .i64 p_8.K, .int .i64 p_8.Block]) (v := .agg #[.int .i64 p_8.Kind, .int .i64 p_8.Var, .int .i64 p_8.K, .int .i64 p_8.Block]) 1 Try.pu33 Try.pi33 rfl rfl rfl rfl (by decide) rfl) ?_)
      refine J_front [2, 2, 2] ?_
      refine JL_op rfl (op_callN (f := 58) (fn := Try.f58) (args := [.pointer (some (Addr.add a_1 0)), .agg #[.int .i64 p_8.Kind, .int .i64 p_8.Var, .int .i64 p_8.K, .int .i64 p_8.Block]]) (post := heap_Heap_chunk_post σ a_1 v_2 x_3 Vars_4 v_5 x_6 (.agg #[.int .i64 p_8.Kind, .int .i64 p_8.Var, .int .i64 p_8.K, .int .i64 p_8.Block]) p_8) 3 rfl rfl rfl Try.func58 Try.pn58 rfl rfl (fun y st hy hpre => heap_Heap_chunk_ref st σ a_1 v_2 x_3 Vars_4 v_5 x_6 (.agg #[.int .i64 p_8.Kind, .int .i64 p_8.Var, .int .i64 p_8.K, .int .i64 p_8.Block]) p_8 (t_Gheap_Sym_v.2 rfl) hpre y hy) ?_)
      intro r_34 v_36 s_39 PV_37 hr_35 hle_40 hp_38
      obtain ⟨rfl, rfl, rfl⟩ := hp_38
      refine JL_op rfl (op_read rfl rfl (r_move (v := .tuple #[peOpt v_2 (o_Gheap_Chunk).size r_34.1, .int .i64 r_34.2]) rfl) ?_)
      refine JL_op rfl (op_read rfl rfl (r_extract (v := peOpt v_2 (o_Gheap_Chunk).size r_34.1) rfl rfl) ?_)
      refine JL_op rfl (op_read rfl rfl (r_extract (v := .int .i64 r_34.2) rfl rfl) ?_)
      refine JL_op rfl (op_read rfl rfl (r_assign (v := peOpt v_2 (o_Gheap_Chunk).size r_34.1) rfl) ?_)
      refine JL_op rfl (op_read rfl rfl (r_assign (v := .int .i64 r_34.2) rfl) ?_)
      refine JL_nil ?_
      refine J_then ?_
      refine J_seq ?_
      refine J_cut (fun (y : W2 Unit Int) e L τ PV => match y, e with | .a y, e => e = .normal ∧ (σ = τ ∧ L = [(12, peOpt v_2 (o_Gheap_Chunk).size r_34.1)] ∧ PV = [.row o_Gheap_Chunk 49 v_2 x_3, .cell a_1 [v_2, .int .i64 Vars_4, v_5], .row (t_Gdiff_Leq).o 39 v_5 x_6]) | .b y, e => e = .ret ∧ (σ = τ ∧ L = [(8, .pointer none), (9, .int .i64 y)] ∧ PV = [.cell a_1 [v_2, .int .i64 Vars_4, v_5], .row o_Gheap_Chunk 49 v_2 x_3, .row (t_Gdiff_Leq).o 39 v_5 x_6])) ?_ ?_
      · refine J_block ?_
        refine J_seq ?_
        refine J_region ?_
        refine JL_op rfl (op_read rfl rfl (r_move (v := .int .i64 r_34.2) rfl) ?_)
        refine JL_op rfl (op_read rfl rfl (r_neq rfl rfl) ?_)
        refine JL_op rfl (op_read rfl rfl (r_assign (v := .bool (decide (r_34.2 ≠ 0))) rfl) ?_)
        refine JL_nil ?_
        refine J_then ?_
        refine J_cut (fun (y : W2 Unit Int) e L τ PV => match y, e with | .a y, e => e = .normal ∧ (σ = τ ∧ L = [(12, peOpt v_2 (o_Gheap_Chunk).size r_34.1)] ∧ PV = [.row o_Gheap_Chunk 49 v_2 x_3, .cell a_1 [v_2, .int .i64 Vars_4, v_5], .row (t_Gdiff_Leq).o 39 v_5 x_6]) | .b y, e => e = .ret ∧ (σ = τ ∧ L = [(8, .pointer none), (9, .int .i64 y)] ∧ PV = [.cell a_1 [v_2, .int .i64 Vars_4, v_5], .row o_Gheap_Chunk 49 v_2 x_3, .row (t_Gdiff_Leq).o 39 v_5 x_6])) ?_ ?_
        · refine J_cond rfl (fun hc_41 => ?_) (fun hc_41 => ?_)
          · refine J_seq ?_
            refine J_region ?_
            refine JL_op rfl (op_read rfl rfl (r_move (v := .int .i64 r_34.2) rfl) ?_)
            refine JL_op rfl (op_read rfl rfl (r_assign (v := .pointer none) rfl) ?_)
            refine JL_op rfl (op_read rfl rfl (r_assign (v := .int .i64 r_34.2) rfl) ?_)
            refine JL_nil ?_
            refine J_then ?_
            refine J_ret ?_
            refine J_keep [true, true, true, false, false] ?_
            refine J_front [1] ?_
            refine J_cut_end _ ?_ ⟨rfl, rfl, rfl, rfl⟩ trivial
            exact ⟨rfl, rfl, trivial⟩
          · refine J_seq ?_
            refine J_region ?_
            refine JL_op rfl (op_read rfl rfl (r_move (v := .bool write_13) rfl) ?_)
            refine JL_op rfl (op_read rfl rfl (r_move (v := .bool write_13) rfl) ?_)
            refine J_forkLB (e := write_13) 13 (fun (y : Bool) L τ PV => σ = τ ∧ L = [(0, .pointer (some (Addr.add a_1 0))), (6, .pointer (some (Addr.add c_16 0))), (12, peOpt v_2 (o_Gheap_Chunk).size r_34.1), (49, .bool y)] ∧ PV = [.cell a_1 [v_2, .int .i64 Vars_4, v_5], .row o_Gheap_Chunk 49 v_2 x_3, .row (t_Gdiff_Leq).o 39 v_5 x_6, .cell c_16 [.int .i64 index_11.Kind, .int .i64 index_11.Var, .int .i64 index_11.K, .int .i64 index_11.Block]]) (fun hc_42 hk => ?_) (fun hc_42 hk => ?_) ?_
            · refine JL_opg rfl rfl hc_42 (op_read rfl rfl (r_move (v := peOpt v_2 (o_Gheap_Chunk).size r_34.1) rfl) ?_)
              refine J_assoc ?_
              refine J_bind fun i_44 hi_45 => ?_
              refine JL_opg rfl rfl hc_42 (op_read rfl rfl (r_nilCheck_opt (i := i_44) rfl hi_45) ?_)
              refine JL_opg rfl rfl hc_42 (op_read rfl rfl (r_fieldAddr (r := elemAddr v_2 ((i_44).toNat * (o_Gheap_Chunk).size + 0)) Try.pu49 (f := Try.pf49.getD 0 default) rfl Try.pi47 (by decide) rfl (elemAddr_add _ _ _)) ?_)
              refine J_assoc ?_
              refine J_bind fun x_46 hx_47 => ?_
              refine JL_opg rfl rfl hc_42 (op_reads rfl rfl (l_elem_orow (v := v_2) (T := o_Gheap_Chunk) (Tf := (tInt .i64)) (q := x_46) (i := i_44) (off := 0) 0 Try.pu47 Try.pi47 rfl rfl rfl rfl hx_47 of_Gheap_Chunk_Origin (by decide)) ?_)
              intro v_48 h_49
              obtain rfl := tInt_v.1 h_49
              refine JL_opg rfl rfl hc_42 (op_read rfl rfl (r_eql rfl rfl) ?_)
              refine JL_opg rfl rfl hc_42 (op_read rfl rfl (r_move (v := .bool (decide (x_46.Origin = 3))) rfl) ?_)
              refine J_forkL (e := (decide (x_46.Origin = 3))) 6 [(0, .pointer (some (Addr.add a_1 0))), (3, .bool write_13), (6, .pointer (some (Addr.add c_16 0))), (12, peOpt v_2 (o_Gheap_Chunk).size r_34.1), (35, .bool write_13), (36, .bool write_13), (37, peOpt v_2 (o_Gheap_Chunk).size r_34.1), (38, .pointer (some (elemAddr v_2 ((i_44).toNat * (o_Gheap_Chunk).size + 0)))), (39, .pointer (some (elemAddr v_2 ((i_44).toNat * (o_Gheap_Chunk).size + 0)))), (40, .int .i64 x_46.Origin), (41, .bool (decide (x_46.Origin = 3))), (42, .bool (decide (x_46.Origin = 3))), (48, .bool (decide (x_46.Origin = 3) || decide (x_46.Origin = 8)))] (fun hc_50 hk => ?_) (fun hc_50 hk => ?_) (fun b => ?_)
              · refine JL_skip rfl rfl hc_50 rfl rfl ?_
                refine JL_skip rfl rfl hc_50 rfl rfl ?_
                refine JL_skip rfl rfl hc_50 rfl rfl ?_
                refine JL_skip rfl rfl hc_50 rfl rfl ?_
                refine JL_skip rfl rfl hc_50 rfl rfl ?_
                refine JL_opg rfl rfl hc_42 (op_read rfl rfl (r_pick_t (v := .bool true) rfl hc_50 rfl) ?_)
                refine J_prune [(0, .pointer (some (Addr.add a_1 0))), (3, .bool write_13), (6, .pointer (some (Addr.add c_16 0))), (12, peOpt v_2 (o_Gheap_Chunk).size r_34.1), (35, .bool write_13), (36, .bool write_13), (37, peOpt v_2 (o_Gheap_Chunk).size r_34.1), (38, .pointer (some (elemAddr v_2 ((i_44).toNat * (o_Gheap_Chunk).size + 0)))), (39, .pointer (some (elemAddr v_2 ((i_44).toNat * (o_Gheap_Chunk).size + 0)))), (40, .int .i64 x_46.Origin), (41, .bool (decide (x_46.Origin = 3))), (42, .bool (decide (x_46.Origin = 3))), (48, .bool (decide (x_46.Origin = 3) || decide (x_46.Origin = 8)))] ⟨rfl, rfl, rfl, rfl, rfl, rfl, rfl, rfl, rfl, rfl, rfl, rfl, (by show Value.bool _ = Value.bool _; rw [hc_50]; rfl), trivial⟩ hk
              · refine JL_opg rfl rfl hc_50 (op_read rfl rfl (r_move (v := peOpt v_2 (o_Gheap_Chunk).size r_34.1) rfl) ?_)
                refine JL_opg rfl rfl hc_50 (op_read rfl rfl (r_nilCheck_opt (i := i_44) rfl hi_45) ?_)
                refine JL_opg rfl rfl hc_50 (op_read rfl rfl (r_fieldAddr (r := elemAddr v_2 ((i_44).toNat * (o_Gheap_Chunk).size + 0)) Try.pu49 (f := Try.pf49.getD 0 default) rfl Try.pi47 (by decide) rfl (elemAddr_add _ _ _)) ?_)
                refine JL_opg rfl rfl hc_50 (op_reads rfl rfl (l_elem_orow (v := v_2) (T := o_Gheap_Chunk) (Tf := (tInt .i64)) (q := x_46) (i := i_44) (off := 0) 0 Try.pu47 Try.pi47 rfl rfl rfl rfl hx_47 of_Gheap_Chunk_Origin (by decide)) ?_)
                intro v_51 h_52
                obtain rfl := tInt_v.1 h_52
                refine JL_opg rfl rfl hc_50 (op_read rfl rfl (r_eql rfl rfl) ?_)
                refine JL_opg rfl rfl hc_42 (op_read rfl rfl (r_pick_f (v := .bool (decide (x_46.Origin = 8))) rfl hc_50 rfl) ?_)
                refine J_prune [(0, .pointer (some (Addr.add a_1 0))), (3, .bool write_13), (6, .pointer (some (Addr.add c_16 0))), (12, peOpt v_2 (o_Gheap_Chunk).size r_34.1), (35, .bool write_13), (36, .bool write_13), (37, peOpt v_2 (o_Gheap_Chunk).size r_34.1), (38, .pointer (some (elemAddr v_2 ((i_44).toNat * (o_Gheap_Chunk).size + 0)))), (39, .pointer (some (elemAddr v_2 ((i_44).toNat * (o_Gheap_Chunk).size + 0)))), (40, .int .i64 x_46.Origin), (41, .bool (decide (x_46.Origin = 3))), (42, .bool (decide (x_46.Origin = 3))), (48, .bool (decide (x_46.Origin = 3) || decide (x_46.Origin = 8)))] ⟨rfl, rfl, rfl, rfl, rfl, rfl, rfl, rfl, rfl, rfl, rfl, rfl, (by show Value.bool _ = Value.bool _; rw [hc_50]; rfl), trivial⟩ hk
              · refine JL_op rfl (op_read rfl rfl (r_pick_t (v := .bool (decide (x_46.Origin = 3) || decide (x_46.Origin = 8))) rfl hc_42 rfl) ?_)
                refine J_keep [true, true, true, true, false] ?_
                refine J_front [1] ?_
                refine J_prune _ ?_ fun b => hk (decide (x_46.Origin = 3) || decide (x_46.Origin = 8)) _ b _ _ ⟨rfl, rfl, rfl⟩
                exact ⟨rfl, rfl, rfl, rfl, trivial⟩
            · refine JL_skip rfl rfl hc_42 rfl rfl ?_
              refine JL_skip rfl rfl hc_42 rfl rfl ?_
              refine JL_skip rfl rfl hc_42 rfl rfl ?_
              refine JL_skip rfl rfl hc_42 rfl rfl ?_
              refine JL_skip rfl rfl hc_42 rfl rfl ?_
              refine JL_skip rfl rfl hc_42 rfl rfl ?_
              refine JL_skipn rfl rfl rfl rfl ?_
              refine JL_skipn rfl rfl rfl rfl ?_
              refine JL_skipn rfl rfl rfl rfl ?_
              refine JL_skipn rfl rfl rfl rfl ?_
              refine JL_skipn rfl rfl rfl rfl ?_
              refine JL_skip rfl rfl hc_42 rfl rfl ?_
              refine JL_op rfl (op_read rfl rfl (r_pick_f (v := .bool false) rfl hc_42 rfl) ?_)
              refine J_keep [true, true, true, true, false] ?_
              refine J_front [1] ?_
              refine J_prune _ ?_ fun b => hk false _ b _ _ ⟨rfl, rfl, rfl⟩
              exact ⟨rfl, rfl, rfl, rfl, trivial⟩
            · rintro y_43 _ b s_55 _ ⟨rfl, rfl, rfl⟩
              refine JL_op rfl (op_read rfl rfl (r_assign (v := .bool y_43) rfl) ?_)
              refine JL_nil ?_
              refine J_then ?_
              refine J_cut (fun (y : W2 Unit Int) e L τ PV => match y, e with | .a y, e => e = .normal ∧ (σ = τ ∧ L = [(12, peOpt v_2 (o_Gheap_Chunk).size r_34.1)] ∧ PV = [.row o_Gheap_Chunk 49 v_2 x_3, .cell a_1 [v_2, .int .i64 Vars_4, v_5], .row (t_Gdiff_Leq).o 39 v_5 x_6]) | .b y, e => e = .ret ∧ (σ = τ ∧ L = [(8, .pointer none), (9, .int .i64 y)] ∧ PV = [.cell a_1 [v_2, .int .i64 Vars_4, v_5], .row o_Gheap_Chunk 49 v_2 x_3, .row (t_Gdiff_Leq).o 39 v_5 x_6])) ?_ ?_
              · refine J_cond rfl (fun hc_56 => ?_) (fun hc_56 => ?_)
                · refine J_seq ?_
                  refine J_region ?_
                  refine JL_op rfl (op_read rfl rfl (r_assign (v := .pointer none) rfl) ?_)
                  refine JL_op rfl (op_read rfl rfl (r_assign (v := .int .i64 44) rfl) ?_)
                  refine JL_nil ?_
                  refine J_then ?_
                  refine J_ret ?_
                  refine J_keep [true, true, true, false] ?_
                  refine J_cut_end _ ?_ ⟨rfl, rfl, rfl, rfl⟩ trivial
                  exact ⟨rfl, rfl, trivial⟩
                · refine J_seq ?_
                  refine J_region ?_
                  refine JL_op rfl (op_read rfl rfl (r_move (v := peOpt v_2 (o_Gheap_Chunk).size r_34.1) rfl) ?_)
                  refine J_bind fun i_57 hi_58 => ?_
                  refine JL_op rfl (op_read rfl rfl (r_nilCheck_opt (i := i_57) rfl hi_58) ?_)
                  refine JL_op rfl (op_read rfl rfl (r_fieldAddr (r := elemAddr v_2 ((i_57).toNat * (o_Gheap_Chunk).size + 0)) Try.pu49 (f := Try.pf49.getD 0 default) rfl Try.pi47 (by decide) rfl (elemAddr_add _ _ _)) ?_)
                  refine J_bind fun x_59 hx_60 => ?_
                  refine JL_op rfl (op_reads rfl rfl (l_elem_orow (v := v_2) (T := o_Gheap_Chunk) (Tf := (tInt .i64)) (q := x_59) (i := i_57) (off := 0) 1 Try.pu47 Try.pi47 rfl rfl rfl rfl hx_60 of_Gheap_Chunk_Origin (by decide)) ?_)
                  intro v_61 h_62
                  obtain rfl := tInt_v.1 h_62
                  refine JL_op rfl (op_read rfl rfl (r_eql rfl rfl) ?_)
                  refine JL_op rfl (op_read rfl rfl (r_move (v := .bool (decide (x_59.Origin = 6))) rfl) ?_)
                  refine J_forkL (e := (decide (x_59.Origin = 6))) 6 [(0, .pointer (some (Addr.add a_1 0))), (6, .pointer (some (Addr.add c_16 0))), (12, peOpt v_2 (o_Gheap_Chunk).size r_34.1), (62, .bool (decide (x_59.Origin = 6) && !x_59.Held))] (fun hc_63 hk => ?_) (fun hc_63 hk => ?_) (fun b => ?_)
                  · refine JL_opg rfl rfl hc_63 (op_read rfl rfl (r_move (v := peOpt v_2 (o_Gheap_Chunk).size r_34.1) rfl) ?_)
                    refine JL_opg rfl rfl hc_63 (op_read rfl rfl (r_nilCheck_opt (i := i_57) rfl hi_58) ?_)
                    refine JL_opg rfl rfl hc_63 (op_read rfl rfl (r_fieldAddr (r := elemAddr v_2 ((i_57).toNat * (o_Gheap_Chunk).size + 4)) Try.pu49 (f := Try.pf49.getD 4 default) rfl Try.pi4 (by decide) rfl (elemAddr_add _ _ _)) ?_)
                    refine JL_opg rfl rfl hc_63 (op_reads rfl rfl (l_elem_orow (v := v_2) (T := o_Gheap_Chunk) (Tf := tBool) (q := x_59) (i := i_57) (off := 4) 1 Try.pu4 Try.pi4 rfl rfl rfl rfl hx_60 of_Gheap_Chunk_Held (by decide)) ?_)
                    intro v_64 h_65
                    obtain rfl := tBool_v.1 h_65
                    refine JL_opg rfl rfl hc_63 (op_read rfl rfl (r_not rfl) ?_)
                    refine JL_op rfl (op_read rfl rfl (r_pick_t (v := .bool (!x_59.Held)) rfl hc_63 rfl) ?_)
                    refine J_prune [(0, .pointer (some (Addr.add a_1 0))), (6, .pointer (some (Addr.add c_16 0))), (12, peOpt v_2 (o_Gheap_Chunk).size r_34.1), (62, .bool (decide (x_59.Origin = 6) && !x_59.Held))] ⟨rfl, rfl, rfl, (by show Value.bool _ = Value.bool _; rw [hc_63]; rfl), trivial⟩ hk
                  · refine JL_skip rfl rfl hc_63 rfl rfl ?_
                    refine JL_skip rfl rfl hc_63 rfl rfl ?_
                    refine JL_skip rfl rfl hc_63 rfl rfl ?_
                    refine JL_skip rfl rfl hc_63 rfl rfl ?_
                    refine JL_skip rfl rfl hc_63 rfl rfl ?_
                    refine JL_op rfl (op_read rfl rfl (r_pick_f (v := .bool false) rfl hc_63 rfl) ?_)
                    refine J_prune [(0, .pointer (some (Addr.add a_1 0))), (6, .pointer (some (Addr.add c_16 0))), (12, peOpt v_2 (o_Gheap_Chunk).size r_34.1), (62, .bool (decide (x_59.Origin = 6) && !x_59.Held))] ⟨rfl, rfl, rfl, (by show Value.bool _ = Value.bool _; rw [hc_63]; rfl), trivial⟩ hk
                  · refine JL_op rfl (op_read rfl rfl (r_assign (v := .bool (decide (x_59.Origin = 6) && !x_59.Held)) rfl) ?_)
                    refine JL_nil ?_
                    refine J_then ?_
                    refine J_cut (fun (y : W2 Unit Int) e L τ PV => match y, e with | .a y, e => e = .normal ∧ (σ = τ ∧ L = [(12, peOpt v_2 (o_Gheap_Chunk).size r_34.1)] ∧ PV = [.row o_Gheap_Chunk 49 v_2 x_3, .cell a_1 [v_2, .int .i64 Vars_4, v_5], .row (t_Gdiff_Leq).o 39 v_5 x_6]) | .b y, e => e = .ret ∧ (σ = τ ∧ L = [(8, .pointer none), (9, .int .i64 y)] ∧ PV = [.cell a_1 [v_2, .int .i64 Vars_4, v_5], .row o_Gheap_Chunk 49 v_2 x_3, .row (t_Gdiff_Leq).o 39 v_5 x_6])) ?_ ?_
                    · refine J_cond rfl (fun hc_66 => ?_) (fun hc_66 => ?_)
                      · refine J_seq ?_
                        refine J_region ?_
                        refine JL_op rfl (op_read rfl rfl (r_assign (v := .pointer none) rfl) ?_)
                        refine JL_op rfl (op_read rfl rfl (r_assign (v := .int .i64 45) rfl) ?_)
                        refine JL_nil ?_
                        refine J_then ?_
                        refine J_ret ?_
                        refine J_keep [true, true, true, false] ?_
                        refine J_cut_end _ ?_ ⟨rfl, rfl, rfl, rfl⟩ trivial
                        exact ⟨rfl, rfl, trivial⟩
                      · refine J_seq ?_
                        refine J_region ?_
                        refine JL_op rfl (op_read rfl rfl (r_move (v := peOpt v_2 (o_Gheap_Chunk).size r_34.1) rfl) ?_)
                        refine JL_op rfl (op_read rfl rfl (r_nilCheck_opt (i := i_57) rfl hi_58) ?_)
                        refine JL_op rfl (op_read rfl rfl (r_fieldAddr (r := elemAddr v_2 ((i_57).toNat * (o_Gheap_Chunk).size + 5)) Try.pu49 (f := Try.pf49.getD 5 default) rfl Try.pi4 (by decide) rfl (elemAddr_add _ _ _)) ?_)
                        refine JL_op rfl (op_reads rfl rfl (l_elem_orow (v := v_2) (T := o_Gheap_Chunk) (Tf := tBool) (q := x_59) (i := i_57) (off := 5) 1 Try.pu4 Try.pi4 rfl rfl rfl rfl hx_60 of_Gheap_Chunk_Array (by decide)) ?_)
                        intro v_67 h_68
                        obtain rfl := tBool_v.1 h_68
                        refine JL_op rfl (op_read rfl rfl (r_assign (v := .bool x_59.Array) rfl) ?_)
                        refine JL_nil ?_
                        refine J_then ?_
                        refine J_cut (fun (y : W2 Unit Int) e L τ PV => match y, e with | .a y, e => e = .normal ∧ (σ = τ ∧ L = [(12, peOpt v_2 (o_Gheap_Chunk).size r_34.1)] ∧ PV = [.row o_Gheap_Chunk 49 v_2 x_3, .cell a_1 [v_2, .int .i64 Vars_4, v_5], .row (t_Gdiff_Leq).o 39 v_5 x_6]) | .b y, e => e = .ret ∧ (σ = τ ∧ L = [(8, .pointer none), (9, .int .i64 y)] ∧ PV = [.cell a_1 [v_2, .int .i64 Vars_4, v_5], .row o_Gheap_Chunk 49 v_2 x_3, .row (t_Gdiff_Leq).o 39 v_5 x_6])) ?_ ?_
                        · refine J_cond rfl (fun hc_69 => ?_) (fun hc_69 => ?_)
                          · refine J_seq ?_
                            refine J_region_any 8 [.cell a_1 [v_2, .int .i64 Vars_4, v_5], .row o_Gheap_Chunk 49 v_2 x_3, .row (t_Gdiff_Leq).o 39 v_5 x_6, .cell c_16 [.int .i64 index_11.Kind, .int .i64 index_11.Var, .int .i64 index_11.K, .int .i64 index_11.Block]] Try.mixed (by kernel_rfl) fun hns => ?_
                            refine JA_takep 0 rfl hns (by kernel_rfl) (by kernel_rfl) rfl (.inr (by exact HeldOK.same [0, 1, 2, 3] (by decide) rfl)) rfl rfl rfl (r_move (v := .pointer (some (Addr.add a_1 0))) rfl) ?_
                            refine JA_take 1 rfl hns (by kernel_rfl) (by kernel_rfl) (by kernel_rfl) rfl (by kernel_rfl) (by exact HeldOK.same [0, 1, 2, 3] (by decide) rfl) rfl rfl rfl (r_load_priv (a := c_16) (off := 0) (cs' := [.int .i64 index_11.Kind, .int .i64 index_11.Var, .int .i64 index_11.K, .int .i64 index_11.Block]) (v := .agg #[.int .i64 index_11.Kind, .int .i64 index_11.Var, .int .i64 index_11.K, .int .i64 index_11.Block]) 3 Try.pu33 Try.pi33 rfl rfl rfl rfl (by decide) rfl) ?_
                            refine JA_takep 2 rfl hns (by kernel_rfl) (by kernel_rfl) rfl (.inr (by exact HeldOK.same [0, 1, 2, 3] (by decide) rfl)) rfl rfl rfl (r_move (v := peOpt v_2 (o_Gheap_Chunk).size r_34.1) rfl) ?_
                            refine JA_takep 3 rfl hns (by kernel_rfl) (by kernel_rfl) rfl (.inr (by exact HeldOK.same [0, 1, 2, 3] (by decide) rfl)) rfl rfl rfl (r_nilCheck_opt (i := i_57) rfl hi_58) ?_
                            refine JA_takep 4 rfl hns (by kernel_rfl) (by kernel_rfl) rfl (.inr (by exact HeldOK.same [0, 1, 2, 3] (by decide) rfl)) rfl rfl rfl (r_fieldAddr (r := elemAddr v_2 ((i_57).toNat * (o_Gheap_Chunk).size + 6)) Try.pu49 (f := Try.pf49.getD 6 default) rfl Try.pi33 (by decide) rfl (elemAddr_add _ _ _)) ?_
                            refine JA_takes 5 rfl hns (by kernel_rfl) (by kernel_rfl) (by kernel_rfl) rfl (by kernel_rfl) (by exact HeldOK.same [0, 1, 2, 3] (by decide) rfl) rfl rfl rfl (l_elem_orow (v := v_2) (T := o_Gheap_Chunk) (Tf := t_Gheap_Sym) (q := x_59) (i := i_57) (off := 6) 1 Try.pu33 Try.pi33 rfl rfl rfl rfl hx_60 of_Gheap_Chunk_Size (by decide)) ?_
                            intro v_71 h_72
                            obtain rfl := t_Gheap_Sym_v.1 h_72
                            refine JA_op (i := 6) (by kernel_rfl) rfl rfl (op_callN (f := 67) (fn := Try.f67) (args := [.pointer (some (Addr.add a_1 0)), .agg #[.int .i64 index_11.Kind, .int .i64 index_11.Var, .int .i64 index_11.K, .int .i64 index_11.Block], .agg #[.int .i64 x_59.Size.Kind, .int .i64 x_59.Size.Var, .int .i64 x_59.Size.K, .int .i64 x_59.Size.Block]]) (post := heap_Heap_within_post σ a_1 v_2 x_3 Vars_4 v_5 x_6 (.agg #[.int .i64 index_11.Kind, .int .i64 index_11.Var, .int .i64 index_11.K, .int .i64 index_11.Block]) index_11 (.agg #[.int .i64 x_59.Size.Kind, .int .i64 x_59.Size.Var, .int .i64 x_59.Size.K, .int .i64 x_59.Size.Block]) x_59.Size) 3 rfl rfl rfl Try.func67 Try.pn67 rfl rfl (fun y st hy hpre => heap_Heap_within_ref st σ a_1 v_2 x_3 Vars_4 v_5 x_6 (.agg #[.int .i64 index_11.Kind, .int .i64 index_11.Var, .int .i64 index_11.K, .int .i64 index_11.Block]) index_11 (t_Gheap_Sym_v.2 rfl) (.agg #[.int .i64 x_59.Size.Kind, .int .i64 x_59.Size.Var, .int .i64 x_59.Size.K, .int .i64 x_59.Size.Block]) x_59.Size (t_Gheap_Sym_v.2 rfl) hpre y hy) ?_)
                            intro r_73 v_75 s_78 PV_76 hr_74 hle_79 hp_77
                            obtain ⟨rfl, rfl, rfl⟩ := hp_77
                            refine ⟨.inr (by exact HeldOK.same [0, 1, 2, 3] (by decide) rfl), ?_⟩
                            refine JA_takep 7 rfl hns (by kernel_rfl) (by kernel_rfl) rfl (.inr (by exact HeldOK.same [0, 1, 2, 3] (by decide) rfl)) rfl rfl rfl (r_not rfl) ?_
                            refine JA_done (by kernel_rfl) ?_
                            refine J_then ?_
                            refine J_cond rfl (fun hc_81 => ?_) (fun hc_81 => ?_)
                            · refine J_seq ?_
                              refine J_region ?_
                              refine JL_op rfl (op_read rfl rfl (r_assign (v := .pointer none) rfl) ?_)
                              refine JL_op rfl (op_read rfl rfl (r_assign (v := .int .i64 42) rfl) ?_)
                              refine JL_nil ?_
                              refine J_then ?_
                              refine J_ret ?_
                              refine J_keep [true, true, true, false] ?_
                              refine J_cut_end _ ?_ ⟨rfl, rfl, rfl, rfl⟩ trivial
                              exact ⟨rfl, rfl, trivial⟩
                            · refine J_skip ?_
                              refine J_keep [true, true, true, false] ?_
                              refine J_front [1] ?_
                              refine J_cut_end _ ?_ ⟨rfl, rfl, rfl, rfl⟩ trivial
                              exact ⟨rfl, trivial⟩
                          · refine J_seq ?_
                            refine J_region_any 19 [.cell a_1 [v_2, .int .i64 Vars_4, v_5], .row o_Gheap_Chunk 49 v_2 x_3, .row (t_Gdiff_Leq).o 39 v_5 x_6, .cell c_16 [.int .i64 index_11.Kind, .int .i64 index_11.Var, .int .i64 index_11.K, .int .i64 index_11.Block]] Try.mixed (by kernel_rfl) fun hns => ?_
                            refine JA_takep 0 rfl hns (by kernel_rfl) (by kernel_rfl) rfl (.inr (by exact HeldOK.same [0, 1, 2, 3] (by decide) rfl)) rfl rfl rfl (r_fieldAddr (r := Addr.add c_16 1) Try.pu33 (f := Try.pf33.getD 1 default) rfl Try.pi3 (by decide) rfl (Addr.add_add _ _ _)) ?_
                            refine JA_take 1 rfl hns (by kernel_rfl) (by kernel_rfl) (by kernel_rfl) rfl (by kernel_rfl) (by exact HeldOK.same [0, 1, 2, 3] (by decide) rfl) rfl rfl rfl (r_load_priv (a := c_16) (off := 1) (cs' := [.int .i64 index_11.Var]) (v := .int .i64 index_11.Var) 3 Try.pu3 Try.pi3 rfl rfl rfl rfl (by decide) rfl) ?_
                            refine JA_takep 2 rfl hns (by kernel_rfl) (by kernel_rfl) rfl (.inr (by exact HeldOK.same [0, 1, 2, 3] (by decide) rfl)) rfl rfl rfl (r_neq rfl rfl) ?_
                            refine JA_takep 3 rfl hns (by kernel_rfl) (by kernel_rfl) rfl (.inr (by exact HeldOK.same [0, 1, 2, 3] (by decide) rfl)) rfl rfl rfl (r_move (v := .bool (decide (index_11.Var ≠ 0))) rfl) ?_
                            refine J_forkA (e := (decide (index_11.Var ≠ 0))) 11 #[true, true, true, true, true, true, true, true, false, false, false, false, false, false, false, false, false, false, false] [(6, .pointer (some (Addr.add c_16 0))), (12, peOpt v_2 (o_Gheap_Chunk).size r_34.1), (84, .bool (decide (index_11.Var ≠ 0) || decide (index_11.K < 0)))] (fun hc_83 hk => ?_) (fun hc_83 hk => ?_) (fun b => ?_)
                            · refine JA_skip (y := some (decide (index_11.Var ≠ 0))) 4 rfl hns (by kernel_rfl) (by kernel_rfl) rfl (.inr (by exact HeldOK.same [0, 1, 2, 3] (by decide) rfl)) rfl rfl (by rw [hc_83]; decide) rfl rfl ?_
                              refine JA_skip (y := some (decide (index_11.Var ≠ 0))) 5 rfl hns (by kernel_rfl) (by kernel_rfl) rfl (.inr (by exact HeldOK.same [0, 1, 2, 3] (by decide) rfl)) rfl rfl (by rw [hc_83]; decide) rfl rfl ?_
                              refine JA_skip (y := some (decide (index_11.Var ≠ 0))) 6 rfl hns (by kernel_rfl) (by kernel_rfl) rfl (.inr (by exact HeldOK.same [0, 1, 2, 3] (by decide) rfl)) rfl rfl (by rw [hc_83]; decide) rfl rfl ?_
                              refine JA_takep 7 rfl hns (by kernel_rfl) (by kernel_rfl) rfl (.inr (by exact HeldOK.same [0, 1, 2, 3] (by decide) rfl)) rfl rfl rfl (r_pick_t (v := .bool true) rfl hc_83 rfl) ?_
                              refine J_prune [(6, .pointer (some (Addr.add c_16 0))), (12, peOpt v_2 (o_Gheap_Chunk).size r_34.1), (84, .bool (decide (index_11.Var ≠ 0) || decide (index_11.K < 0)))] ⟨rfl, rfl, (by show Value.bool _ = Value.bool _; rw [hc_83]; rfl), trivial⟩ hk
                            · refine JA_takepg 4 rfl hns (by kernel_rfl) (by kernel_rfl) rfl (.inr (by exact HeldOK.same [0, 1, 2, 3] (by decide) rfl)) rfl rfl hc_83 rfl rfl (r_fieldAddr (r := Addr.add c_16 2) Try.pu33 (f := Try.pf33.getD 2 default) rfl Try.pi2 (by decide) rfl (Addr.add_add _ _ _)) ?_
                              refine JA_takeg 5 rfl hns (by kernel_rfl) (by kernel_rfl) (by kernel_rfl) rfl (by kernel_rfl) (by exact HeldOK.same [0, 1, 2, 3] (by decide) rfl) rfl rfl hc_83 rfl rfl (r_load_priv (a := c_16) (off := 2) (cs' := [.int .i64 index_11.K]) (v := .int .i64 index_11.K) 3 Try.pu2 Try.pi2 rfl rfl rfl rfl (by decide) rfl) ?_
                              refine JA_takepg 6 rfl hns (by kernel_rfl) (by kernel_rfl) rfl (.inr (by exact HeldOK.same [0, 1, 2, 3] (by decide) rfl)) rfl rfl hc_83 rfl rfl (r_lss rfl rfl) ?_
                              refine JA_takep 7 rfl hns (by kernel_rfl) (by kernel_rfl) rfl (.inr (by exact HeldOK.same [0, 1, 2, 3] (by decide) rfl)) rfl rfl rfl (r_pick_f (v := .bool (decide (index_11.K < 0))) rfl hc_83 rfl) ?_
                              refine J_prune [(6, .pointer (some (Addr.add c_16 0))), (12, peOpt v_2 (o_Gheap_Chunk).size r_34.1), (84, .bool (decide (index_11.Var ≠ 0) || decide (index_11.K < 0)))] ⟨rfl, rfl, (by show Value.bool _ = Value.bool _; rw [hc_83]; rfl), trivial⟩ hk
                            · refine JA_takep 8 rfl hns (by kernel_rfl) (by kernel_rfl) rfl (.inr (by exact HeldOK.same [0, 1, 2, 3] (by decide) rfl)) rfl rfl rfl (r_move (v := .bool (decide (index_11.Var ≠ 0) || decide (index_11.K < 0))) rfl) ?_
                              refine J_forkAB (e := (decide (index_11.Var ≠ 0) || decide (index_11.K < 0))) 1 #[true, true, true, true, true, true, true, true, true, true, true, true, true, true, true, true, true, true, false] (fun (y : Bool) L τ PV => σ = τ ∧ L = [(6, .pointer (some (Addr.add c_16 0))), (12, peOpt v_2 (o_Gheap_Chunk).size r_34.1), (94, .bool y)] ∧ PV = [.cell c_16 [.int .i64 index_11.Kind, .int .i64 index_11.Var, .int .i64 index_11.K, .int .i64 index_11.Block], .row o_Gheap_Chunk 49 v_2 x_3, .cell a_1 [v_2, .int .i64 Vars_4, v_5], .row (t_Gdiff_Leq).o 39 v_5 x_6]) (fun hc_84 hk => ?_) (fun hc_84 hk => ?_) ?_
                              · refine JA_skip (y := some (decide (index_11.Var ≠ 0) || decide (index_11.K < 0))) 9 rfl hns (by kernel_rfl) (by kernel_rfl) rfl (.inr (by exact HeldOK.same [0, 1, 2, 3] (by decide) rfl)) rfl rfl (by rw [hc_84]; decide) rfl rfl ?_
                                refine JA_skip (y := some (decide (index_11.Var ≠ 0) || decide (index_11.K < 0))) 10 rfl hns (by kernel_rfl) (by kernel_rfl) rfl (.inr (by exact HeldOK.same [0, 1, 2, 3] (by decide) rfl)) rfl rfl (by rw [hc_84]; decide) rfl rfl ?_
                                refine JA_skip (y := some (decide (index_11.Var ≠ 0) || decide (index_11.K < 0))) 11 rfl hns (by kernel_rfl) (by kernel_rfl) rfl (.inr (by exact HeldOK.same [0, 1, 2, 3] (by decide) rfl)) rfl rfl (by rw [hc_84]; decide) rfl rfl ?_
                                refine JA_skip (y := some (decide (index_11.Var ≠ 0) || decide (index_11.K < 0))) 12 rfl hns (by kernel_rfl) (by kernel_rfl) rfl (.inr (by exact HeldOK.same [0, 1, 2, 3] (by decide) rfl)) rfl rfl (by rw [hc_84]; decide) rfl rfl ?_
                                refine JA_skip (y := some (decide (index_11.Var ≠ 0) || decide (index_11.K < 0))) 13 rfl hns (by kernel_rfl) (by kernel_rfl) rfl (.inr (by exact HeldOK.same [0, 1, 2, 3] (by decide) rfl)) rfl rfl (by rw [hc_84]; decide) rfl rfl ?_
                                refine JA_skip (y := some (decide (index_11.Var ≠ 0) || decide (index_11.K < 0))) 14 rfl hns (by kernel_rfl) (by kernel_rfl) rfl (.inr (by exact HeldOK.same [0, 1, 2, 3] (by decide) rfl)) rfl rfl (by rw [hc_84]; decide) rfl rfl ?_
                                refine JA_skip (y := some (decide (index_11.Var ≠ 0) || decide (index_11.K < 0))) 15 rfl hns (by kernel_rfl) (by kernel_rfl) rfl (.inr (by exact HeldOK.same [0, 1, 2, 3] (by decide) rfl)) rfl rfl (by rw [hc_84]; decide) rfl rfl ?_
                                refine JA_skip (y := some (decide (index_11.Var ≠ 0) || decide (index_11.K < 0))) 16 rfl hns (by kernel_rfl) (by kernel_rfl) rfl (.inr (by exact HeldOK.same [0, 1, 2, 3] (by decide) rfl)) rfl rfl (by rw [hc_84]; decide) rfl rfl ?_
                                refine JA_takep 17 rfl hns (by kernel_rfl) (by kernel_rfl) rfl (.inr (by exact HeldOK.same [0, 1, 2, 3] (by decide) rfl)) rfl rfl rfl (r_pick_t (v := .bool true) rfl hc_84 rfl) ?_
                                refine J_front [3, 1] ?_
                                refine J_prune _ ?_ fun b => hk true _ b _ _ ⟨rfl, rfl, rfl⟩
                                exact ⟨rfl, rfl, rfl, trivial⟩
                              · refine JA_takepg 9 rfl hns (by kernel_rfl) (by kernel_rfl) rfl (.inr (by exact HeldOK.same [0, 1, 2, 3] (by decide) rfl)) rfl rfl hc_84 rfl rfl (r_fieldAddr (r := Addr.add c_16 2) Try.pu33 (f := Try.pf33.getD 2 default) rfl Try.pi2 (by decide) rfl (Addr.add_add _ _ _)) ?_
                                refine JA_takeg 10 rfl hns (by kernel_rfl) (by kernel_rfl) (by kernel_rfl) rfl (by kernel_rfl) (by exact HeldOK.same [0, 1, 2, 3] (by decide) rfl) rfl rfl hc_84 rfl rfl (r_load_priv (a := c_16) (off := 2) (cs' := [.int .i64 index_11.K]) (v := .int .i64 index_11.K) 3 Try.pu2 Try.pi2 rfl rfl rfl rfl (by decide) rfl) ?_
                                refine JA_takepg 11 rfl hns (by kernel_rfl) (by kernel_rfl) rfl (.inr (by exact HeldOK.same [0, 1, 2, 3] (by decide) rfl)) rfl rfl hc_84 rfl rfl (r_move (v := peOpt v_2 (o_Gheap_Chunk).size r_34.1) rfl) ?_
                                refine JA_takepg 12 rfl hns (by kernel_rfl) (by kernel_rfl) rfl (.inr (by exact HeldOK.same [0, 1, 2, 3] (by decide) rfl)) rfl rfl hc_84 rfl rfl (r_nilCheck_opt (i := i_57) rfl hi_58) ?_
                                refine JA_takepg 13 rfl hns (by kernel_rfl) (by kernel_rfl) rfl (.inr (by exact HeldOK.same [0, 1, 2, 3] (by decide) rfl)) rfl rfl hc_84 rfl rfl (r_fieldAddr (r := elemAddr v_2 ((i_57).toNat * (o_Gheap_Chunk).size + 10)) Try.pu49 (f := Try.pf49.getD 7 default) rfl Try.pi23 (by decide) rfl (elemAddr_add _ _ _)) ?_
                                refine J_front [1] ?_
                                refine J_take (T := o_Gheap_Chunk) (i := i_57) hx_60 fun u_87 hu_86 => ?_
                                obtain ⟨_, _, _, _, _, _, _, v_88⟩ := u_87
                                change J _ _ _ _ _ _ _ _ [.hole (fun x => .elem o_Gheap_Chunk (elemAddr v_2 ((i_57).toNat * (o_Gheap_Chunk).size)) x) (fun x => .row o_Gheap_Chunk 49 v_2 (Sl.set x_3 i_57 x)), .cell (elemAddr v_2 ((i_57).toNat * (o_Gheap_Chunk).size)) [.int .i64 x_59.Origin, .int .i64 x_59.Type_, .int .i64 x_59.At, .bool x_59.Live, .bool x_59.Held, .bool x_59.Array, .int .i64 x_59.Size.Kind, .int .i64 x_59.Size.Var, .int .i64 x_59.Size.K, .int .i64 x_59.Size.Block, v_88], .row (t_Gheap_Sym).o 33 v_88 x_59.Cells, .cell a_1 [v_2, .int .i64 Vars_4, v_5], .row (t_Gdiff_Leq).o 39 v_5 x_6, .cell c_16 [.int .i64 index_11.Kind, .int .i64 index_11.Var, .int .i64 index_11.K, .int .i64 index_11.Block]]
                                have hS_89 : HeldOK σ [.cell a_1 [v_2, .int .i64 Vars_4, v_5], .row o_Gheap_Chunk 49 v_2 x_3, .row (t_Gdiff_Leq).o 39 v_5 x_6, .cell c_16 [.int .i64 index_11.Kind, .int .i64 index_11.Var, .int .i64 index_11.K, .int .i64 index_11.Block]] σ [.hole (fun x => .elem o_Gheap_Chunk (elemAddr v_2 ((i_57).toNat * (o_Gheap_Chunk).size)) x) (fun x => .row o_Gheap_Chunk 49 v_2 (Sl.set x_3 i_57 x)), .cell (elemAddr v_2 ((i_57).toNat * (o_Gheap_Chunk).size)) [.int .i64 x_59.Origin, .int .i64 x_59.Type_, .int .i64 x_59.At, .bool x_59.Live, .bool x_59.Held, .bool x_59.Array, .int .i64 x_59.Size.Kind, .int .i64 x_59.Size.Var, .int .i64 x_59.Size.K, .int .i64 x_59.Size.Block, v_88], .row (t_Gheap_Sym).o 33 v_88 x_59.Cells, .cell a_1 [v_2, .int .i64 Vars_4, v_5], .row (t_Gdiff_Leq).o 39 v_5 x_6, .cell c_16 [.int .i64 index_11.Kind, .int .i64 index_11.Var, .int .i64 index_11.K, .int .i64 index_11.Block]] := HeldOK.view (PV := [.row o_Gheap_Chunk 49 v_2 x_3, .cell a_1 [v_2, .int .i64 Vars_4, v_5], .row (t_Gdiff_Leq).o 39 v_5 x_6, .cell c_16 [.int .i64 index_11.Kind, .int .i64 index_11.Var, .int .i64 index_11.K, .int .i64 index_11.Block]]) (HeldOK.same [1, 0, 2, 3] (by decide) rfl) (fun _ k => (take_back (T := o_Gheap_Chunk) (i := i_57) (s := x_3) (e := 49) (v := v_2) (q := x_59) (C := [.cell a_1 [v_2, .int .i64 Vars_4, v_5], .row (t_Gdiff_Leq).o 39 v_5 x_6, .cell c_16 [.int .i64 index_11.Kind, .int .i64 index_11.Var, .int .i64 index_11.K, .int .i64 index_11.Block]]) ((), (), (), (), (), (), (), v_88) ⟨trivial, trivial, trivial, trivial, trivial, trivial, trivial, trivial⟩ hx_60 (Sep.select (PV' := [.hole (fun x => .elem o_Gheap_Chunk (elemAddr v_2 ((i_57).toNat * (o_Gheap_Chunk).size)) x) (fun x => .row o_Gheap_Chunk 49 v_2 (Sl.set x_3 i_57 x)), .cell (elemAddr v_2 ((i_57).toNat * (o_Gheap_Chunk).size)) [.int .i64 x_59.Origin, .int .i64 x_59.Type_, .int .i64 x_59.At, .bool x_59.Live, .bool x_59.Held, .bool x_59.Array, .int .i64 x_59.Size.Kind, .int .i64 x_59.Size.Var, .int .i64 x_59.Size.K, .int .i64 x_59.Size.Block, v_88], .row (t_Gheap_Sym).o 33 v_88 x_59.Cells, .cell a_1 [v_2, .int .i64 Vars_4, v_5], .row (t_Gdiff_Leq).o 39 v_5 x_6, .cell c_16 [.int .i64 index_11.Kind, .int .i64 index_11.Var, .int .i64 index_11.K, .int .i64 index_11.Block]]) k [0, 1, 2, 3, 4, 5] (by decide) rfl)))
                                refine JA_opg (i := 14) (by kernel_rfl) rfl rfl rfl hc_84 (op_read rfl rfl (r_load_priv (a := (elemAddr v_2 ((i_57).toNat * (o_Gheap_Chunk).size))) (off := 10) (cs' := [v_88]) (v := v_88) 1 Try.pu23 Try.pi23 (pe_add v_2 ((i_57).toNat * (o_Gheap_Chunk).size) 10) rfl rfl rfl (by decide) rfl) ?_)
                                have hS_90 : HeldOK σ [.cell a_1 [v_2, .int .i64 Vars_4, v_5], .row o_Gheap_Chunk 49 v_2 x_3, .row (t_Gdiff_Leq).o 39 v_5 x_6, .cell c_16 [.int .i64 index_11.Kind, .int .i64 index_11.Var, .int .i64 index_11.K, .int .i64 index_11.Block]] σ [.hole (fun x => .elem o_Gheap_Chunk (elemAddr v_2 ((i_57).toNat * (o_Gheap_Chunk).size)) x) (fun x => .row o_Gheap_Chunk 49 v_2 (Sl.set x_3 i_57 x)), .cell (elemAddr v_2 ((i_57).toNat * (o_Gheap_Chunk).size)) [.int .i64 x_59.Origin, .int .i64 x_59.Type_, .int .i64 x_59.At, .bool x_59.Live, .bool x_59.Held, .bool x_59.Array, .int .i64 x_59.Size.Kind, .int .i64 x_59.Size.Var, .int .i64 x_59.Size.K, .int .i64 x_59.Size.Block, v_88], .row (t_Gheap_Sym).o 33 v_88 x_59.Cells, .cell a_1 [v_2, .int .i64 Vars_4, v_5], .row (t_Gdiff_Leq).o 39 v_5 x_6, .cell c_16 [.int .i64 index_11.Kind, .int .i64 index_11.Var, .int .i64 index_11.K, .int .i64 index_11.Block]] := HeldOK.view (PV := [.row o_Gheap_Chunk 49 v_2 x_3, .cell a_1 [v_2, .int .i64 Vars_4, v_5], .row (t_Gdiff_Leq).o 39 v_5 x_6, .cell c_16 [.int .i64 index_11.Kind, .int .i64 index_11.Var, .int .i64 index_11.K, .int .i64 index_11.Block]]) (HeldOK.same [1, 0, 2, 3] (by decide) rfl) (fun _ k => (take_back (T := o_Gheap_Chunk) (i := i_57) (s := x_3) (e := 49) (v := v_2) (q := x_59) (C := [.cell a_1 [v_2, .int .i64 Vars_4, v_5], .row (t_Gdiff_Leq).o 39 v_5 x_6, .cell c_16 [.int .i64 index_11.Kind, .int .i64 index_11.Var, .int .i64 index_11.K, .int .i64 index_11.Block]]) ((), (), (), (), (), (), (), v_88) ⟨trivial, trivial, trivial, trivial, trivial, trivial, trivial, trivial⟩ hx_60 (Sep.select (PV' := [.hole (fun x => .elem o_Gheap_Chunk (elemAddr v_2 ((i_57).toNat * (o_Gheap_Chunk).size)) x) (fun x => .row o_Gheap_Chunk 49 v_2 (Sl.set x_3 i_57 x)), .cell (elemAddr v_2 ((i_57).toNat * (o_Gheap_Chunk).size)) [.int .i64 x_59.Origin, .int .i64 x_59.Type_, .int .i64 x_59.At, .bool x_59.Live, .bool x_59.Held, .bool x_59.Array, .int .i64 x_59.Size.Kind, .int .i64 x_59.Size.Var, .int .i64 x_59.Size.K, .int .i64 x_59.Size.Block, v_88], .row (t_Gheap_Sym).o 33 v_88 x_59.Cells, .cell a_1 [v_2, .int .i64 Vars_4, v_5], .row (t_Gdiff_Leq).o 39 v_5 x_6, .cell c_16 [.int .i64 index_11.Kind, .int .i64 index_11.Var, .int .i64 index_11.K, .int .i64 index_11.Block]]) k [0, 1, 2, 3, 4, 5] (by decide) rfl)))
                                refine ⟨.inr hS_90, ?_⟩
                                refine JA_opg (i := 15) (by kernel_rfl) rfl rfl rfl hc_84 (op_read rfl rfl (r_len_row (v := v_88) 2 Try.pu23 rfl rfl) ?_)
                                have hS_91 : HeldOK σ [.cell a_1 [v_2, .int .i64 Vars_4, v_5], .row o_Gheap_Chunk 49 v_2 x_3, .row (t_Gdiff_Leq).o 39 v_5 x_6, .cell c_16 [.int .i64 index_11.Kind, .int .i64 index_11.Var, .int .i64 index_11.K, .int .i64 index_11.Block]] σ [.hole (fun x => .elem o_Gheap_Chunk (elemAddr v_2 ((i_57).toNat * (o_Gheap_Chunk).size)) x) (fun x => .row o_Gheap_Chunk 49 v_2 (Sl.set x_3 i_57 x)), .cell (elemAddr v_2 ((i_57).toNat * (o_Gheap_Chunk).size)) [.int .i64 x_59.Origin, .int .i64 x_59.Type_, .int .i64 x_59.At, .bool x_59.Live, .bool x_59.Held, .bool x_59.Array, .int .i64 x_59.Size.Kind, .int .i64 x_59.Size.Var, .int .i64 x_59.Size.K, .int .i64 x_59.Size.Block, v_88], .row (t_Gheap_Sym).o 33 v_88 x_59.Cells, .cell a_1 [v_2, .int .i64 Vars_4, v_5], .row (t_Gdiff_Leq).o 39 v_5 x_6, .cell c_16 [.int .i64 index_11.Kind, .int .i64 index_11.Var, .int .i64 index_11.K, .int .i64 index_11.Block]] := HeldOK.view (PV := [.row o_Gheap_Chunk 49 v_2 x_3, .cell a_1 [v_2, .int .i64 Vars_4, v_5], .row (t_Gdiff_Leq).o 39 v_5 x_6, .cell c_16 [.int .i64 index_11.Kind, .int .i64 index_11.Var, .int .i64 index_11.K, .int .i64 index_11.Block]]) (HeldOK.same [1, 0, 2, 3] (by decide) rfl) (fun _ k => (take_back (T := o_Gheap_Chunk) (i := i_57) (s := x_3) (e := 49) (v := v_2) (q := x_59) (C := [.cell a_1 [v_2, .int .i64 Vars_4, v_5], .row (t_Gdiff_Leq).o 39 v_5 x_6, .cell c_16 [.int .i64 index_11.Kind, .int .i64 index_11.Var, .int .i64 index_11.K, .int .i64 index_11.Block]]) ((), (), (), (), (), (), (), v_88) ⟨trivial, trivial, trivial, trivial, trivial, trivial, trivial, trivial⟩ hx_60 (Sep.select (PV' := [.hole (fun x => .elem o_Gheap_Chunk (elemAddr v_2 ((i_57).toNat * (o_Gheap_Chunk).size)) x) (fun x => .row o_Gheap_Chunk 49 v_2 (Sl.set x_3 i_57 x)), .cell (elemAddr v_2 ((i_57).toNat * (o_Gheap_Chunk).size)) [.int .i64 x_59.Origin, .int .i64 x_59.Type_, .int .i64 x_59.At, .bool x_59.Live, .bool x_59.Held, .bool x_59.Array, .int .i64 x_59.Size.Kind, .int .i64 x_59.Size.Var, .int .i64 x_59.Size.K, .int .i64 x_59.Size.Block, v_88], .row (t_Gheap_Sym).o 33 v_88 x_59.Cells, .cell a_1 [v_2, .int .i64 Vars_4, v_5], .row (t_Gdiff_Leq).o 39 v_5 x_6, .cell c_16 [.int .i64 index_11.Kind, .int .i64 index_11.Var, .int .i64 index_11.K, .int .i64 index_11.Block]]) k [0, 1, 2, 3, 4, 5] (by decide) rfl)))
                                refine ⟨.inr hS_91, ?_⟩
                                refine JA_takepg 16 rfl hns (by kernel_rfl) (by kernel_rfl) rfl (.inr hS_91) rfl rfl hc_84 rfl rfl (r_geq rfl rfl) ?_
                                refine JA_takep 17 rfl hns (by kernel_rfl) (by kernel_rfl) rfl (.inr hS_91) rfl rfl rfl (r_pick_f (v := .bool (decide (x_59.Cells.len ≤ index_11.K))) rfl hc_84 rfl) ?_
                                refine J_put (T := o_Gheap_Chunk) (i := i_57) (s := x_3) (s' := x_3) (A := [.row (t_Gheap_Sym).o 33 v_88 x_59.Cells]) (C := [.cell a_1 [v_2, .int .i64 Vars_4, v_5], .row (t_Gdiff_Leq).o 39 v_5 x_6, .cell c_16 [.int .i64 index_11.Kind, .int .i64 index_11.Var, .int .i64 index_11.K, .int .i64 index_11.Block]]) x_59 ((), (), (), (), (), (), (), v_88) ⟨trivial, trivial, trivial, trivial, trivial, trivial, trivial, trivial⟩ rfl rfl (Sl.set_same hx_60) ?_
                                refine J_front [3] ?_
                                refine J_prune _ ?_ fun b => hk (decide (x_59.Cells.len ≤ index_11.K)) _ b _ _ ⟨rfl, rfl, rfl⟩
                                exact ⟨rfl, rfl, rfl, trivial⟩
                              · rintro y_85 _ b s_94 _ ⟨rfl, rfl, rfl⟩
                                refine JA_takep 18 rfl hns (by kernel_rfl) (by kernel_rfl) rfl (.inr (by exact HeldOK.same [2, 1, 3, 0] (by decide) rfl)) rfl rfl rfl (r_assign (v := .bool y_85) rfl) ?_
                                refine JA_done (by kernel_rfl) ?_
                                refine J_then ?_
                                refine J_cond rfl (fun hc_96 => ?_) (fun hc_96 => ?_)
                                · refine J_seq ?_
                                  refine J_region ?_
                                  refine JL_op rfl (op_read rfl rfl (r_assign (v := .pointer none) rfl) ?_)
                                  refine JL_op rfl (op_read rfl rfl (r_assign (v := .int .i64 42) rfl) ?_)
                                  refine JL_nil ?_
                                  refine J_then ?_
                                  refine J_ret ?_
                                  refine J_keep [false, true, true, true] ?_
                                  refine J_front [1] ?_
                                  refine J_cut_end _ ?_ ⟨rfl, rfl, rfl, rfl⟩ trivial
                                  exact ⟨rfl, rfl, trivial⟩
                                · refine J_seq ?_
                                  refine J_region_any 15 [.cell c_16 [.int .i64 index_11.Kind, .int .i64 index_11.Var, .int .i64 index_11.K, .int .i64 index_11.Block], .row o_Gheap_Chunk 49 v_2 x_3, .cell a_1 [v_2, .int .i64 Vars_4, v_5], .row (t_Gdiff_Leq).o 39 v_5 x_6] Try.mixed (by kernel_rfl) fun hns => ?_
                                  refine JA_takep 0 rfl hns (by kernel_rfl) (by kernel_rfl) rfl (.inr (by exact HeldOK.same [0, 1, 2, 3] (by decide) rfl)) rfl rfl rfl (r_move (v := peOpt v_2 (o_Gheap_Chunk).size r_34.1) rfl) ?_
                                  refine JA_takep 1 rfl hns (by kernel_rfl) (by kernel_rfl) rfl (.inr (by exact HeldOK.same [0, 1, 2, 3] (by decide) rfl)) rfl rfl rfl (r_nilCheck_opt (i := i_57) rfl hi_58) ?_
                                  refine JA_takep 2 rfl hns (by kernel_rfl) (by kernel_rfl) rfl (.inr (by exact HeldOK.same [0, 1, 2, 3] (by decide) rfl)) rfl rfl rfl (r_fieldAddr (r := elemAddr v_2 ((i_57).toNat * (o_Gheap_Chunk).size + 0)) Try.pu49 (f := Try.pf49.getD 0 default) rfl Try.pi47 (by decide) rfl (elemAddr_add _ _ _)) ?_
                                  refine JA_takes 3 rfl hns (by kernel_rfl) (by kernel_rfl) (by kernel_rfl) rfl (by kernel_rfl) (by exact HeldOK.same [0, 1, 2, 3] (by decide) rfl) rfl rfl rfl (l_elem_orow (v := v_2) (T := o_Gheap_Chunk) (Tf := (tInt .i64)) (q := x_59) (i := i_57) (off := 0) 1 Try.pu47 Try.pi47 rfl rfl rfl rfl hx_60 of_Gheap_Chunk_Origin (by decide)) ?_
                                  intro v_98 h_99
                                  obtain rfl := tInt_v.1 h_99
                                  refine JA_takep 4 rfl hns (by kernel_rfl) (by kernel_rfl) rfl (.inr (by exact HeldOK.same [0, 1, 2, 3] (by decide) rfl)) rfl rfl rfl (r_eql rfl rfl) ?_
                                  refine JA_takep 5 rfl hns (by kernel_rfl) (by kernel_rfl) rfl (.inr (by exact HeldOK.same [0, 1, 2, 3] (by decide) rfl)) rfl rfl rfl (r_move (v := .bool (decide (x_59.Origin = 6))) rfl) ?_
                                  refine J_forkA (e := (decide (x_59.Origin = 6))) 1 #[true, true, true, true, true, true, true, true, true, true, true, true, true, true, false] [(12, peOpt v_2 (o_Gheap_Chunk).size r_34.1), (109, .bool (decide (x_59.Origin = 6) && decide (index_11.K = x_59.At)))] (fun hc_100 hk => ?_) (fun hc_100 hk => ?_) (fun b => ?_)
                                  · refine JA_takepg 6 rfl hns (by kernel_rfl) (by kernel_rfl) rfl (.inr (by exact HeldOK.same [0, 1, 2, 3] (by decide) rfl)) rfl rfl hc_100 rfl rfl (r_fieldAddr (r := Addr.add c_16 2) Try.pu33 (f := Try.pf33.getD 2 default) rfl Try.pi2 (by decide) rfl (Addr.add_add _ _ _)) ?_
                                    refine JA_takeg 7 rfl hns (by kernel_rfl) (by kernel_rfl) (by kernel_rfl) rfl (by kernel_rfl) (by exact HeldOK.same [0, 1, 2, 3] (by decide) rfl) rfl rfl hc_100 rfl rfl (r_load_priv (a := c_16) (off := 2) (cs' := [.int .i64 index_11.K]) (v := .int .i64 index_11.K) 0 Try.pu2 Try.pi2 rfl rfl rfl rfl (by decide) rfl) ?_
                                    refine JA_takepg 8 rfl hns (by kernel_rfl) (by kernel_rfl) rfl (.inr (by exact HeldOK.same [0, 1, 2, 3] (by decide) rfl)) rfl rfl hc_100 rfl rfl (r_move (v := peOpt v_2 (o_Gheap_Chunk).size r_34.1) rfl) ?_
                                    refine JA_takepg 9 rfl hns (by kernel_rfl) (by kernel_rfl) rfl (.inr (by exact HeldOK.same [0, 1, 2, 3] (by decide) rfl)) rfl rfl hc_100 rfl rfl (r_nilCheck_opt (i := i_57) rfl hi_58) ?_
                                    refine JA_takepg 10 rfl hns (by kernel_rfl) (by kernel_rfl) rfl (.inr (by exact HeldOK.same [0, 1, 2, 3] (by decide) rfl)) rfl rfl hc_100 rfl rfl (r_fieldAddr (r := elemAddr v_2 ((i_57).toNat * (o_Gheap_Chunk).size + 2)) Try.pu49 (f := Try.pf49.getD 2 default) rfl Try.pi3 (by decide) rfl (elemAddr_add _ _ _)) ?_
                                    refine JA_takesg 11 rfl hns (by kernel_rfl) (by kernel_rfl) (by kernel_rfl) rfl (by kernel_rfl) (by exact HeldOK.same [0, 1, 2, 3] (by decide) rfl) rfl rfl hc_100 rfl rfl (l_elem_orow (v := v_2) (T := o_Gheap_Chunk) (Tf := (tInt .i64)) (q := x_59) (i := i_57) (off := 2) 1 Try.pu3 Try.pi3 rfl rfl rfl rfl hx_60 of_Gheap_Chunk_At (by decide)) ?_
                                    intro v_101 h_102
                                    obtain rfl := tInt_v.1 h_102
                                    refine JA_takepg 12 rfl hns (by kernel_rfl) (by kernel_rfl) rfl (.inr (by exact HeldOK.same [0, 1, 2, 3] (by decide) rfl)) rfl rfl hc_100 rfl rfl (r_eql rfl rfl) ?_
                                    refine JA_takep 13 rfl hns (by kernel_rfl) (by kernel_rfl) rfl (.inr (by exact HeldOK.same [0, 1, 2, 3] (by decide) rfl)) rfl rfl rfl (r_pick_t (v := .bool (decide (index_11.K = x_59.At))) rfl hc_100 rfl) ?_
                                    refine J_prune [(12, peOpt v_2 (o_Gheap_Chunk).size r_34.1), (109, .bool (decide (x_59.Origin = 6) && decide (index_11.K = x_59.At)))] ⟨rfl, (by show Value.bool _ = Value.bool _; rw [hc_100]; rfl), trivial⟩ hk
                                  · refine JA_skip (y := some (decide (x_59.Origin = 6))) 6 rfl hns (by kernel_rfl) (by kernel_rfl) rfl (.inr (by exact HeldOK.same [0, 1, 2, 3] (by decide) rfl)) rfl rfl (by rw [hc_100]; decide) rfl rfl ?_
                                    refine JA_skip (y := some (decide (x_59.Origin = 6))) 7 rfl hns (by kernel_rfl) (by kernel_rfl) rfl (.inr (by exact HeldOK.same [0, 1, 2, 3] (by decide) rfl)) rfl rfl (by rw [hc_100]; decide) rfl rfl ?_
                                    refine JA_skip (y := some (decide (x_59.Origin = 6))) 8 rfl hns (by kernel_rfl) (by kernel_rfl) rfl (.inr (by exact HeldOK.same [0, 1, 2, 3] (by decide) rfl)) rfl rfl (by rw [hc_100]; decide) rfl rfl ?_
                                    refine JA_skip (y := some (decide (x_59.Origin = 6))) 9 rfl hns (by kernel_rfl) (by kernel_rfl) rfl (.inr (by exact HeldOK.same [0, 1, 2, 3] (by decide) rfl)) rfl rfl (by rw [hc_100]; decide) rfl rfl ?_
                                    refine JA_skip (y := some (decide (x_59.Origin = 6))) 10 rfl hns (by kernel_rfl) (by kernel_rfl) rfl (.inr (by exact HeldOK.same [0, 1, 2, 3] (by decide) rfl)) rfl rfl (by rw [hc_100]; decide) rfl rfl ?_
                                    refine JA_skip (y := some (decide (x_59.Origin = 6))) 11 rfl hns (by kernel_rfl) (by kernel_rfl) rfl (.inr (by exact HeldOK.same [0, 1, 2, 3] (by decide) rfl)) rfl rfl (by rw [hc_100]; decide) rfl rfl ?_
                                    refine JA_skip (y := some (decide (x_59.Origin = 6))) 12 rfl hns (by kernel_rfl) (by kernel_rfl) rfl (.inr (by exact HeldOK.same [0, 1, 2, 3] (by decide) rfl)) rfl rfl (by rw [hc_100]; decide) rfl rfl ?_
                                    refine JA_takep 13 rfl hns (by kernel_rfl) (by kernel_rfl) rfl (.inr (by exact HeldOK.same [0, 1, 2, 3] (by decide) rfl)) rfl rfl rfl (r_pick_f (v := .bool false) rfl hc_100 rfl) ?_
                                    refine J_prune [(12, peOpt v_2 (o_Gheap_Chunk).size r_34.1), (109, .bool (decide (x_59.Origin = 6) && decide (index_11.K = x_59.At)))] ⟨rfl, (by show Value.bool _ = Value.bool _; rw [hc_100]; rfl), trivial⟩ hk
                                  · refine JA_takep 14 rfl hns (by kernel_rfl) (by kernel_rfl) rfl (.inr (by exact HeldOK.same [0, 1, 2, 3] (by decide) rfl)) rfl rfl rfl (r_assign (v := .bool (decide (x_59.Origin = 6) && decide (index_11.K = x_59.At))) rfl) ?_
                                    refine JA_done (by kernel_rfl) ?_
                                    refine J_then ?_
                                    refine J_cond rfl (fun hc_103 => ?_) (fun hc_103 => ?_)
                                    · refine J_seq ?_
                                      refine J_region ?_
                                      refine JL_op rfl (op_read rfl rfl (r_assign (v := .pointer none) rfl) ?_)
                                      refine JL_op rfl (op_read rfl rfl (r_assign (v := .int .i64 45) rfl) ?_)
                                      refine JL_nil ?_
                                      refine J_then ?_
                                      refine J_ret ?_
                                      refine J_keep [false, true, true, true] ?_
                                      refine J_front [1] ?_
                                      refine J_cut_end _ ?_ ⟨rfl, rfl, rfl, rfl⟩ trivial
                                      exact ⟨rfl, rfl, trivial⟩
                                    · refine J_skip ?_
                                      refine J_keep [false, true, true, true] ?_
                                      refine J_cut_end _ ?_ ⟨rfl, rfl, rfl, rfl⟩ trivial
                                      exact ⟨rfl, trivial⟩
                        · rintro (y_105 | y_109) e L b τ PV ht
                          · obtain ⟨rfl, ht⟩ := ht
                            revert ht; revert PV; revert τ; revert b; revert L
                            rintro _ b s_108 _ ⟨rfl, rfl, rfl⟩
                            refine J_cut_end _ ?_ ⟨rfl, rfl, rfl, rfl⟩ trivial
                            exact ⟨rfl, trivial⟩
                          · obtain ⟨rfl, ht⟩ := ht
                            revert ht; revert PV; revert τ; revert b; revert L
                            rintro _ b s_112 _ ⟨rfl, rfl, rfl⟩
                            refine J_cut_end _ ?_ ⟨rfl, rfl, rfl, rfl⟩ trivial
                            exact ⟨rfl, rfl, trivial⟩
                    · rintro (y_114 | y_118) e L b τ PV ht
                      · obtain ⟨rfl, ht⟩ := ht
                        revert ht; revert PV; revert τ; revert b; revert L
                        rintro _ b s_117 _ ⟨rfl, rfl, rfl⟩
                        refine J_cut_end _ ?_ ⟨rfl, rfl, rfl, rfl⟩ trivial
                        exact ⟨rfl, trivial⟩
                      · obtain ⟨rfl, ht⟩ := ht
                        revert ht; revert PV; revert τ; revert b; revert L
                        rintro _ b s_121 _ ⟨rfl, rfl, rfl⟩
                        refine J_cut_end _ ?_ ⟨rfl, rfl, rfl, rfl⟩ trivial
                        exact ⟨rfl, rfl, trivial⟩
              · rintro (y_123 | y_127) e L b τ PV ht
                · obtain ⟨rfl, ht⟩ := ht
                  revert ht; revert PV; revert τ; revert b; revert L
                  rintro _ b s_126 _ ⟨rfl, rfl, rfl⟩
                  refine J_cut_end _ ?_ ⟨rfl, rfl, rfl, rfl⟩ trivial
                  exact ⟨rfl, trivial⟩
                · obtain ⟨rfl, ht⟩ := ht
                  revert ht; revert PV; revert τ; revert b; revert L
                  rintro _ b s_130 _ ⟨rfl, rfl, rfl⟩
                  refine J_cut_end _ ?_ ⟨rfl, rfl, rfl, rfl⟩ trivial
                  exact ⟨rfl, rfl, trivial⟩
        · rintro (y_132 | y_136) e L b τ PV ht
          · obtain ⟨rfl, ht⟩ := ht
            revert ht; revert PV; revert τ; revert b; revert L
            rintro _ b s_135 _ ⟨rfl, rfl, rfl⟩
            refine J_in_normal ?_
            refine J_cut_end _ ?_ ⟨rfl, rfl, rfl, rfl⟩ trivial
            exact ⟨rfl, trivial⟩
          · obtain ⟨rfl, ht⟩ := ht
            revert ht; revert PV; revert τ; revert b; revert L
            rintro _ b s_139 _ ⟨rfl, rfl, rfl⟩
            refine J_in_ret ?_
            refine J_cut_end _ ?_ ⟨rfl, rfl, rfl, rfl⟩ trivial
            exact ⟨rfl, rfl, trivial⟩
      · rintro (y_141 | y_145) e L b τ PV ht
        · obtain ⟨rfl, ht⟩ := ht
          revert ht; revert PV; revert τ; revert b; revert L
          rintro _ b s_144 _ ⟨rfl, rfl, rfl⟩
          refine J_then ?_
          refine J_seq ?_
          refine J_region ?_
          refine JL_op rfl (op_read rfl rfl (r_move (v := peOpt v_2 (o_Gheap_Chunk).size r_34.1) rfl) ?_)
          refine JL_op rfl (op_read rfl rfl (r_assign (v := peOpt v_2 (o_Gheap_Chunk).size r_34.1) rfl) ?_)
          refine JL_op rfl (op_read rfl rfl (r_assign (v := .int .i64 0) rfl) ?_)
          refine JL_nil ?_
          refine J_then ?_
          refine J_ret ?_
          exact J_returnV2 (PV' := [.row o_Gheap_Chunk 49 v_2 x_3, .cell a_1 [v_2, .int .i64 Vars_4, v_5], .row (t_Gdiff_Leq).o 39 v_5 x_6]) rfl rv_tmp rv_tmp [0, 1, 2] (by decide) rfl ⟨rfl, rfl, rfl⟩
        · obtain ⟨rfl, ht⟩ := ht
          revert ht; revert PV; revert τ; revert b; revert L
          rintro _ b s_148 _ ⟨rfl, rfl, rfl⟩
          refine J_then_ret ?_
          exact J_returnV2 (PV' := [.row o_Gheap_Chunk 49 v_2 x_3, .cell a_1 [v_2, .int .i64 Vars_4, v_5], .row (t_Gdiff_Leq).o 39 v_5 x_6]) rfl rv_tmp rv_tmp [1, 0, 2] (by decide) rfl ⟨rfl, rfl, rfl⟩
def slices_Clip_v2_post (σ0 : FS) (v_1 : Value) (x_2 : Sl Gdiff_Leq) (r : Unit) (σ : FS) (PV : List Priv) (v : Value) : Prop :=
  ∃ (w0 : Value), σ0 = σ ∧ w0 = v ∧ PV = [.row (t_Gdiff_Leq).o 39 w0 x_2]
set_option maxRecDepth 100000 in
theorem slices_Clip_v2_ref (s : Start) (σ : FS) (v_1 : Value) (x_2 : Sl Gdiff_Leq) (hs : Pre s σ [.row (t_Gdiff_Leq).o 39 v_1 x_2]) (r : Unit) (hr : slices_Clip_v2 x_2 = some r) : Does Try.prog 51 [v_1] s σ (slices_Clip_v2_post σ v_1 x_2 r) := by
  unfold slices_Clip_v2 at hr
  refine does_of_J Try.func51 rfl (n := 9) rfl rfl hs hr ?_
  refine J_seq ?_
  refine J_region ?_
  refine JL_op rfl (op_read rfl rfl (r_assign (v := .slice none 0 0) rfl) ?_)
  refine JL_nil ?_
  refine J_then ?_
  refine J_seq ?_
  refine J_region ?_
  refine JL_op rfl (op_read rfl rfl (r_move (v := v_1) rfl) ?_)
  refine JL_op rfl (op_read rfl rfl (r_move (v := v_1) rfl) ?_)
  refine JL_op rfl (op_read rfl rfl (r_len_row (v := v_1) 0 Try.pu22 rfl rfl) ?_)
  refine JL_op rfl (op_read rfl rfl (r_move (v := v_1) rfl) ?_)
  refine JL_op rfl (op_read rfl rfl (r_len_row (v := v_1) 0 Try.pu22 rfl rfl) ?_)
  refine JL_op rfl (op_clip_row (v := v_1) (T := (t_Gdiff_Leq).o) (s := x_2) 0 rfl Try.pu22 Try.pi39 rfl rfl rfl rfl rfl ?_)
  intro v_3
  refine JL_op rfl (op_read rfl rfl (r_assign (v := v_3) rfl) ?_)
  refine JL_nil ?_
  refine J_then ?_
  refine J_ret ?_
  exact J_returnV1 (PV' := [.row (t_Gdiff_Leq).o 39 v_3 x_2]) rfl rv_tmp [0] (by decide) rfl ⟨v_3, rfl, rfl, rfl⟩
def heap_Heap_Assume_post (σ0 : FS) (a_1 : Addr) (v_2 : Value) (x_3 : Sl Gheap_Chunk) (Vars_4 : Int) (v_5 : Value) (x_6 : Sl Gdiff_Leq) (v_7 : Value) (x_8 : Sl Gdiff_Leq) (r : Int × (Sl Gdiff_Leq)) (σ : FS) (PV : List Priv) (v : Value) : Prop :=
  ∃ (w0 : Value), σ0 = σ ∧ .int .i64 r.1 = v ∧ PV = [.cell a_1 [v_2, .int .i64 Vars_4, w0], .row o_Gheap_Chunk 49 v_2 x_3, .row (t_Gdiff_Leq).o 39 w0 r.2, .row (t_Gdiff_Leq).o 39 v_7 x_8]
set_option maxRecDepth 100000 in
theorem heap_Heap_Assume_ref (s : Start) (σ : FS) (a_1 : Addr) (v_2 : Value) (x_3 : Sl Gheap_Chunk) (Vars_4 : Int) (v_5 : Value) (x_6 : Sl Gdiff_Leq) (v_7 : Value) (x_8 : Sl Gdiff_Leq) (hs : Pre s σ [.cell a_1 [v_2, .int .i64 Vars_4, v_5], .row o_Gheap_Chunk 49 v_2 x_3, .row (t_Gdiff_Leq).o 39 v_5 x_6, .row (t_Gdiff_Leq).o 39 v_7 x_8]) (r : Int × (Sl Gdiff_Leq)) (hr : heap_Heap_Assume x_3 Vars_4 x_6 x_8 = some r) : Does Try.prog 22 [.pointer (some (Addr.add a_1 0)), v_7] s σ (heap_Heap_Assume_post σ a_1 v_2 x_3 Vars_4 v_5 x_6 v_7 x_8 r) := by
  unfold heap_Heap_Assume at hr
  refine does_of_J Try.func22 rfl (n := 24) rfl rfl hs hr ?_
  refine J_seq ?_
  refine J_region ?_
  refine JL_op rfl (op_read rfl rfl (r_assign (v := .int .i64 0) rfl) ?_)
  refine JL_nil ?_
  refine J_then ?_
  refine J_seq ?_
  refine J_seq ?_
  refine J_region ?_
  refine JL_op rfl (op_read rfl rfl (r_move (v := .pointer (some (Addr.add a_1 0))) rfl) ?_)
  refine JL_op rfl (op_read rfl rfl (r_nilCheck (a := (Addr.add a_1 0)) rfl) ?_)
  refine JL_op rfl (op_read rfl rfl (r_fieldAddr (r := Addr.add a_1 2) Try.pu28 (f := Try.pf28.getD 2 default) rfl Try.pi22 (by decide) rfl (Addr.add_add _ _ _)) ?_)
  refine JL_op rfl (op_read rfl rfl (r_load_priv (a := a_1) (off := 2) (cs' := [v_5]) (v := v_5) 0 Try.pu22 Try.pi22 rfl rfl rfl rfl (by decide) rfl) ?_)
  refine JL_op rfl (op_read rfl rfl (r_len_row (v := v_5) 2 Try.pu22 rfl rfl) ?_)
  refine JL_op rfl (op_read rfl rfl (r_move (v := v_7) rfl) ?_)
  refine JL_op rfl (op_read rfl rfl (r_len_row (v := v_7) 3 Try.pu22 rfl rfl) ?_)
  refine JL_op rfl (op_read rfl rfl (r_add rfl rfl) ?_)
  refine JL_op rfl (op_read rfl rfl (r_gtr rfl rfl) ?_)
  refine JL_nil ?_
  refine J_then ?_
  refine J_cond rfl (fun hc_9 => ?_) (fun hc_9 => ?_)
  · refine J_seq ?_
    refine J_region ?_
    refine JL_op rfl (op_read rfl rfl (r_assign (v := .int .i64 22) rfl) ?_)
    refine JL_nil ?_
    refine J_then ?_
    refine J_ret ?_
    refine J_then_ret ?_
    exact J_returnV1 (PV' := [.cell a_1 [v_2, .int .i64 Vars_4, v_5], .row o_Gheap_Chunk 49 v_2 x_3, .row (t_Gdiff_Leq).o 39 v_5 x_6, .row (t_Gdiff_Leq).o 39 v_7 x_8]) rfl rv_tmp [0, 1, 2, 3] (by decide) rfl ⟨v_5, rfl, rfl, rfl⟩
  · refine J_skip ?_
    refine J_then ?_
    refine J_seq ?_
    refine J_region ?_
    refine JL_op rfl (op_read rfl rfl (r_move (v := .pointer (some (Addr.add a_1 0))) rfl) ?_)
    refine JL_op rfl (op_read rfl rfl (r_move (v := .pointer (some (Addr.add a_1 0))) rfl) ?_)
    refine JL_op rfl (op_read rfl rfl (r_nilCheck (a := (Addr.add a_1 0)) rfl) ?_)
    refine JL_op rfl (op_read rfl rfl (r_fieldAddr (r := Addr.add a_1 2) Try.pu28 (f := Try.pf28.getD 2 default) rfl Try.pi22 (by decide) rfl (Addr.add_add _ _ _)) ?_)
    refine JL_op rfl (op_read rfl rfl (r_load_priv (a := a_1) (off := 2) (cs' := [v_5]) (v := v_5) 0 Try.pu22 Try.pi22 rfl rfl rfl rfl (by decide) rfl) ?_)
    refine J_front [2] ?_
    refine JL_op rfl (op_callN (f := 51) (fn := Try.f51) (args := [v_5]) (post := slices_Clip_v2_post σ v_5 x_6) 1 rfl rfl rfl Try.func51 Try.pn51 rfl rfl (fun y st hy hpre => slices_Clip_v2_ref st σ v_5 x_6 hpre y hy) ?_)
    intro r_10 v_12 s_15 PV_13 hr_11 hle_16 hp_14
    obtain ⟨v_17, rfl, rfl, rfl⟩ := hp_14
    refine JL_op rfl (op_read rfl rfl (r_move (v := v_7) rfl) ?_)
    refine JL_op rfl (op_append (v := v_17) (u := v_7) (T := (t_Gdiff_Leq).o) (ts := x_8.xs) [] [.cell a_1 [v_2, .int .i64 Vars_4, v_5], .row o_Gheap_Chunk 49 v_2 x_3, .row (t_Gdiff_Leq).o 39 v_7 x_8] rfl Try.pu22 Try.pi39 rfl rfl rfl rfl rfl rfl (source_copy (s := x_8) 3 rfl) ?_)
    intro s_19 v_18 hs_20
    refine JL_op rfl (op_read rfl rfl (r_nilCheck (a := (Addr.add a_1 0)) rfl) ?_)
    refine JL_op rfl (op_read rfl rfl (r_fieldAddr (r := Addr.add a_1 2) Try.pu28 (f := Try.pf28.getD 2 default) rfl Try.pi22 (by decide) rfl (Addr.add_add _ _ _)) ?_)
    refine J_row_one 0 rfl fun h_21 => ?_
    refine JL_op rfl (op_store_priv (a := a_1) (off := 2) (vs := [v_18]) (cs' := [v_2, .int .i64 Vars_4, v_18]) (PV' := [.row (t_Gdiff_Leq).o 39 v_18 s_19, .cell a_1 [v_2, .int .i64 Vars_4, v_18], .row o_Gheap_Chunk 49 v_2 x_3, .row (t_Gdiff_Leq).o 39 v_7 x_8]) 1 Try.pi22 rfl (one_cells h_21) rfl ⟨h_21, trivial⟩ rfl rfl rfl rfl rfl ?_)
    refine JL_nil ?_
    refine J_then ?_
    refine J_seq ?_
    refine J_region ?_
    refine JL_op rfl (op_read rfl rfl (r_assign (v := .int .i64 0) rfl) ?_)
    refine JL_nil ?_
    refine J_then ?_
    refine J_ret ?_
    exact J_returnV1 (PV' := [.cell a_1 [v_2, .int .i64 Vars_4, v_18], .row o_Gheap_Chunk 49 v_2 x_3, .row (t_Gdiff_Leq).o 39 v_18 s_19, .row (t_Gdiff_Leq).o 39 v_7 x_8]) rfl rv_tmp [1, 2, 0, 3] (by decide) rfl ⟨v_18, rfl, rfl, rfl⟩
def heap_Heap_Fresh_post (σ0 : FS) (a_1 : Addr) (v_2 : Value) (x_3 : Sl Gheap_Chunk) (Vars_4 : Int) (v_5 : Value) (x_6 : Sl Gdiff_Leq) (r : Gheap_Sym × Int × Int × (Sl Gdiff_Leq)) (σ : FS) (PV : List Priv) (v : Value) : Prop :=
  ∃ (w0 : Value), σ0 = σ ∧ .tuple #[.agg #[.int .i64 r.1.Kind, .int .i64 r.1.Var, .int .i64 r.1.K, .int .i64 r.1.Block], .int .i64 r.2.1] = v ∧ PV = [.cell a_1 [v_2, .int .i64 r.2.2.1, w0], .row o_Gheap_Chunk 49 v_2 x_3, .row (t_Gdiff_Leq).o 39 w0 r.2.2.2]
set_option maxRecDepth 100000 in
theorem heap_Heap_Fresh_ref (s : Start) (σ : FS) (a_1 : Addr) (v_2 : Value) (x_3 : Sl Gheap_Chunk) (Vars_4 : Int) (v_5 : Value) (x_6 : Sl Gdiff_Leq) (hs : Pre s σ [.cell a_1 [v_2, .int .i64 Vars_4, v_5], .row o_Gheap_Chunk 49 v_2 x_3, .row (t_Gdiff_Leq).o 39 v_5 x_6]) (r : Gheap_Sym × Int × Int × (Sl Gdiff_Leq)) (hr : heap_Heap_Fresh x_3 Vars_4 x_6 = some r) : Does Try.prog 21 [.pointer (some (Addr.add a_1 0))] s σ (heap_Heap_Fresh_post σ a_1 v_2 x_3 Vars_4 v_5 x_6 r) := by
  unfold heap_Heap_Fresh at hr
  refine does_of_J Try.func21 rfl (n := 36) rfl rfl hs hr ?_
  refine J_seq ?_
  refine J_region ?_
  refine JL_op rfl (op_alloc (cs := [.int .i64 0, .int .i64 0, .int .i64 0, .int .i64 0]) rfl Try.pi33 rfl rfl ?_)
  intro c_7
  refine JL_op rfl (op_read rfl rfl (r_assign (v := .int .i64 0) rfl) ?_)
  refine JL_nil ?_
  refine J_then ?_
  refine J_seq ?_
  refine J_seq ?_
  refine J_region ?_
  refine JL_op rfl (op_read rfl rfl (r_move (v := .pointer (some (Addr.add a_1 0))) rfl) ?_)
  refine JL_op rfl (op_read rfl rfl (r_nilCheck (a := (Addr.add a_1 0)) rfl) ?_)
  refine JL_op rfl (op_read rfl rfl (r_fieldAddr (r := Addr.add a_1 1) Try.pu28 (f := Try.pf28.getD 1 default) rfl Try.pi3 (by decide) rfl (Addr.add_add _ _ _)) ?_)
  refine JL_op rfl (op_read rfl rfl (r_load_priv (a := a_1) (off := 1) (cs' := [.int .i64 Vars_4]) (v := .int .i64 Vars_4) 1 Try.pu3 Try.pi3 rfl rfl rfl rfl (by decide) rfl) ?_)
  refine JL_op rfl (op_read rfl rfl (r_geq rfl rfl) ?_)
  refine JL_nil ?_
  refine J_then ?_
  refine J_cond rfl (fun hc_9 => ?_) (fun hc_9 => ?_)
  · refine J_seq ?_
    refine J_region ?_
    refine JL_op rfl (op_read rfl rfl (r_build (cs := [.int .i64 0, .int .i64 0, .int .i64 0, .int .i64 0]) (vs := []) (pcs := []) (pls := [(0, 1), (1, 1), (2, 1), (3, 1)]) Try.pu33 Try.pi33 rfl (by kernel_rfl) rfl trivial rfl) ?_)
    refine JL_op rfl (op_store_priv (a := c_7) (off := 0) (vs := [.int .i64 0, .int .i64 0, .int .i64 0, .int .i64 0]) (cs' := [.int .i64 0, .int .i64 0, .int .i64 0, .int .i64 0]) (PV' := [.cell c_7 [.int .i64 0, .int .i64 0, .int .i64 0, .int .i64 0], .cell a_1 [v_2, .int .i64 Vars_4, v_5], .row o_Gheap_Chunk 49 v_2 x_3, .row (t_Gdiff_Leq).o 39 v_5 x_6]) 0 Try.pi33 rfl rfl rfl ⟨rfl, rfl, rfl, rfl, trivial⟩ rfl rfl rfl rfl rfl ?_)
    refine JL_op rfl (op_read rfl rfl (r_assign (v := .int .i64 22) rfl) ?_)
    refine JL_nil ?_
    refine J_then ?_
    refine J_ret ?_
    refine J_then_ret ?_
    exact J_returnV2 (PV' := [.cell a_1 [v_2, .int .i64 Vars_4, v_5], .row o_Gheap_Chunk 49 v_2 x_3, .row (t_Gdiff_Leq).o 39 v_5 x_6]) rfl (rv_cell (cs := [.int .i64 0, .int .i64 0, .int .i64 0, .int .i64 0]) (v := .agg #[.int .i64 0, .int .i64 0, .int .i64 0, .int .i64 0]) 0 Try.pu33 Try.pi33 rfl rfl rfl (by decide) rfl) rv_tmp [1, 2, 3] (by decide) rfl ⟨v_5, rfl, rfl, rfl⟩
  · refine J_skip ?_
    refine J_then ?_
    refine J_seq ?_
    refine J_region ?_
    refine JL_op rfl (op_read rfl rfl (r_move (v := .pointer (some (Addr.add a_1 0))) rfl) ?_)
    refine JL_op rfl (op_read rfl rfl (r_nilCheck (a := (Addr.add a_1 0)) rfl) ?_)
    refine JL_op rfl (op_read rfl rfl (r_fieldAddr (r := Addr.add a_1 1) Try.pu28 (f := Try.pf28.getD 1 default) rfl Try.pi3 (by decide) rfl (Addr.add_add _ _ _)) ?_)
    refine JL_op rfl (op_read rfl rfl (r_load_priv (a := a_1) (off := 1) (cs' := [.int .i64 Vars_4]) (v := .int .i64 Vars_4) 1 Try.pu3 Try.pi3 rfl rfl rfl rfl (by decide) rfl) ?_)
    refine JL_op rfl (op_read rfl rfl (r_assign (v := .int .i64 Vars_4) rfl) ?_)
    refine JL_nil ?_
    refine J_then ?_
    refine J_seq ?_
    refine J_seq ?_
    refine J_region ?_
    refine JL_op rfl (op_read rfl rfl (r_move (v := .pointer (some (Addr.add a_1 0))) rfl) ?_)
    refine JL_op rfl (op_read rfl rfl (r_move (v := .int .i64 Vars_4) rfl) ?_)
    refine JL_op rfl (op_read rfl rfl (r_build (cs := [.int .i64 Vars_4, .int .i64 0, .int .i64 1099511627776]) (vs := [(0, .int .i64 Vars_4), (2, .int .i64 1099511627776)]) (pcs := [(0, [.int .i64 Vars_4]), (2, [.int .i64 1099511627776])]) (pls := [(0, 1), (1, 1), (2, 1)]) Try.pu39 Try.pi39 rfl (by kernel_rfl) rfl ⟨rfl, rfl, ⟨rfl, rfl, trivial⟩⟩ rfl) ?_)
    refine JL_op rfl (op_read rfl rfl (r_move (v := .int .i64 Vars_4) rfl) ?_)
    refine JL_op rfl (op_read rfl rfl (r_build (cs := [.int .i64 0, .int .i64 Vars_4, .int .i64 1099511627776]) (vs := [(1, .int .i64 Vars_4), (2, .int .i64 1099511627776)]) (pcs := [(1, [.int .i64 Vars_4]), (2, [.int .i64 1099511627776])]) (pls := [(0, 1), (1, 1), (2, 1)]) Try.pu39 Try.pi39 rfl (by kernel_rfl) rfl ⟨rfl, rfl, ⟨rfl, rfl, trivial⟩⟩ rfl) ?_)
    refine JL_op rfl (op_buildSlice (T := (t_Gdiff_Leq).o) (vs := [.agg #[.int .i64 Vars_4, .int .i64 0, .int .i64 1099511627776], .agg #[.int .i64 0, .int .i64 Vars_4, .int .i64 1099511627776]]) (xs := [(⟨Vars_4, 0, 1099511627776⟩ : Gdiff_Leq), (⟨0, Vars_4, 1099511627776⟩ : Gdiff_Leq)]) [] [.cell c_7 [.int .i64 0, .int .i64 0, .int .i64 0, .int .i64 0], .cell a_1 [v_2, .int .i64 Vars_4, v_5], .row o_Gheap_Chunk 49 v_2 x_3, .row (t_Gdiff_Leq).o 39 v_5 x_6] rfl Try.pu22 Try.pi39 rfl rfl rfl rfl rfl rfl (relsO_cons (A := []) (B := []) (u := .agg #[.int .i64 Vars_4, .int .i64 0, .int .i64 1099511627776]) (x := (⟨Vars_4, 0, 1099511627776⟩ : Gdiff_Leq)) (fix_vrel (T := (t_Gdiff_Leq).o) rfl (t_Gdiff_Leq_v.2 rfl)) (relsO_cons (A := []) (B := []) (u := .agg #[.int .i64 0, .int .i64 Vars_4, .int .i64 1099511627776]) (x := (⟨0, Vars_4, 1099511627776⟩ : Gdiff_Leq)) (fix_vrel (T := (t_Gdiff_Leq).o) rfl (t_Gdiff_Leq_v.2 rfl)) relsO_nil)) ?_)
    intro v_10
    refine J_front [2, 2, 2] ?_
    refine JL_op rfl (op_callN (f := 22) (fn := Try.f22) (args := [.pointer (some (Addr.add a_1 0)), v_10]) (post := heap_Heap_Assume_post σ a_1 v_2 x_3 Vars_4 v_5 x_6 v_10 (⟨[(⟨Vars_4, 0, 1099511627776⟩ : Gdiff_Leq), (⟨0, Vars_4, 1099511627776⟩ : Gdiff_Leq)], true⟩ : Sl Gdiff_Leq)) 4 rfl rfl rfl Try.func22 Try.pn22 rfl rfl (fun y st hy hpre => heap_Heap_Assume_ref st σ a_1 v_2 x_3 Vars_4 v_5 x_6 v_10 (⟨[(⟨Vars_4, 0, 1099511627776⟩ : Gdiff_Leq), (⟨0, Vars_4, 1099511627776⟩ : Gdiff_Leq)], true⟩ : Sl Gdiff_Leq) hpre y hy) ?_)
    intro r_12 v_14 s_17 PV_15 hr_13 hle_18 hp_16
    obtain ⟨v_19, rfl, rfl, rfl⟩ := hp_16
    refine JL_op rfl (op_read rfl rfl (r_assign (v := .int .i64 r_12.1) rfl) ?_)
    refine JL_nil ?_
    refine J_then ?_
    refine J_seq ?_
    refine J_region ?_
    refine JL_op rfl (op_read rfl rfl (r_move (v := .int .i64 r_12.1) rfl) ?_)
    refine JL_op rfl (op_read rfl rfl (r_neq rfl rfl) ?_)
    refine JL_nil ?_
    refine J_then ?_
    refine J_cond rfl (fun hc_20 => ?_) (fun hc_20 => ?_)
    · refine J_seq ?_
      refine J_region ?_
      refine JL_op rfl (op_read rfl rfl (r_build (cs := [.int .i64 0, .int .i64 0, .int .i64 0, .int .i64 0]) (vs := []) (pcs := []) (pls := [(0, 1), (1, 1), (2, 1), (3, 1)]) Try.pu33 Try.pi33 rfl (by kernel_rfl) rfl trivial rfl) ?_)
      refine JL_op rfl (op_read rfl rfl (r_move (v := .int .i64 r_12.1) rfl) ?_)
      refine JL_op rfl (op_store_priv (a := c_7) (off := 0) (vs := [.int .i64 0, .int .i64 0, .int .i64 0, .int .i64 0]) (cs' := [.int .i64 0, .int .i64 0, .int .i64 0, .int .i64 0]) (PV' := [.cell a_1 [v_2, .int .i64 Vars_4, v_19], .row o_Gheap_Chunk 49 v_2 x_3, .row (t_Gdiff_Leq).o 39 v_19 r_12.2, .row (t_Gdiff_Leq).o 39 v_10 (⟨[(⟨Vars_4, 0, 1099511627776⟩ : Gdiff_Leq), (⟨0, Vars_4, 1099511627776⟩ : Gdiff_Leq)], true⟩ : Sl Gdiff_Leq), .cell c_7 [.int .i64 0, .int .i64 0, .int .i64 0, .int .i64 0]]) 4 Try.pi33 rfl rfl rfl ⟨rfl, rfl, rfl, rfl, trivial⟩ rfl rfl rfl rfl rfl ?_)
      refine JL_op rfl (op_read rfl rfl (r_assign (v := .int .i64 r_12.1) rfl) ?_)
      refine JL_nil ?_
      refine J_then ?_
      refine J_ret ?_
      refine J_then_ret ?_
      exact J_returnV2 (PV' := [.cell a_1 [v_2, .int .i64 Vars_4, v_19], .row o_Gheap_Chunk 49 v_2 x_3, .row (t_Gdiff_Leq).o 39 v_19 r_12.2]) rfl (rv_cell (cs := [.int .i64 0, .int .i64 0, .int .i64 0, .int .i64 0]) (v := .agg #[.int .i64 0, .int .i64 0, .int .i64 0, .int .i64 0]) 4 Try.pu33 Try.pi33 rfl rfl rfl (by decide) rfl) rv_tmp [0, 1, 2] (by decide) rfl ⟨v_19, rfl, rfl, rfl⟩
    · refine J_skip ?_
      refine J_then ?_
      refine J_seq ?_
      refine J_region ?_
      refine JL_op rfl (op_read rfl rfl (r_move (v := .pointer (some (Addr.add a_1 0))) rfl) ?_)
      refine JL_op rfl (op_read rfl rfl (r_nilCheck (a := (Addr.add a_1 0)) rfl) ?_)
      refine JL_op rfl (op_read rfl rfl (r_fieldAddr (r := Addr.add a_1 1) Try.pu28 (f := Try.pf28.getD 1 default) rfl Try.pi3 (by decide) rfl (Addr.add_add _ _ _)) ?_)
      refine JL_op rfl (op_read rfl rfl (r_load_priv (a := a_1) (off := 1) (cs' := [.int .i64 Vars_4]) (v := .int .i64 Vars_4) 0 Try.pu3 Try.pi3 rfl rfl rfl rfl (by decide) rfl) ?_)
      refine JL_op rfl (op_read rfl rfl (r_add rfl rfl) ?_)
      refine JL_op rfl (op_read rfl rfl (r_nilCheck (a := (Addr.add a_1 0)) rfl) ?_)
      refine JL_op rfl (op_read rfl rfl (r_fieldAddr (r := Addr.add a_1 1) Try.pu28 (f := Try.pf28.getD 1 default) rfl Try.pi3 (by decide) rfl (Addr.add_add _ _ _)) ?_)
      refine JL_op rfl (op_store_priv (a := a_1) (off := 1) (vs := [.int .i64 (IntKind.i64.wrap (Vars_4 + 1))]) (cs' := [v_2, .int .i64 (IntKind.i64.wrap (Vars_4 + 1)), v_19]) (PV' := [.cell a_1 [v_2, .int .i64 (IntKind.i64.wrap (Vars_4 + 1)), v_19], .row o_Gheap_Chunk 49 v_2 x_3, .row (t_Gdiff_Leq).o 39 v_19 r_12.2, .row (t_Gdiff_Leq).o 39 v_10 (⟨[(⟨Vars_4, 0, 1099511627776⟩ : Gdiff_Leq), (⟨0, Vars_4, 1099511627776⟩ : Gdiff_Leq)], true⟩ : Sl Gdiff_Leq), .cell c_7 [.int .i64 0, .int .i64 0, .int .i64 0, .int .i64 0]]) 0 Try.pi3 rfl rfl rfl ⟨rfl, trivial⟩ rfl rfl rfl rfl rfl ?_)
      refine JL_nil ?_
      refine J_then ?_
      refine J_seq ?_
      refine J_region ?_
      refine JL_op rfl (op_read rfl rfl (r_move (v := .int .i64 Vars_4) rfl) ?_)
      refine JL_op rfl (op_read rfl rfl (r_build (cs := [.int .i64 1, .int .i64 Vars_4, .int .i64 0, .int .i64 0]) (vs := [(0, .int .i64 1), (1, .int .i64 Vars_4)]) (pcs := [(0, [.int .i64 1]), (1, [.int .i64 Vars_4])]) (pls := [(0, 1), (1, 1), (2, 1), (3, 1)]) Try.pu33 Try.pi33 rfl (by kernel_rfl) rfl ⟨rfl, rfl, ⟨rfl, rfl, trivial⟩⟩ rfl) ?_)
      refine JL_op rfl (op_store_priv (a := c_7) (off := 0) (vs := [.int .i64 1, .int .i64 Vars_4, .int .i64 0, .int .i64 0]) (cs' := [.int .i64 1, .int .i64 Vars_4, .int .i64 0, .int .i64 0]) (PV' := [.cell a_1 [v_2, .int .i64 (IntKind.i64.wrap (Vars_4 + 1)), v_19], .row o_Gheap_Chunk 49 v_2 x_3, .row (t_Gdiff_Leq).o 39 v_19 r_12.2, .row (t_Gdiff_Leq).o 39 v_10 (⟨[(⟨Vars_4, 0, 1099511627776⟩ : Gdiff_Leq), (⟨0, Vars_4, 1099511627776⟩ : Gdiff_Leq)], true⟩ : Sl Gdiff_Leq), .cell c_7 [.int .i64 1, .int .i64 Vars_4, .int .i64 0, .int .i64 0]]) 4 Try.pi33 rfl rfl rfl ⟨rfl, rfl, rfl, rfl, trivial⟩ rfl rfl rfl rfl rfl ?_)
      refine JL_op rfl (op_read rfl rfl (r_assign (v := .int .i64 0) rfl) ?_)
      refine JL_nil ?_
      refine J_then ?_
      refine J_ret ?_
      exact J_returnV2 (PV' := [.cell a_1 [v_2, .int .i64 (IntKind.i64.wrap (Vars_4 + 1)), v_19], .row o_Gheap_Chunk 49 v_2 x_3, .row (t_Gdiff_Leq).o 39 v_19 r_12.2]) rfl (rv_cell (cs := [.int .i64 1, .int .i64 Vars_4, .int .i64 0, .int .i64 0]) (v := .agg #[.int .i64 1, .int .i64 Vars_4, .int .i64 0, .int .i64 0]) 4 Try.pu33 Try.pi33 rfl rfl rfl (by decide) rfl) rv_tmp [0, 1, 2] (by decide) rfl ⟨v_19, rfl, rfl, rfl⟩
def heap_Heap_Load_post (σ0 : FS) (a_1 : Addr) (v_2 : Value) (x_3 : Sl Gheap_Chunk) (Vars_4 : Int) (v_5 : Value) (x_6 : Sl Gdiff_Leq) (v_7 : Value) (p_8 : Gheap_Sym) (v_10 : Value) (index_11 : Gheap_Sym) (r : Gheap_Sym × Int × Int × (Sl Gdiff_Leq)) (σ : FS) (PV : List Priv) (v : Value) : Prop :=
  ∃ (w0 : Value), σ0 = σ ∧ .tuple #[.agg #[.int .i64 r.1.Kind, .int .i64 r.1.Var, .int .i64 r.1.K, .int .i64 r.1.Block], .int .i64 r.2.1] = v ∧ PV = [.cell a_1 [v_2, .int .i64 r.2.2.1, w0], .row o_Gheap_Chunk 49 v_2 x_3, .row (t_Gdiff_Leq).o 39 w0 r.2.2.2]
set_option maxRecDepth 100000 in
theorem heap_Heap_Load_ref (s : Start) (σ : FS) (a_1 : Addr) (v_2 : Value) (x_3 : Sl Gheap_Chunk) (Vars_4 : Int) (v_5 : Value) (x_6 : Sl Gdiff_Leq) (v_7 : Value) (p_8 : Gheap_Sym) (h_9 : t_Gheap_Sym.vrel σ v_7 p_8) (v_10 : Value) (index_11 : Gheap_Sym) (h_12 : t_Gheap_Sym.vrel σ v_10 index_11) (hs : Pre s σ [.cell a_1 [v_2, .int .i64 Vars_4, v_5], .row o_Gheap_Chunk 49 v_2 x_3, .row (t_Gdiff_Leq).o 39 v_5 x_6]) (r : Gheap_Sym × Int × Int × (Sl Gdiff_Leq)) (hr : heap_Heap_Load x_3 Vars_4 x_6 p_8 index_11 = some r) : Does Try.prog 24 [.pointer (some (Addr.add a_1 0)), v_7, v_10] s σ (heap_Heap_Load_post σ a_1 v_2 x_3 Vars_4 v_5 x_6 v_7 p_8 v_10 index_11 r) := by
  unfold heap_Heap_Load at hr
  obtain rfl := t_Gheap_Sym_v.1 h_9
  obtain rfl := t_Gheap_Sym_v.1 h_12
  refine does_of_J Try.func24 rfl (n := 51) rfl rfl hs hr ?_
  refine J_seq ?_
  refine J_region ?_
  refine JL_op rfl (op_box (cs := [.int .i64 p_8.Kind, .int .i64 p_8.Var, .int .i64 p_8.K, .int .i64 p_8.Block]) rfl rfl ?_)
  intro c_13
  refine JL_op rfl (op_box (cs := [.int .i64 index_11.Kind, .int .i64 index_11.Var, .int .i64 index_11.K, .int .i64 index_11.Block]) rfl rfl ?_)
  intro c_15
  refine JL_op rfl (op_alloc (cs := [.int .i64 0, .int .i64 0, .int .i64 0, .int .i64 0]) rfl Try.pi33 rfl rfl ?_)
  intro c_17
  refine JL_op rfl (op_read rfl rfl (r_assign (v := .int .i64 0) rfl) ?_)
  refine JL_nil ?_
  refine J_then ?_
  refine J_seq ?_
  refine J_region ?_
  refine JL_op rfl (op_read rfl rfl (r_move (v := .pointer (some (Addr.add a_1 0))) rfl) ?_)
  refine JL_op rfl (op_read rfl rfl (r_load_priv (a := c_13) (off := 0) (cs' := [.int .i64 p_8.Kind, .int .i64 p_8.Var, .int .i64 p_8.K, .int .i64 p_8.Block]) (v := .agg #[.int .i64 p_8.Kind, .int .i64 p_8.Var, .int .i64 p_8.K, .int .i64 p_8.Block]) 2 Try.pu33 Try.pi33 rfl rfl rfl rfl (by decide) rfl) ?_)
  refine JL_op rfl (op_read rfl rfl (r_load_priv (a := c_15) (off := 0) (cs' := [.int .i64 index_11.Kind, .int .i64 index_11.Var, .int .i64 index_11.K, .int .i64 index_11.Block]) (v := .agg #[.int .i64 index_11.Kind, .int .i64 index_11.Var, .int .i64 index_11.K, .int .i64 index_11.Block]) 1 Try.pu33 Try.pi33 rfl rfl rfl rfl (by decide) rfl) ?_)
  refine J_front [3, 3, 3] ?_
  refine JL_op rfl (op_callN (f := 53) (fn := Try.f53) (args := [.pointer (some (Addr.add a_1 0)), .agg #[.int .i64 p_8.Kind, .int .i64 p_8.Var, .int .i64 p_8.K, .int .i64 p_8.Block], .agg #[.int .i64 index_11.Kind, .int .i64 index_11.Var, .int .i64 index_11.K, .int .i64 index_11.Block], .bool false]) (post := heap_Heap_reach_post σ a_1 v_2 x_3 Vars_4 v_5 x_6 (.agg #[.int .i64 p_8.Kind, .int .i64 p_8.Var, .int .i64 p_8.K, .int .i64 p_8.Block]) p_8 (.agg #[.int .i64 index_11.Kind, .int .i64 index_11.Var, .int .i64 index_11.K, .int .i64 index_11.Block]) index_11 false) 3 rfl rfl rfl Try.func53 Try.pn53 rfl rfl (fun y st hy hpre => heap_Heap_reach_ref st σ a_1 v_2 x_3 Vars_4 v_5 x_6 (.agg #[.int .i64 p_8.Kind, .int .i64 p_8.Var, .int .i64 p_8.K, .int .i64 p_8.Block]) p_8 (t_Gheap_Sym_v.2 rfl) (.agg #[.int .i64 index_11.Kind, .int .i64 index_11.Var, .int .i64 index_11.K, .int .i64 index_11.Block]) index_11 (t_Gheap_Sym_v.2 rfl) false hpre y hy) ?_)
  intro r_19 v_21 s_24 PV_22 hr_20 hle_25 hp_23
  obtain ⟨rfl, rfl, rfl⟩ := hp_23
  refine JL_op rfl (op_read rfl rfl (r_move (v := .tuple #[peOpt v_2 (o_Gheap_Chunk).size r_19.1, .int .i64 r_19.2]) rfl) ?_)
  refine JL_op rfl (op_read rfl rfl (r_extract (v := peOpt v_2 (o_Gheap_Chunk).size r_19.1) rfl rfl) ?_)
  refine JL_op rfl (op_read rfl rfl (r_extract (v := .int .i64 r_19.2) rfl rfl) ?_)
  refine JL_op rfl (op_read rfl rfl (r_assign (v := peOpt v_2 (o_Gheap_Chunk).size r_19.1) rfl) ?_)
  refine JL_op rfl (op_read rfl rfl (r_assign (v := .int .i64 r_19.2) rfl) ?_)
  refine JL_nil ?_
  refine J_then ?_
  refine J_seq ?_
  refine J_block ?_
  refine J_seq ?_
  refine J_region ?_
  refine JL_op rfl (op_read rfl rfl (r_move (v := .int .i64 r_19.2) rfl) ?_)
  refine JL_op rfl (op_read rfl rfl (r_neq rfl rfl) ?_)
  refine JL_op rfl (op_read rfl rfl (r_assign (v := .bool (decide (r_19.2 ≠ 0))) rfl) ?_)
  refine JL_nil ?_
  refine J_then ?_
  refine J_cond rfl (fun hc_26 => ?_) (fun hc_26 => ?_)
  · refine J_seq ?_
    refine J_region ?_
    refine JL_op rfl (op_read rfl rfl (r_build (cs := [.int .i64 0, .int .i64 0, .int .i64 0, .int .i64 0]) (vs := []) (pcs := []) (pls := [(0, 1), (1, 1), (2, 1), (3, 1)]) Try.pu33 Try.pi33 rfl (by kernel_rfl) rfl trivial rfl) ?_)
    refine JL_op rfl (op_read rfl rfl (r_move (v := .int .i64 r_19.2) rfl) ?_)
    refine JL_op rfl (op_store_priv (a := c_17) (off := 0) (vs := [.int .i64 0, .int .i64 0, .int .i64 0, .int .i64 0]) (cs' := [.int .i64 0, .int .i64 0, .int .i64 0, .int .i64 0]) (PV' := [.row o_Gheap_Chunk 49 v_2 x_3, .cell a_1 [v_2, .int .i64 Vars_4, v_5], .row (t_Gdiff_Leq).o 39 v_5 x_6, .cell c_17 [.int .i64 0, .int .i64 0, .int .i64 0, .int .i64 0], .cell c_15 [.int .i64 index_11.Kind, .int .i64 index_11.Var, .int .i64 index_11.K, .int .i64 index_11.Block], .cell c_13 [.int .i64 p_8.Kind, .int .i64 p_8.Var, .int .i64 p_8.K, .int .i64 p_8.Block]]) 3 Try.pi33 rfl rfl rfl ⟨rfl, rfl, rfl, rfl, trivial⟩ rfl rfl rfl rfl rfl ?_)
    refine JL_op rfl (op_read rfl rfl (r_assign (v := .int .i64 r_19.2) rfl) ?_)
    refine JL_nil ?_
    refine J_then ?_
    refine J_ret ?_
    refine J_in_ret ?_
    refine J_then_ret ?_
    exact J_returnV2 (PV' := [.cell a_1 [v_2, .int .i64 Vars_4, v_5], .row o_Gheap_Chunk 49 v_2 x_3, .row (t_Gdiff_Leq).o 39 v_5 x_6]) rfl (rv_cell (cs := [.int .i64 0, .int .i64 0, .int .i64 0, .int .i64 0]) (v := .agg #[.int .i64 0, .int .i64 0, .int .i64 0, .int .i64 0]) 3 Try.pu33 Try.pi33 rfl rfl rfl (by decide) rfl) rv_tmp [1, 0, 2] (by decide) rfl ⟨v_5, rfl, rfl, rfl⟩
  · refine J_seq ?_
    refine J_region ?_
    refine JL_op rfl (op_read rfl rfl (r_move (v := peOpt v_2 (o_Gheap_Chunk).size r_19.1) rfl) ?_)
    refine J_bind fun i_27 hi_28 => ?_
    refine JL_op rfl (op_read rfl rfl (r_nilCheck_opt (i := i_27) rfl hi_28) ?_)
    refine JL_op rfl (op_read rfl rfl (r_fieldAddr (r := elemAddr v_2 ((i_27).toNat * (o_Gheap_Chunk).size + 5)) Try.pu49 (f := Try.pf49.getD 5 default) rfl Try.pi4 (by decide) rfl (elemAddr_add _ _ _)) ?_)
    refine J_bind fun x_29 hx_30 => ?_
    refine JL_op rfl (op_reads rfl rfl (l_elem_orow (v := v_2) (T := o_Gheap_Chunk) (Tf := tBool) (q := x_29) (i := i_27) (off := 5) 0 Try.pu4 Try.pi4 rfl rfl rfl rfl hx_30 of_Gheap_Chunk_Array (by decide)) ?_)
    intro v_31 h_32
    obtain rfl := tBool_v.1 h_32
    refine JL_op rfl (op_read rfl rfl (r_assign (v := .bool x_29.Array) rfl) ?_)
    refine JL_nil ?_
    refine J_then ?_
    refine J_cond rfl (fun hc_33 => ?_) (fun hc_33 => ?_)
    · refine J_seq ?_
      refine J_region ?_
      refine JL_op rfl (op_read rfl rfl (r_move (v := .pointer (some (Addr.add a_1 0))) rfl) ?_)
      refine J_front [1] ?_
      refine JL_op rfl (op_callN (f := 21) (fn := Try.f21) (args := [.pointer (some (Addr.add a_1 0))]) (post := heap_Heap_Fresh_post σ a_1 v_2 x_3 Vars_4 v_5 x_6) 3 rfl rfl rfl Try.func21 Try.pn21 rfl rfl (fun y st hy hpre => heap_Heap_Fresh_ref st σ a_1 v_2 x_3 Vars_4 v_5 x_6 hpre y hy) ?_)
      intro r_34 v_36 s_39 PV_37 hr_35 hle_40 hp_38
      obtain ⟨v_41, rfl, rfl, rfl⟩ := hp_38
      refine JL_op rfl (op_read rfl rfl (r_extract (v := .agg #[.int .i64 r_34.1.Kind, .int .i64 r_34.1.Var, .int .i64 r_34.1.K, .int .i64 r_34.1.Block]) rfl rfl) ?_)
      refine JL_op rfl (op_read rfl rfl (r_extract (v := .int .i64 r_34.2.1) rfl rfl) ?_)
      refine JL_op rfl (op_store_priv (a := c_17) (off := 0) (vs := [.int .i64 r_34.1.Kind, .int .i64 r_34.1.Var, .int .i64 r_34.1.K, .int .i64 r_34.1.Block]) (cs' := [.int .i64 r_34.1.Kind, .int .i64 r_34.1.Var, .int .i64 r_34.1.K, .int .i64 r_34.1.Block]) (PV' := [.cell a_1 [v_2, .int .i64 r_34.2.2.1, v_41], .row o_Gheap_Chunk 49 v_2 x_3, .row (t_Gdiff_Leq).o 39 v_41 r_34.2.2.2, .cell c_17 [.int .i64 r_34.1.Kind, .int .i64 r_34.1.Var, .int .i64 r_34.1.K, .int .i64 r_34.1.Block], .cell c_15 [.int .i64 index_11.Kind, .int .i64 index_11.Var, .int .i64 index_11.K, .int .i64 index_11.Block], .cell c_13 [.int .i64 p_8.Kind, .int .i64 p_8.Var, .int .i64 p_8.K, .int .i64 p_8.Block]]) 3 Try.pi33 rfl rfl rfl ⟨rfl, rfl, rfl, rfl, trivial⟩ rfl rfl rfl rfl rfl ?_)
      refine JL_op rfl (op_read rfl rfl (r_assign (v := .int .i64 r_34.2.1) rfl) ?_)
      refine JL_nil ?_
      refine J_then ?_
      refine J_ret ?_
      refine J_in_ret ?_
      refine J_then_ret ?_
      exact J_returnV2 (PV' := [.cell a_1 [v_2, .int .i64 r_34.2.2.1, v_41], .row o_Gheap_Chunk 49 v_2 x_3, .row (t_Gdiff_Leq).o 39 v_41 r_34.2.2.2]) rfl (rv_cell (cs := [.int .i64 r_34.1.Kind, .int .i64 r_34.1.Var, .int .i64 r_34.1.K, .int .i64 r_34.1.Block]) (v := .agg #[.int .i64 r_34.1.Kind, .int .i64 r_34.1.Var, .int .i64 r_34.1.K, .int .i64 r_34.1.Block]) 3 Try.pu33 Try.pi33 rfl rfl rfl (by decide) rfl) rv_tmp [0, 1, 2] (by decide) rfl ⟨v_41, rfl, rfl, rfl⟩
    · refine J_seq ?_
      refine J_region_any 11 [.row o_Gheap_Chunk 49 v_2 x_3, .cell a_1 [v_2, .int .i64 Vars_4, v_5], .row (t_Gdiff_Leq).o 39 v_5 x_6, .cell c_17 [.int .i64 0, .int .i64 0, .int .i64 0, .int .i64 0], .cell c_15 [.int .i64 index_11.Kind, .int .i64 index_11.Var, .int .i64 index_11.K, .int .i64 index_11.Block], .cell c_13 [.int .i64 p_8.Kind, .int .i64 p_8.Var, .int .i64 p_8.K, .int .i64 p_8.Block]] Try.mixed (by kernel_rfl) fun hns => ?_
      refine JA_takep 0 rfl hns (by kernel_rfl) (by kernel_rfl) rfl (.inr (by exact HeldOK.same [0, 1, 2, 3, 4, 5] (by decide) rfl)) rfl rfl rfl (r_move (v := peOpt v_2 (o_Gheap_Chunk).size r_19.1) rfl) ?_
      refine JA_takep 1 rfl hns (by kernel_rfl) (by kernel_rfl) rfl (.inr (by exact HeldOK.same [0, 1, 2, 3, 4, 5] (by decide) rfl)) rfl rfl rfl (r_nilCheck_opt (i := i_27) rfl hi_28) ?_
      refine JA_takep 2 rfl hns (by kernel_rfl) (by kernel_rfl) rfl (.inr (by exact HeldOK.same [0, 1, 2, 3, 4, 5] (by decide) rfl)) rfl rfl rfl (r_fieldAddr (r := elemAddr v_2 ((i_27).toNat * (o_Gheap_Chunk).size + 10)) Try.pu49 (f := Try.pf49.getD 7 default) rfl Try.pi23 (by decide) rfl (elemAddr_add _ _ _)) ?_
      refine JA_takep 4 rfl hns (by kernel_rfl) (by kernel_rfl) rfl (.inr (by exact HeldOK.same [0, 1, 2, 3, 4, 5] (by decide) rfl)) rfl rfl rfl (r_fieldAddr (r := Addr.add c_15 2) Try.pu33 (f := Try.pf33.getD 2 default) rfl Try.pi2 (by decide) rfl (Addr.add_add _ _ _)) ?_
      refine JA_take 5 rfl hns (by kernel_rfl) (by kernel_rfl) (by kernel_rfl) rfl (by kernel_rfl) (by exact HeldOK.same [0, 1, 2, 3, 4, 5] (by decide) rfl) rfl rfl rfl (r_load_priv (a := c_15) (off := 2) (cs' := [.int .i64 index_11.K]) (v := .int .i64 index_11.K) 4 Try.pu2 Try.pi2 rfl rfl rfl rfl (by decide) rfl) ?_
      refine J_take (T := o_Gheap_Chunk) (i := i_27) hx_30 fun u_44 hu_43 => ?_
      obtain ⟨_, _, _, _, _, _, _, v_45⟩ := u_44
      change J _ _ _ _ _ _ _ _ [.hole (fun x => .elem o_Gheap_Chunk (elemAddr v_2 ((i_27).toNat * (o_Gheap_Chunk).size)) x) (fun x => .row o_Gheap_Chunk 49 v_2 (Sl.set x_3 i_27 x)), .cell (elemAddr v_2 ((i_27).toNat * (o_Gheap_Chunk).size)) [.int .i64 x_29.Origin, .int .i64 x_29.Type_, .int .i64 x_29.At, .bool x_29.Live, .bool x_29.Held, .bool x_29.Array, .int .i64 x_29.Size.Kind, .int .i64 x_29.Size.Var, .int .i64 x_29.Size.K, .int .i64 x_29.Size.Block, v_45], .row (t_Gheap_Sym).o 33 v_45 x_29.Cells, .cell a_1 [v_2, .int .i64 Vars_4, v_5], .row (t_Gdiff_Leq).o 39 v_5 x_6, .cell c_17 [.int .i64 0, .int .i64 0, .int .i64 0, .int .i64 0], .cell c_15 [.int .i64 index_11.Kind, .int .i64 index_11.Var, .int .i64 index_11.K, .int .i64 index_11.Block], .cell c_13 [.int .i64 p_8.Kind, .int .i64 p_8.Var, .int .i64 p_8.K, .int .i64 p_8.Block]]
      have hS_46 : HeldOK σ [.row o_Gheap_Chunk 49 v_2 x_3, .cell a_1 [v_2, .int .i64 Vars_4, v_5], .row (t_Gdiff_Leq).o 39 v_5 x_6, .cell c_17 [.int .i64 0, .int .i64 0, .int .i64 0, .int .i64 0], .cell c_15 [.int .i64 index_11.Kind, .int .i64 index_11.Var, .int .i64 index_11.K, .int .i64 index_11.Block], .cell c_13 [.int .i64 p_8.Kind, .int .i64 p_8.Var, .int .i64 p_8.K, .int .i64 p_8.Block]] σ [.hole (fun x => .elem o_Gheap_Chunk (elemAddr v_2 ((i_27).toNat * (o_Gheap_Chunk).size)) x) (fun x => .row o_Gheap_Chunk 49 v_2 (Sl.set x_3 i_27 x)), .cell (elemAddr v_2 ((i_27).toNat * (o_Gheap_Chunk).size)) [.int .i64 x_29.Origin, .int .i64 x_29.Type_, .int .i64 x_29.At, .bool x_29.Live, .bool x_29.Held, .bool x_29.Array, .int .i64 x_29.Size.Kind, .int .i64 x_29.Size.Var, .int .i64 x_29.Size.K, .int .i64 x_29.Size.Block, v_45], .row (t_Gheap_Sym).o 33 v_45 x_29.Cells, .cell a_1 [v_2, .int .i64 Vars_4, v_5], .row (t_Gdiff_Leq).o 39 v_5 x_6, .cell c_17 [.int .i64 0, .int .i64 0, .int .i64 0, .int .i64 0], .cell c_15 [.int .i64 index_11.Kind, .int .i64 index_11.Var, .int .i64 index_11.K, .int .i64 index_11.Block], .cell c_13 [.int .i64 p_8.Kind, .int .i64 p_8.Var, .int .i64 p_8.K, .int .i64 p_8.Block]] := HeldOK.view (PV := [.row o_Gheap_Chunk 49 v_2 x_3, .cell a_1 [v_2, .int .i64 Vars_4, v_5], .row (t_Gdiff_Leq).o 39 v_5 x_6, .cell c_17 [.int .i64 0, .int .i64 0, .int .i64 0, .int .i64 0], .cell c_15 [.int .i64 index_11.Kind, .int .i64 index_11.Var, .int .i64 index_11.K, .int .i64 index_11.Block], .cell c_13 [.int .i64 p_8.Kind, .int .i64 p_8.Var, .int .i64 p_8.K, .int .i64 p_8.Block]]) (HeldOK.same [0, 1, 2, 3, 4, 5] (by decide) rfl) (fun _ k => (take_back (T := o_Gheap_Chunk) (i := i_27) (s := x_3) (e := 49) (v := v_2) (q := x_29) (C := [.cell a_1 [v_2, .int .i64 Vars_4, v_5], .row (t_Gdiff_Leq).o 39 v_5 x_6, .cell c_17 [.int .i64 0, .int .i64 0, .int .i64 0, .int .i64 0], .cell c_15 [.int .i64 index_11.Kind, .int .i64 index_11.Var, .int .i64 index_11.K, .int .i64 index_11.Block], .cell c_13 [.int .i64 p_8.Kind, .int .i64 p_8.Var, .int .i64 p_8.K, .int .i64 p_8.Block]]) ((), (), (), (), (), (), (), v_45) ⟨trivial, trivial, trivial, trivial, trivial, trivial, trivial, trivial⟩ hx_30 (Sep.select (PV' := [.hole (fun x => .elem o_Gheap_Chunk (elemAddr v_2 ((i_27).toNat * (o_Gheap_Chunk).size)) x) (fun x => .row o_Gheap_Chunk 49 v_2 (Sl.set x_3 i_27 x)), .cell (elemAddr v_2 ((i_27).toNat * (o_Gheap_Chunk).size)) [.int .i64 x_29.Origin, .int .i64 x_29.Type_, .int .i64 x_29.At, .bool x_29.Live, .bool x_29.Held, .bool x_29.Array, .int .i64 x_29.Size.Kind, .int .i64 x_29.Size.Var, .int .i64 x_29.Size.K, .int .i64 x_29.Size.Block, v_45], .row (t_Gheap_Sym).o 33 v_45 x_29.Cells, .cell a_1 [v_2, .int .i64 Vars_4, v_5], .row (t_Gdiff_Leq).o 39 v_5 x_6, .cell c_17 [.int .i64 0, .int .i64 0, .int .i64 0, .int .i64 0], .cell c_15 [.int .i64 index_11.Kind, .int .i64 index_11.Var, .int .i64 index_11.K, .int .i64 index_11.Block], .cell c_13 [.int .i64 p_8.Kind, .int .i64 p_8.Var, .int .i64 p_8.K, .int .i64 p_8.Block]]) k [0, 1, 2, 3, 4, 5, 6, 7] (by decide) rfl)))
      refine JA_op (i := 3) (by kernel_rfl) rfl rfl (op_read rfl rfl (r_load_priv (a := (elemAddr v_2 ((i_27).toNat * (o_Gheap_Chunk).size))) (off := 10) (cs' := [v_45]) (v := v_45) 1 Try.pu23 Try.pi23 (pe_add v_2 ((i_27).toNat * (o_Gheap_Chunk).size) 10) rfl rfl rfl (by decide) rfl) ?_)
      have hS_47 : HeldOK σ [.row o_Gheap_Chunk 49 v_2 x_3, .cell a_1 [v_2, .int .i64 Vars_4, v_5], .row (t_Gdiff_Leq).o 39 v_5 x_6, .cell c_17 [.int .i64 0, .int .i64 0, .int .i64 0, .int .i64 0], .cell c_15 [.int .i64 index_11.Kind, .int .i64 index_11.Var, .int .i64 index_11.K, .int .i64 index_11.Block], .cell c_13 [.int .i64 p_8.Kind, .int .i64 p_8.Var, .int .i64 p_8.K, .int .i64 p_8.Block]] σ [.hole (fun x => .elem o_Gheap_Chunk (elemAddr v_2 ((i_27).toNat * (o_Gheap_Chunk).size)) x) (fun x => .row o_Gheap_Chunk 49 v_2 (Sl.set x_3 i_27 x)), .cell (elemAddr v_2 ((i_27).toNat * (o_Gheap_Chunk).size)) [.int .i64 x_29.Origin, .int .i64 x_29.Type_, .int .i64 x_29.At, .bool x_29.Live, .bool x_29.Held, .bool x_29.Array, .int .i64 x_29.Size.Kind, .int .i64 x_29.Size.Var, .int .i64 x_29.Size.K, .int .i64 x_29.Size.Block, v_45], .row (t_Gheap_Sym).o 33 v_45 x_29.Cells, .cell a_1 [v_2, .int .i64 Vars_4, v_5], .row (t_Gdiff_Leq).o 39 v_5 x_6, .cell c_17 [.int .i64 0, .int .i64 0, .int .i64 0, .int .i64 0], .cell c_15 [.int .i64 index_11.Kind, .int .i64 index_11.Var, .int .i64 index_11.K, .int .i64 index_11.Block], .cell c_13 [.int .i64 p_8.Kind, .int .i64 p_8.Var, .int .i64 p_8.K, .int .i64 p_8.Block]] := HeldOK.view (PV := [.row o_Gheap_Chunk 49 v_2 x_3, .cell a_1 [v_2, .int .i64 Vars_4, v_5], .row (t_Gdiff_Leq).o 39 v_5 x_6, .cell c_17 [.int .i64 0, .int .i64 0, .int .i64 0, .int .i64 0], .cell c_15 [.int .i64 index_11.Kind, .int .i64 index_11.Var, .int .i64 index_11.K, .int .i64 index_11.Block], .cell c_13 [.int .i64 p_8.Kind, .int .i64 p_8.Var, .int .i64 p_8.K, .int .i64 p_8.Block]]) (HeldOK.same [0, 1, 2, 3, 4, 5] (by decide) rfl) (fun _ k => (take_back (T := o_Gheap_Chunk) (i := i_27) (s := x_3) (e := 49) (v := v_2) (q := x_29) (C := [.cell a_1 [v_2, .int .i64 Vars_4, v_5], .row (t_Gdiff_Leq).o 39 v_5 x_6, .cell c_17 [.int .i64 0, .int .i64 0, .int .i64 0, .int .i64 0], .cell c_15 [.int .i64 index_11.Kind, .int .i64 index_11.Var, .int .i64 index_11.K, .int .i64 index_11.Block], .cell c_13 [.int .i64 p_8.Kind, .int .i64 p_8.Var, .int .i64 p_8.K, .int .i64 p_8.Block]]) ((), (), (), (), (), (), (), v_45) ⟨trivial, trivial, trivial, trivial, trivial, trivial, trivial, trivial⟩ hx_30 (Sep.select (PV' := [.hole (fun x => .elem o_Gheap_Chunk (elemAddr v_2 ((i_27).toNat * (o_Gheap_Chunk).size)) x) (fun x => .row o_Gheap_Chunk 49 v_2 (Sl.set x_3 i_27 x)), .cell (elemAddr v_2 ((i_27).toNat * (o_Gheap_Chunk).size)) [.int .i64 x_29.Origin, .int .i64 x_29.Type_, .int .i64 x_29.At, .bool x_29.Live, .bool x_29.Held, .bool x_29.Array, .int .i64 x_29.Size.Kind, .int .i64 x_29.Size.Var, .int .i64 x_29.Size.K, .int .i64 x_29.Size.Block, v_45], .row (t_Gheap_Sym).o 33 v_45 x_29.Cells, .cell a_1 [v_2, .int .i64 Vars_4, v_5], .row (t_Gdiff_Leq).o 39 v_5 x_6, .cell c_17 [.int .i64 0, .int .i64 0, .int .i64 0, .int .i64 0], .cell c_15 [.int .i64 index_11.Kind, .int .i64 index_11.Var, .int .i64 index_11.K, .int .i64 index_11.Block], .cell c_13 [.int .i64 p_8.Kind, .int .i64 p_8.Var, .int .i64 p_8.K, .int .i64 p_8.Block]]) k [0, 1, 2, 3, 4, 5, 6, 7] (by decide) rfl)))
      refine ⟨.inr hS_47, ?_⟩
      refine J_bind fun x_48 hx_49 => ?_
      refine JA_op (i := 6) (by kernel_rfl) rfl rfl (op_read rfl rfl (r_index_row (v := v_45) (T := (t_Gheap_Sym).o) (q := x_48) 2 Try.pu23 Try.pi33 rfl rfl rfl rfl hx_49) ?_)
      have hS_50 : HeldOK σ [.row o_Gheap_Chunk 49 v_2 x_3, .cell a_1 [v_2, .int .i64 Vars_4, v_5], .row (t_Gdiff_Leq).o 39 v_5 x_6, .cell c_17 [.int .i64 0, .int .i64 0, .int .i64 0, .int .i64 0], .cell c_15 [.int .i64 index_11.Kind, .int .i64 index_11.Var, .int .i64 index_11.K, .int .i64 index_11.Block], .cell c_13 [.int .i64 p_8.Kind, .int .i64 p_8.Var, .int .i64 p_8.K, .int .i64 p_8.Block]] σ [.hole (fun x => .elem o_Gheap_Chunk (elemAddr v_2 ((i_27).toNat * (o_Gheap_Chunk).size)) x) (fun x => .row o_Gheap_Chunk 49 v_2 (Sl.set x_3 i_27 x)), .cell (elemAddr v_2 ((i_27).toNat * (o_Gheap_Chunk).size)) [.int .i64 x_29.Origin, .int .i64 x_29.Type_, .int .i64 x_29.At, .bool x_29.Live, .bool x_29.Held, .bool x_29.Array, .int .i64 x_29.Size.Kind, .int .i64 x_29.Size.Var, .int .i64 x_29.Size.K, .int .i64 x_29.Size.Block, v_45], .row (t_Gheap_Sym).o 33 v_45 x_29.Cells, .cell a_1 [v_2, .int .i64 Vars_4, v_5], .row (t_Gdiff_Leq).o 39 v_5 x_6, .cell c_17 [.int .i64 0, .int .i64 0, .int .i64 0, .int .i64 0], .cell c_15 [.int .i64 index_11.Kind, .int .i64 index_11.Var, .int .i64 index_11.K, .int .i64 index_11.Block], .cell c_13 [.int .i64 p_8.Kind, .int .i64 p_8.Var, .int .i64 p_8.K, .int .i64 p_8.Block]] := HeldOK.view (PV := [.row o_Gheap_Chunk 49 v_2 x_3, .cell a_1 [v_2, .int .i64 Vars_4, v_5], .row (t_Gdiff_Leq).o 39 v_5 x_6, .cell c_17 [.int .i64 0, .int .i64 0, .int .i64 0, .int .i64 0], .cell c_15 [.int .i64 index_11.Kind, .int .i64 index_11.Var, .int .i64 index_11.K, .int .i64 index_11.Block], .cell c_13 [.int .i64 p_8.Kind, .int .i64 p_8.Var, .int .i64 p_8.K, .int .i64 p_8.Block]]) (HeldOK.same [0, 1, 2, 3, 4, 5] (by decide) rfl) (fun _ k => (take_back (T := o_Gheap_Chunk) (i := i_27) (s := x_3) (e := 49) (v := v_2) (q := x_29) (C := [.cell a_1 [v_2, .int .i64 Vars_4, v_5], .row (t_Gdiff_Leq).o 39 v_5 x_6, .cell c_17 [.int .i64 0, .int .i64 0, .int .i64 0, .int .i64 0], .cell c_15 [.int .i64 index_11.Kind, .int .i64 index_11.Var, .int .i64 index_11.K, .int .i64 index_11.Block], .cell c_13 [.int .i64 p_8.Kind, .int .i64 p_8.Var, .int .i64 p_8.K, .int .i64 p_8.Block]]) ((), (), (), (), (), (), (), v_45) ⟨trivial, trivial, trivial, trivial, trivial, trivial, trivial, trivial⟩ hx_30 (Sep.select (PV' := [.hole (fun x => .elem o_Gheap_Chunk (elemAddr v_2 ((i_27).toNat * (o_Gheap_Chunk).size)) x) (fun x => .row o_Gheap_Chunk 49 v_2 (Sl.set x_3 i_27 x)), .cell (elemAddr v_2 ((i_27).toNat * (o_Gheap_Chunk).size)) [.int .i64 x_29.Origin, .int .i64 x_29.Type_, .int .i64 x_29.At, .bool x_29.Live, .bool x_29.Held, .bool x_29.Array, .int .i64 x_29.Size.Kind, .int .i64 x_29.Size.Var, .int .i64 x_29.Size.K, .int .i64 x_29.Size.Block, v_45], .row (t_Gheap_Sym).o 33 v_45 x_29.Cells, .cell a_1 [v_2, .int .i64 Vars_4, v_5], .row (t_Gdiff_Leq).o 39 v_5 x_6, .cell c_17 [.int .i64 0, .int .i64 0, .int .i64 0, .int .i64 0], .cell c_15 [.int .i64 index_11.Kind, .int .i64 index_11.Var, .int .i64 index_11.K, .int .i64 index_11.Block], .cell c_13 [.int .i64 p_8.Kind, .int .i64 p_8.Var, .int .i64 p_8.K, .int .i64 p_8.Block]]) k [0, 1, 2, 3, 4, 5, 6, 7] (by decide) rfl)))
      refine ⟨.inr hS_50, ?_⟩
      refine JA_takep 7 rfl hns (by kernel_rfl) (by kernel_rfl) rfl (.inr hS_50) rfl rfl rfl (r_fieldAddr (r := elemAddr v_45 ((index_11.K).toNat * ((t_Gheap_Sym).o).size + 0)) Try.pu33 (f := Try.pf33.getD 0 default) rfl Try.pi31 (by decide) rfl (elemAddr_add _ _ _)) ?_
      refine JA_op (i := 8) (by kernel_rfl) rfl rfl (op_reads rfl rfl (l_elem_orow (v := v_45) (T := (t_Gheap_Sym).o) (Tf := (tInt .i64)) (q := x_48) (i := index_11.K) (off := 0) 2 Try.pu31 Try.pi31 rfl rfl rfl rfl hx_49 (OFieldAt.of f_Gheap_Sym_Kind) (by decide)) ?_)
      intro v_51 h_52
      obtain rfl := tInt_v.1 h_52
      have hS_53 : HeldOK σ [.row o_Gheap_Chunk 49 v_2 x_3, .cell a_1 [v_2, .int .i64 Vars_4, v_5], .row (t_Gdiff_Leq).o 39 v_5 x_6, .cell c_17 [.int .i64 0, .int .i64 0, .int .i64 0, .int .i64 0], .cell c_15 [.int .i64 index_11.Kind, .int .i64 index_11.Var, .int .i64 index_11.K, .int .i64 index_11.Block], .cell c_13 [.int .i64 p_8.Kind, .int .i64 p_8.Var, .int .i64 p_8.K, .int .i64 p_8.Block]] σ [.hole (fun x => .elem o_Gheap_Chunk (elemAddr v_2 ((i_27).toNat * (o_Gheap_Chunk).size)) x) (fun x => .row o_Gheap_Chunk 49 v_2 (Sl.set x_3 i_27 x)), .cell (elemAddr v_2 ((i_27).toNat * (o_Gheap_Chunk).size)) [.int .i64 x_29.Origin, .int .i64 x_29.Type_, .int .i64 x_29.At, .bool x_29.Live, .bool x_29.Held, .bool x_29.Array, .int .i64 x_29.Size.Kind, .int .i64 x_29.Size.Var, .int .i64 x_29.Size.K, .int .i64 x_29.Size.Block, v_45], .row (t_Gheap_Sym).o 33 v_45 x_29.Cells, .cell a_1 [v_2, .int .i64 Vars_4, v_5], .row (t_Gdiff_Leq).o 39 v_5 x_6, .cell c_17 [.int .i64 0, .int .i64 0, .int .i64 0, .int .i64 0], .cell c_15 [.int .i64 index_11.Kind, .int .i64 index_11.Var, .int .i64 index_11.K, .int .i64 index_11.Block], .cell c_13 [.int .i64 p_8.Kind, .int .i64 p_8.Var, .int .i64 p_8.K, .int .i64 p_8.Block]] := HeldOK.view (PV := [.row o_Gheap_Chunk 49 v_2 x_3, .cell a_1 [v_2, .int .i64 Vars_4, v_5], .row (t_Gdiff_Leq).o 39 v_5 x_6, .cell c_17 [.int .i64 0, .int .i64 0, .int .i64 0, .int .i64 0], .cell c_15 [.int .i64 index_11.Kind, .int .i64 index_11.Var, .int .i64 index_11.K, .int .i64 index_11.Block], .cell c_13 [.int .i64 p_8.Kind, .int .i64 p_8.Var, .int .i64 p_8.K, .int .i64 p_8.Block]]) (HeldOK.same [0, 1, 2, 3, 4, 5] (by decide) rfl) (fun _ k => (take_back (T := o_Gheap_Chunk) (i := i_27) (s := x_3) (e := 49) (v := v_2) (q := x_29) (C := [.cell a_1 [v_2, .int .i64 Vars_4, v_5], .row (t_Gdiff_Leq).o 39 v_5 x_6, .cell c_17 [.int .i64 0, .int .i64 0, .int .i64 0, .int .i64 0], .cell c_15 [.int .i64 index_11.Kind, .int .i64 index_11.Var, .int .i64 index_11.K, .int .i64 index_11.Block], .cell c_13 [.int .i64 p_8.Kind, .int .i64 p_8.Var, .int .i64 p_8.K, .int .i64 p_8.Block]]) ((), (), (), (), (), (), (), v_45) ⟨trivial, trivial, trivial, trivial, trivial, trivial, trivial, trivial⟩ hx_30 (Sep.select (PV' := [.hole (fun x => .elem o_Gheap_Chunk (elemAddr v_2 ((i_27).toNat * (o_Gheap_Chunk).size)) x) (fun x => .row o_Gheap_Chunk 49 v_2 (Sl.set x_3 i_27 x)), .cell (elemAddr v_2 ((i_27).toNat * (o_Gheap_Chunk).size)) [.int .i64 x_29.Origin, .int .i64 x_29.Type_, .int .i64 x_29.At, .bool x_29.Live, .bool x_29.Held, .bool x_29.Array, .int .i64 x_29.Size.Kind, .int .i64 x_29.Size.Var, .int .i64 x_29.Size.K, .int .i64 x_29.Size.Block, v_45], .row (t_Gheap_Sym).o 33 v_45 x_29.Cells, .cell a_1 [v_2, .int .i64 Vars_4, v_5], .row (t_Gdiff_Leq).o 39 v_5 x_6, .cell c_17 [.int .i64 0, .int .i64 0, .int .i64 0, .int .i64 0], .cell c_15 [.int .i64 index_11.Kind, .int .i64 index_11.Var, .int .i64 index_11.K, .int .i64 index_11.Block], .cell c_13 [.int .i64 p_8.Kind, .int .i64 p_8.Var, .int .i64 p_8.K, .int .i64 p_8.Block]]) k [0, 1, 2, 3, 4, 5, 6, 7] (by decide) rfl)))
      refine ⟨.inr hS_53, ?_⟩
      refine JA_takep 9 rfl hns (by kernel_rfl) (by kernel_rfl) rfl (.inr hS_53) rfl rfl rfl (r_eql rfl rfl) ?_
      refine JA_takep 10 rfl hns (by kernel_rfl) (by kernel_rfl) rfl (.inr hS_53) rfl rfl rfl (r_assign (v := .bool (decide (x_48.Kind = 0))) rfl) ?_
      refine JA_done (by kernel_rfl) ?_
      refine J_then ?_
      refine J_cond rfl (fun hc_54 => ?_) (fun hc_54 => ?_)
      · refine J_seq ?_
        refine J_region ?_
        refine JL_op rfl (op_read rfl rfl (r_build (cs := [.int .i64 0, .int .i64 0, .int .i64 0, .int .i64 0]) (vs := []) (pcs := []) (pls := [(0, 1), (1, 1), (2, 1), (3, 1)]) Try.pu33 Try.pi33 rfl (by kernel_rfl) rfl trivial rfl) ?_)
        refine JL_op rfl (op_store_priv (a := c_17) (off := 0) (vs := [.int .i64 0, .int .i64 0, .int .i64 0, .int .i64 0]) (cs' := [.int .i64 0, .int .i64 0, .int .i64 0, .int .i64 0]) (PV' := [.hole (fun x => .elem o_Gheap_Chunk (elemAddr v_2 ((i_27).toNat * (o_Gheap_Chunk).size)) x) (fun x => .row o_Gheap_Chunk 49 v_2 (Sl.set x_3 i_27 x)), .cell (elemAddr v_2 ((i_27).toNat * (o_Gheap_Chunk).size)) [.int .i64 x_29.Origin, .int .i64 x_29.Type_, .int .i64 x_29.At, .bool x_29.Live, .bool x_29.Held, .bool x_29.Array, .int .i64 x_29.Size.Kind, .int .i64 x_29.Size.Var, .int .i64 x_29.Size.K, .int .i64 x_29.Size.Block, v_45], .row (t_Gheap_Sym).o 33 v_45 x_29.Cells, .cell a_1 [v_2, .int .i64 Vars_4, v_5], .row (t_Gdiff_Leq).o 39 v_5 x_6, .cell c_17 [.int .i64 0, .int .i64 0, .int .i64 0, .int .i64 0], .cell c_15 [.int .i64 index_11.Kind, .int .i64 index_11.Var, .int .i64 index_11.K, .int .i64 index_11.Block], .cell c_13 [.int .i64 p_8.Kind, .int .i64 p_8.Var, .int .i64 p_8.K, .int .i64 p_8.Block]]) 5 Try.pi33 rfl rfl rfl ⟨rfl, rfl, rfl, rfl, trivial⟩ rfl rfl rfl rfl rfl ?_)
        refine JL_op rfl (op_read rfl rfl (r_assign (v := .int .i64 41) rfl) ?_)
        refine JL_nil ?_
        refine J_then ?_
        refine J_ret ?_
        refine J_in_ret ?_
        refine J_then_ret ?_
        refine J_put (T := o_Gheap_Chunk) (i := i_27) (s := x_3) (s' := x_3) (A := [.row (t_Gheap_Sym).o 33 v_45 x_29.Cells]) (C := [.cell a_1 [v_2, .int .i64 Vars_4, v_5], .row (t_Gdiff_Leq).o 39 v_5 x_6, .cell c_17 [.int .i64 0, .int .i64 0, .int .i64 0, .int .i64 0], .cell c_15 [.int .i64 index_11.Kind, .int .i64 index_11.Var, .int .i64 index_11.K, .int .i64 index_11.Block], .cell c_13 [.int .i64 p_8.Kind, .int .i64 p_8.Var, .int .i64 p_8.K, .int .i64 p_8.Block]]) x_29 ((), (), (), (), (), (), (), v_45) ⟨trivial, trivial, trivial, trivial, trivial, trivial, trivial, trivial⟩ rfl rfl (Sl.set_same hx_30) ?_
        exact J_returnV2 (PV' := [.cell a_1 [v_2, .int .i64 Vars_4, v_5], .row o_Gheap_Chunk 49 v_2 x_3, .row (t_Gdiff_Leq).o 39 v_5 x_6]) rfl (rv_cell (cs := [.int .i64 0, .int .i64 0, .int .i64 0, .int .i64 0]) (v := .agg #[.int .i64 0, .int .i64 0, .int .i64 0, .int .i64 0]) 3 Try.pu33 Try.pi33 rfl rfl rfl (by decide) rfl) rv_tmp [1, 0, 2] (by decide) rfl ⟨v_5, rfl, rfl, rfl⟩
      · refine J_skip ?_
        refine J_in_normal ?_
        refine J_then ?_
        refine J_seq ?_
        refine J_put (T := o_Gheap_Chunk) (i := i_27) (s := x_3) (s' := x_3) (A := [.row (t_Gheap_Sym).o 33 v_45 x_29.Cells]) (C := [.cell a_1 [v_2, .int .i64 Vars_4, v_5], .row (t_Gdiff_Leq).o 39 v_5 x_6, .cell c_17 [.int .i64 0, .int .i64 0, .int .i64 0, .int .i64 0], .cell c_15 [.int .i64 index_11.Kind, .int .i64 index_11.Var, .int .i64 index_11.K, .int .i64 index_11.Block], .cell c_13 [.int .i64 p_8.Kind, .int .i64 p_8.Var, .int .i64 p_8.K, .int .i64 p_8.Block]]) x_29 ((), (), (), (), (), (), (), v_45) ⟨trivial, trivial, trivial, trivial, trivial, trivial, trivial, trivial⟩ rfl rfl (Sl.set_same hx_30) ?_
        refine J_region_any 8 [.row o_Gheap_Chunk 49 v_2 x_3, .cell a_1 [v_2, .int .i64 Vars_4, v_5], .row (t_Gdiff_Leq).o 39 v_5 x_6, .cell c_17 [.int .i64 0, .int .i64 0, .int .i64 0, .int .i64 0], .cell c_15 [.int .i64 index_11.Kind, .int .i64 index_11.Var, .int .i64 index_11.K, .int .i64 index_11.Block], .cell c_13 [.int .i64 p_8.Kind, .int .i64 p_8.Var, .int .i64 p_8.K, .int .i64 p_8.Block]] Try.mixed (by kernel_rfl) fun hns => ?_
        refine JA_takep 0 rfl hns (by kernel_rfl) (by kernel_rfl) rfl (.inr (by exact HeldOK.same [0, 1, 2, 3, 4, 5] (by decide) rfl)) rfl rfl rfl (r_move (v := peOpt v_2 (o_Gheap_Chunk).size r_19.1) rfl) ?_
        refine JA_takep 1 rfl hns (by kernel_rfl) (by kernel_rfl) rfl (.inr (by exact HeldOK.same [0, 1, 2, 3, 4, 5] (by decide) rfl)) rfl rfl rfl (r_nilCheck_opt (i := i_27) rfl hi_28) ?_
        refine JA_takep 2 rfl hns (by kernel_rfl) (by kernel_rfl) rfl (.inr (by exact HeldOK.same [0, 1, 2, 3, 4, 5] (by decide) rfl)) rfl rfl rfl (r_fieldAddr (r := elemAddr v_2 ((i_27).toNat * (o_Gheap_Chunk).size + 10)) Try.pu49 (f := Try.pf49.getD 7 default) rfl Try.pi23 (by decide) rfl (elemAddr_add _ _ _)) ?_
        refine JA_takep 4 rfl hns (by kernel_rfl) (by kernel_rfl) rfl (.inr (by exact HeldOK.same [0, 1, 2, 3, 4, 5] (by decide) rfl)) rfl rfl rfl (r_fieldAddr (r := Addr.add c_15 2) Try.pu33 (f := Try.pf33.getD 2 default) rfl Try.pi2 (by decide) rfl (Addr.add_add _ _ _)) ?_
        refine JA_take 5 rfl hns (by kernel_rfl) (by kernel_rfl) (by kernel_rfl) rfl (by kernel_rfl) (by exact HeldOK.same [0, 1, 2, 3, 4, 5] (by decide) rfl) rfl rfl rfl (r_load_priv (a := c_15) (off := 2) (cs' := [.int .i64 index_11.K]) (v := .int .i64 index_11.K) 4 Try.pu2 Try.pi2 rfl rfl rfl rfl (by decide) rfl) ?_
        refine J_take (T := o_Gheap_Chunk) (i := i_27) hx_30 fun u_57 hu_56 => ?_
        obtain ⟨_, _, _, _, _, _, _, v_58⟩ := u_57
        change J _ _ _ _ _ _ _ _ [.hole (fun x => .elem o_Gheap_Chunk (elemAddr v_2 ((i_27).toNat * (o_Gheap_Chunk).size)) x) (fun x => .row o_Gheap_Chunk 49 v_2 (Sl.set x_3 i_27 x)), .cell (elemAddr v_2 ((i_27).toNat * (o_Gheap_Chunk).size)) [.int .i64 x_29.Origin, .int .i64 x_29.Type_, .int .i64 x_29.At, .bool x_29.Live, .bool x_29.Held, .bool x_29.Array, .int .i64 x_29.Size.Kind, .int .i64 x_29.Size.Var, .int .i64 x_29.Size.K, .int .i64 x_29.Size.Block, v_58], .row (t_Gheap_Sym).o 33 v_58 x_29.Cells, .cell a_1 [v_2, .int .i64 Vars_4, v_5], .row (t_Gdiff_Leq).o 39 v_5 x_6, .cell c_17 [.int .i64 0, .int .i64 0, .int .i64 0, .int .i64 0], .cell c_15 [.int .i64 index_11.Kind, .int .i64 index_11.Var, .int .i64 index_11.K, .int .i64 index_11.Block], .cell c_13 [.int .i64 p_8.Kind, .int .i64 p_8.Var, .int .i64 p_8.K, .int .i64 p_8.Block]]
        have hS_59 : HeldOK σ [.row o_Gheap_Chunk 49 v_2 x_3, .cell a_1 [v_2, .int .i64 Vars_4, v_5], .row (t_Gdiff_Leq).o 39 v_5 x_6, .cell c_17 [.int .i64 0, .int .i64 0, .int .i64 0, .int .i64 0], .cell c_15 [.int .i64 index_11.Kind, .int .i64 index_11.Var, .int .i64 index_11.K, .int .i64 index_11.Block], .cell c_13 [.int .i64 p_8.Kind, .int .i64 p_8.Var, .int .i64 p_8.K, .int .i64 p_8.Block]] σ [.hole (fun x => .elem o_Gheap_Chunk (elemAddr v_2 ((i_27).toNat * (o_Gheap_Chunk).size)) x) (fun x => .row o_Gheap_Chunk 49 v_2 (Sl.set x_3 i_27 x)), .cell (elemAddr v_2 ((i_27).toNat * (o_Gheap_Chunk).size)) [.int .i64 x_29.Origin, .int .i64 x_29.Type_, .int .i64 x_29.At, .bool x_29.Live, .bool x_29.Held, .bool x_29.Array, .int .i64 x_29.Size.Kind, .int .i64 x_29.Size.Var, .int .i64 x_29.Size.K, .int .i64 x_29.Size.Block, v_58], .row (t_Gheap_Sym).o 33 v_58 x_29.Cells, .cell a_1 [v_2, .int .i64 Vars_4, v_5], .row (t_Gdiff_Leq).o 39 v_5 x_6, .cell c_17 [.int .i64 0, .int .i64 0, .int .i64 0, .int .i64 0], .cell c_15 [.int .i64 index_11.Kind, .int .i64 index_11.Var, .int .i64 index_11.K, .int .i64 index_11.Block], .cell c_13 [.int .i64 p_8.Kind, .int .i64 p_8.Var, .int .i64 p_8.K, .int .i64 p_8.Block]] := HeldOK.view (PV := [.row o_Gheap_Chunk 49 v_2 x_3, .cell a_1 [v_2, .int .i64 Vars_4, v_5], .row (t_Gdiff_Leq).o 39 v_5 x_6, .cell c_17 [.int .i64 0, .int .i64 0, .int .i64 0, .int .i64 0], .cell c_15 [.int .i64 index_11.Kind, .int .i64 index_11.Var, .int .i64 index_11.K, .int .i64 index_11.Block], .cell c_13 [.int .i64 p_8.Kind, .int .i64 p_8.Var, .int .i64 p_8.K, .int .i64 p_8.Block]]) (HeldOK.same [0, 1, 2, 3, 4, 5] (by decide) rfl) (fun _ k => (take_back (T := o_Gheap_Chunk) (i := i_27) (s := x_3) (e := 49) (v := v_2) (q := x_29) (C := [.cell a_1 [v_2, .int .i64 Vars_4, v_5], .row (t_Gdiff_Leq).o 39 v_5 x_6, .cell c_17 [.int .i64 0, .int .i64 0, .int .i64 0, .int .i64 0], .cell c_15 [.int .i64 index_11.Kind, .int .i64 index_11.Var, .int .i64 index_11.K, .int .i64 index_11.Block], .cell c_13 [.int .i64 p_8.Kind, .int .i64 p_8.Var, .int .i64 p_8.K, .int .i64 p_8.Block]]) ((), (), (), (), (), (), (), v_58) ⟨trivial, trivial, trivial, trivial, trivial, trivial, trivial, trivial⟩ hx_30 (Sep.select (PV' := [.hole (fun x => .elem o_Gheap_Chunk (elemAddr v_2 ((i_27).toNat * (o_Gheap_Chunk).size)) x) (fun x => .row o_Gheap_Chunk 49 v_2 (Sl.set x_3 i_27 x)), .cell (elemAddr v_2 ((i_27).toNat * (o_Gheap_Chunk).size)) [.int .i64 x_29.Origin, .int .i64 x_29.Type_, .int .i64 x_29.At, .bool x_29.Live, .bool x_29.Held, .bool x_29.Array, .int .i64 x_29.Size.Kind, .int .i64 x_29.Size.Var, .int .i64 x_29.Size.K, .int .i64 x_29.Size.Block, v_58], .row (t_Gheap_Sym).o 33 v_58 x_29.Cells, .cell a_1 [v_2, .int .i64 Vars_4, v_5], .row (t_Gdiff_Leq).o 39 v_5 x_6, .cell c_17 [.int .i64 0, .int .i64 0, .int .i64 0, .int .i64 0], .cell c_15 [.int .i64 index_11.Kind, .int .i64 index_11.Var, .int .i64 index_11.K, .int .i64 index_11.Block], .cell c_13 [.int .i64 p_8.Kind, .int .i64 p_8.Var, .int .i64 p_8.K, .int .i64 p_8.Block]]) k [0, 1, 2, 3, 4, 5, 6, 7] (by decide) rfl)))
        refine JA_op (i := 3) (by kernel_rfl) rfl rfl (op_read rfl rfl (r_load_priv (a := (elemAddr v_2 ((i_27).toNat * (o_Gheap_Chunk).size))) (off := 10) (cs' := [v_58]) (v := v_58) 1 Try.pu23 Try.pi23 (pe_add v_2 ((i_27).toNat * (o_Gheap_Chunk).size) 10) rfl rfl rfl (by decide) rfl) ?_)
        have hS_60 : HeldOK σ [.row o_Gheap_Chunk 49 v_2 x_3, .cell a_1 [v_2, .int .i64 Vars_4, v_5], .row (t_Gdiff_Leq).o 39 v_5 x_6, .cell c_17 [.int .i64 0, .int .i64 0, .int .i64 0, .int .i64 0], .cell c_15 [.int .i64 index_11.Kind, .int .i64 index_11.Var, .int .i64 index_11.K, .int .i64 index_11.Block], .cell c_13 [.int .i64 p_8.Kind, .int .i64 p_8.Var, .int .i64 p_8.K, .int .i64 p_8.Block]] σ [.hole (fun x => .elem o_Gheap_Chunk (elemAddr v_2 ((i_27).toNat * (o_Gheap_Chunk).size)) x) (fun x => .row o_Gheap_Chunk 49 v_2 (Sl.set x_3 i_27 x)), .cell (elemAddr v_2 ((i_27).toNat * (o_Gheap_Chunk).size)) [.int .i64 x_29.Origin, .int .i64 x_29.Type_, .int .i64 x_29.At, .bool x_29.Live, .bool x_29.Held, .bool x_29.Array, .int .i64 x_29.Size.Kind, .int .i64 x_29.Size.Var, .int .i64 x_29.Size.K, .int .i64 x_29.Size.Block, v_58], .row (t_Gheap_Sym).o 33 v_58 x_29.Cells, .cell a_1 [v_2, .int .i64 Vars_4, v_5], .row (t_Gdiff_Leq).o 39 v_5 x_6, .cell c_17 [.int .i64 0, .int .i64 0, .int .i64 0, .int .i64 0], .cell c_15 [.int .i64 index_11.Kind, .int .i64 index_11.Var, .int .i64 index_11.K, .int .i64 index_11.Block], .cell c_13 [.int .i64 p_8.Kind, .int .i64 p_8.Var, .int .i64 p_8.K, .int .i64 p_8.Block]] := HeldOK.view (PV := [.row o_Gheap_Chunk 49 v_2 x_3, .cell a_1 [v_2, .int .i64 Vars_4, v_5], .row (t_Gdiff_Leq).o 39 v_5 x_6, .cell c_17 [.int .i64 0, .int .i64 0, .int .i64 0, .int .i64 0], .cell c_15 [.int .i64 index_11.Kind, .int .i64 index_11.Var, .int .i64 index_11.K, .int .i64 index_11.Block], .cell c_13 [.int .i64 p_8.Kind, .int .i64 p_8.Var, .int .i64 p_8.K, .int .i64 p_8.Block]]) (HeldOK.same [0, 1, 2, 3, 4, 5] (by decide) rfl) (fun _ k => (take_back (T := o_Gheap_Chunk) (i := i_27) (s := x_3) (e := 49) (v := v_2) (q := x_29) (C := [.cell a_1 [v_2, .int .i64 Vars_4, v_5], .row (t_Gdiff_Leq).o 39 v_5 x_6, .cell c_17 [.int .i64 0, .int .i64 0, .int .i64 0, .int .i64 0], .cell c_15 [.int .i64 index_11.Kind, .int .i64 index_11.Var, .int .i64 index_11.K, .int .i64 index_11.Block], .cell c_13 [.int .i64 p_8.Kind, .int .i64 p_8.Var, .int .i64 p_8.K, .int .i64 p_8.Block]]) ((), (), (), (), (), (), (), v_58) ⟨trivial, trivial, trivial, trivial, trivial, trivial, trivial, trivial⟩ hx_30 (Sep.select (PV' := [.hole (fun x => .elem o_Gheap_Chunk (elemAddr v_2 ((i_27).toNat * (o_Gheap_Chunk).size)) x) (fun x => .row o_Gheap_Chunk 49 v_2 (Sl.set x_3 i_27 x)), .cell (elemAddr v_2 ((i_27).toNat * (o_Gheap_Chunk).size)) [.int .i64 x_29.Origin, .int .i64 x_29.Type_, .int .i64 x_29.At, .bool x_29.Live, .bool x_29.Held, .bool x_29.Array, .int .i64 x_29.Size.Kind, .int .i64 x_29.Size.Var, .int .i64 x_29.Size.K, .int .i64 x_29.Size.Block, v_58], .row (t_Gheap_Sym).o 33 v_58 x_29.Cells, .cell a_1 [v_2, .int .i64 Vars_4, v_5], .row (t_Gdiff_Leq).o 39 v_5 x_6, .cell c_17 [.int .i64 0, .int .i64 0, .int .i64 0, .int .i64 0], .cell c_15 [.int .i64 index_11.Kind, .int .i64 index_11.Var, .int .i64 index_11.K, .int .i64 index_11.Block], .cell c_13 [.int .i64 p_8.Kind, .int .i64 p_8.Var, .int .i64 p_8.K, .int .i64 p_8.Block]]) k [0, 1, 2, 3, 4, 5, 6, 7] (by decide) rfl)))
        refine ⟨.inr hS_60, ?_⟩
        refine JA_op (i := 6) (by kernel_rfl) rfl rfl (op_read rfl rfl (r_index_row (v := v_58) (T := (t_Gheap_Sym).o) (q := x_48) 2 Try.pu23 Try.pi33 rfl rfl rfl rfl hx_49) ?_)
        have hS_61 : HeldOK σ [.row o_Gheap_Chunk 49 v_2 x_3, .cell a_1 [v_2, .int .i64 Vars_4, v_5], .row (t_Gdiff_Leq).o 39 v_5 x_6, .cell c_17 [.int .i64 0, .int .i64 0, .int .i64 0, .int .i64 0], .cell c_15 [.int .i64 index_11.Kind, .int .i64 index_11.Var, .int .i64 index_11.K, .int .i64 index_11.Block], .cell c_13 [.int .i64 p_8.Kind, .int .i64 p_8.Var, .int .i64 p_8.K, .int .i64 p_8.Block]] σ [.hole (fun x => .elem o_Gheap_Chunk (elemAddr v_2 ((i_27).toNat * (o_Gheap_Chunk).size)) x) (fun x => .row o_Gheap_Chunk 49 v_2 (Sl.set x_3 i_27 x)), .cell (elemAddr v_2 ((i_27).toNat * (o_Gheap_Chunk).size)) [.int .i64 x_29.Origin, .int .i64 x_29.Type_, .int .i64 x_29.At, .bool x_29.Live, .bool x_29.Held, .bool x_29.Array, .int .i64 x_29.Size.Kind, .int .i64 x_29.Size.Var, .int .i64 x_29.Size.K, .int .i64 x_29.Size.Block, v_58], .row (t_Gheap_Sym).o 33 v_58 x_29.Cells, .cell a_1 [v_2, .int .i64 Vars_4, v_5], .row (t_Gdiff_Leq).o 39 v_5 x_6, .cell c_17 [.int .i64 0, .int .i64 0, .int .i64 0, .int .i64 0], .cell c_15 [.int .i64 index_11.Kind, .int .i64 index_11.Var, .int .i64 index_11.K, .int .i64 index_11.Block], .cell c_13 [.int .i64 p_8.Kind, .int .i64 p_8.Var, .int .i64 p_8.K, .int .i64 p_8.Block]] := HeldOK.view (PV := [.row o_Gheap_Chunk 49 v_2 x_3, .cell a_1 [v_2, .int .i64 Vars_4, v_5], .row (t_Gdiff_Leq).o 39 v_5 x_6, .cell c_17 [.int .i64 0, .int .i64 0, .int .i64 0, .int .i64 0], .cell c_15 [.int .i64 index_11.Kind, .int .i64 index_11.Var, .int .i64 index_11.K, .int .i64 index_11.Block], .cell c_13 [.int .i64 p_8.Kind, .int .i64 p_8.Var, .int .i64 p_8.K, .int .i64 p_8.Block]]) (HeldOK.same [0, 1, 2, 3, 4, 5] (by decide) rfl) (fun _ k => (take_back (T := o_Gheap_Chunk) (i := i_27) (s := x_3) (e := 49) (v := v_2) (q := x_29) (C := [.cell a_1 [v_2, .int .i64 Vars_4, v_5], .row (t_Gdiff_Leq).o 39 v_5 x_6, .cell c_17 [.int .i64 0, .int .i64 0, .int .i64 0, .int .i64 0], .cell c_15 [.int .i64 index_11.Kind, .int .i64 index_11.Var, .int .i64 index_11.K, .int .i64 index_11.Block], .cell c_13 [.int .i64 p_8.Kind, .int .i64 p_8.Var, .int .i64 p_8.K, .int .i64 p_8.Block]]) ((), (), (), (), (), (), (), v_58) ⟨trivial, trivial, trivial, trivial, trivial, trivial, trivial, trivial⟩ hx_30 (Sep.select (PV' := [.hole (fun x => .elem o_Gheap_Chunk (elemAddr v_2 ((i_27).toNat * (o_Gheap_Chunk).size)) x) (fun x => .row o_Gheap_Chunk 49 v_2 (Sl.set x_3 i_27 x)), .cell (elemAddr v_2 ((i_27).toNat * (o_Gheap_Chunk).size)) [.int .i64 x_29.Origin, .int .i64 x_29.Type_, .int .i64 x_29.At, .bool x_29.Live, .bool x_29.Held, .bool x_29.Array, .int .i64 x_29.Size.Kind, .int .i64 x_29.Size.Var, .int .i64 x_29.Size.K, .int .i64 x_29.Size.Block, v_58], .row (t_Gheap_Sym).o 33 v_58 x_29.Cells, .cell a_1 [v_2, .int .i64 Vars_4, v_5], .row (t_Gdiff_Leq).o 39 v_5 x_6, .cell c_17 [.int .i64 0, .int .i64 0, .int .i64 0, .int .i64 0], .cell c_15 [.int .i64 index_11.Kind, .int .i64 index_11.Var, .int .i64 index_11.K, .int .i64 index_11.Block], .cell c_13 [.int .i64 p_8.Kind, .int .i64 p_8.Var, .int .i64 p_8.K, .int .i64 p_8.Block]]) k [0, 1, 2, 3, 4, 5, 6, 7] (by decide) rfl)))
        refine ⟨.inr hS_61, ?_⟩
        refine JA_op (i := 7) (by kernel_rfl) rfl rfl (op_reads rfl rfl (l_elem_orow (v := v_58) (T := (t_Gheap_Sym).o) (Tf := t_Gheap_Sym) (q := x_48) (i := index_11.K) (off := 0) 2 Try.pu33 Try.pi33 rfl rfl rfl rfl hx_49 (OFieldAt.self (T := (t_Gheap_Sym).o)) (by decide)) ?_)
        intro v_62 h_63
        obtain rfl := t_Gheap_Sym_v.1 h_63
        have hS_64 : HeldOK σ [.row o_Gheap_Chunk 49 v_2 x_3, .cell a_1 [v_2, .int .i64 Vars_4, v_5], .row (t_Gdiff_Leq).o 39 v_5 x_6, .cell c_17 [.int .i64 0, .int .i64 0, .int .i64 0, .int .i64 0], .cell c_15 [.int .i64 index_11.Kind, .int .i64 index_11.Var, .int .i64 index_11.K, .int .i64 index_11.Block], .cell c_13 [.int .i64 p_8.Kind, .int .i64 p_8.Var, .int .i64 p_8.K, .int .i64 p_8.Block]] σ [.hole (fun x => .elem o_Gheap_Chunk (elemAddr v_2 ((i_27).toNat * (o_Gheap_Chunk).size)) x) (fun x => .row o_Gheap_Chunk 49 v_2 (Sl.set x_3 i_27 x)), .cell (elemAddr v_2 ((i_27).toNat * (o_Gheap_Chunk).size)) [.int .i64 x_29.Origin, .int .i64 x_29.Type_, .int .i64 x_29.At, .bool x_29.Live, .bool x_29.Held, .bool x_29.Array, .int .i64 x_29.Size.Kind, .int .i64 x_29.Size.Var, .int .i64 x_29.Size.K, .int .i64 x_29.Size.Block, v_58], .row (t_Gheap_Sym).o 33 v_58 x_29.Cells, .cell a_1 [v_2, .int .i64 Vars_4, v_5], .row (t_Gdiff_Leq).o 39 v_5 x_6, .cell c_17 [.int .i64 0, .int .i64 0, .int .i64 0, .int .i64 0], .cell c_15 [.int .i64 index_11.Kind, .int .i64 index_11.Var, .int .i64 index_11.K, .int .i64 index_11.Block], .cell c_13 [.int .i64 p_8.Kind, .int .i64 p_8.Var, .int .i64 p_8.K, .int .i64 p_8.Block]] := HeldOK.view (PV := [.row o_Gheap_Chunk 49 v_2 x_3, .cell a_1 [v_2, .int .i64 Vars_4, v_5], .row (t_Gdiff_Leq).o 39 v_5 x_6, .cell c_17 [.int .i64 0, .int .i64 0, .int .i64 0, .int .i64 0], .cell c_15 [.int .i64 index_11.Kind, .int .i64 index_11.Var, .int .i64 index_11.K, .int .i64 index_11.Block], .cell c_13 [.int .i64 p_8.Kind, .int .i64 p_8.Var, .int .i64 p_8.K, .int .i64 p_8.Block]]) (HeldOK.same [0, 1, 2, 3, 4, 5] (by decide) rfl) (fun _ k => (take_back (T := o_Gheap_Chunk) (i := i_27) (s := x_3) (e := 49) (v := v_2) (q := x_29) (C := [.cell a_1 [v_2, .int .i64 Vars_4, v_5], .row (t_Gdiff_Leq).o 39 v_5 x_6, .cell c_17 [.int .i64 0, .int .i64 0, .int .i64 0, .int .i64 0], .cell c_15 [.int .i64 index_11.Kind, .int .i64 index_11.Var, .int .i64 index_11.K, .int .i64 index_11.Block], .cell c_13 [.int .i64 p_8.Kind, .int .i64 p_8.Var, .int .i64 p_8.K, .int .i64 p_8.Block]]) ((), (), (), (), (), (), (), v_58) ⟨trivial, trivial, trivial, trivial, trivial, trivial, trivial, trivial⟩ hx_30 (Sep.select (PV' := [.hole (fun x => .elem o_Gheap_Chunk (elemAddr v_2 ((i_27).toNat * (o_Gheap_Chunk).size)) x) (fun x => .row o_Gheap_Chunk 49 v_2 (Sl.set x_3 i_27 x)), .cell (elemAddr v_2 ((i_27).toNat * (o_Gheap_Chunk).size)) [.int .i64 x_29.Origin, .int .i64 x_29.Type_, .int .i64 x_29.At, .bool x_29.Live, .bool x_29.Held, .bool x_29.Array, .int .i64 x_29.Size.Kind, .int .i64 x_29.Size.Var, .int .i64 x_29.Size.K, .int .i64 x_29.Size.Block, v_58], .row (t_Gheap_Sym).o 33 v_58 x_29.Cells, .cell a_1 [v_2, .int .i64 Vars_4, v_5], .row (t_Gdiff_Leq).o 39 v_5 x_6, .cell c_17 [.int .i64 0, .int .i64 0, .int .i64 0, .int .i64 0], .cell c_15 [.int .i64 index_11.Kind, .int .i64 index_11.Var, .int .i64 index_11.K, .int .i64 index_11.Block], .cell c_13 [.int .i64 p_8.Kind, .int .i64 p_8.Var, .int .i64 p_8.K, .int .i64 p_8.Block]]) k [0, 1, 2, 3, 4, 5, 6, 7] (by decide) rfl)))
        refine ⟨.inr hS_64, ?_⟩
        refine JA_op (i := 8) (by kernel_rfl) rfl rfl (op_store_priv (a := c_17) (off := 0) (vs := [.int .i64 x_48.Kind, .int .i64 x_48.Var, .int .i64 x_48.K, .int .i64 x_48.Block]) (cs' := [.int .i64 x_48.Kind, .int .i64 x_48.Var, .int .i64 x_48.K, .int .i64 x_48.Block]) (PV' := [.hole (fun x => .elem o_Gheap_Chunk (elemAddr v_2 ((i_27).toNat * (o_Gheap_Chunk).size)) x) (fun x => .row o_Gheap_Chunk 49 v_2 (Sl.set x_3 i_27 x)), .cell (elemAddr v_2 ((i_27).toNat * (o_Gheap_Chunk).size)) [.int .i64 x_29.Origin, .int .i64 x_29.Type_, .int .i64 x_29.At, .bool x_29.Live, .bool x_29.Held, .bool x_29.Array, .int .i64 x_29.Size.Kind, .int .i64 x_29.Size.Var, .int .i64 x_29.Size.K, .int .i64 x_29.Size.Block, v_58], .row (t_Gheap_Sym).o 33 v_58 x_29.Cells, .cell a_1 [v_2, .int .i64 Vars_4, v_5], .row (t_Gdiff_Leq).o 39 v_5 x_6, .cell c_17 [.int .i64 x_48.Kind, .int .i64 x_48.Var, .int .i64 x_48.K, .int .i64 x_48.Block], .cell c_15 [.int .i64 index_11.Kind, .int .i64 index_11.Var, .int .i64 index_11.K, .int .i64 index_11.Block], .cell c_13 [.int .i64 p_8.Kind, .int .i64 p_8.Var, .int .i64 p_8.K, .int .i64 p_8.Block]]) 5 Try.pi33 rfl rfl rfl ⟨rfl, rfl, rfl, rfl, trivial⟩ rfl rfl rfl rfl rfl ?_)
        refine ⟨.inl (.inl rfl), ?_⟩
        refine JA_takep 9 rfl hns (by kernel_rfl) (by kernel_rfl) rfl (.inl rfl) rfl rfl rfl (r_assign (v := .int .i64 0) rfl) ?_
        refine JA_done (by kernel_rfl) ?_
        refine J_then ?_
        refine J_ret ?_
        refine J_put (T := o_Gheap_Chunk) (i := i_27) (s := x_3) (s' := x_3) (A := [.row (t_Gheap_Sym).o 33 v_58 x_29.Cells]) (C := [.cell a_1 [v_2, .int .i64 Vars_4, v_5], .row (t_Gdiff_Leq).o 39 v_5 x_6, .cell c_17 [.int .i64 x_48.Kind, .int .i64 x_48.Var, .int .i64 x_48.K, .int .i64 x_48.Block], .cell c_15 [.int .i64 index_11.Kind, .int .i64 index_11.Var, .int .i64 index_11.K, .int .i64 index_11.Block], .cell c_13 [.int .i64 p_8.Kind, .int .i64 p_8.Var, .int .i64 p_8.K, .int .i64 p_8.Block]]) x_29 ((), (), (), (), (), (), (), v_58) ⟨trivial, trivial, trivial, trivial, trivial, trivial, trivial, trivial⟩ rfl rfl (Sl.set_same hx_30) ?_
        exact J_returnV2 (PV' := [.cell a_1 [v_2, .int .i64 Vars_4, v_5], .row o_Gheap_Chunk 49 v_2 x_3, .row (t_Gdiff_Leq).o 39 v_5 x_6]) rfl (rv_cell (cs := [.int .i64 x_48.Kind, .int .i64 x_48.Var, .int .i64 x_48.K, .int .i64 x_48.Block]) (v := .agg #[.int .i64 x_48.Kind, .int .i64 x_48.Var, .int .i64 x_48.K, .int .i64 x_48.Block]) 3 Try.pu33 Try.pi33 rfl rfl rfl (by decide) rfl) rv_tmp [1, 0, 2] (by decide) rfl ⟨v_5, rfl, rfl, rfl⟩
def heap_Heap_lock_post (σ0 : FS) (a_1 : Addr) (v_2 : Value) (x_3 : Sl Gheap_Chunk) (Vars_4 : Int) (v_5 : Value) (x_6 : Sl Gdiff_Leq) (v_7 : Value) (p_8 : Gheap_Sym) (n_10 : Int) (held_11 : Bool) (r : (Option Int) × Int) (σ : FS) (PV : List Priv) (v : Value) : Prop :=
  σ0 = σ ∧ .tuple #[peOpt v_2 (o_Gheap_Chunk).size r.1, .int .i64 r.2] = v ∧ PV = [.row o_Gheap_Chunk 49 v_2 x_3, .cell a_1 [v_2, .int .i64 Vars_4, v_5], .row (t_Gdiff_Leq).o 39 v_5 x_6]
set_option maxRecDepth 100000 in
theorem heap_Heap_lock_ref (s : Start) (σ : FS) (a_1 : Addr) (v_2 : Value) (x_3 : Sl Gheap_Chunk) (Vars_4 : Int) (v_5 : Value) (x_6 : Sl Gdiff_Leq) (v_7 : Value) (p_8 : Gheap_Sym) (h_9 : t_Gheap_Sym.vrel σ v_7 p_8) (n_10 : Int) (held_11 : Bool) (hs : Pre s σ [.cell a_1 [v_2, .int .i64 Vars_4, v_5], .row o_Gheap_Chunk 49 v_2 x_3, .row (t_Gdiff_Leq).o 39 v_5 x_6]) (r : (Option Int) × Int) (hr : heap_Heap_lock x_3 Vars_4 x_6 p_8 n_10 held_11 = some r) : Does Try.prog 54 [.pointer (some (Addr.add a_1 0)), v_7, .int .i64 n_10, .bool held_11] s σ (heap_Heap_lock_post σ a_1 v_2 x_3 Vars_4 v_5 x_6 v_7 p_8 n_10 held_11 r) := by
  unfold heap_Heap_lock at hr
  obtain rfl := t_Gheap_Sym_v.1 h_9
  refine does_of_J Try.func54 rfl (n := 44) rfl rfl hs hr ?_
  refine J_seq ?_
  refine J_region ?_
  refine JL_op rfl (op_box (cs := [.int .i64 p_8.Kind, .int .i64 p_8.Var, .int .i64 p_8.K, .int .i64 p_8.Block]) rfl rfl ?_)
  intro c_12
  refine JL_op rfl (op_read rfl rfl (r_assign (v := .pointer none) rfl) ?_)
  refine JL_op rfl (op_read rfl rfl (r_assign (v := .int .i64 0) rfl) ?_)
  refine JL_nil ?_
  refine J_then ?_
  refine J_seq ?_
  refine J_region ?_
  refine JL_op rfl (op_read rfl rfl (r_move (v := .pointer (some (Addr.add a_1 0))) rfl) ?_)
  refine JL_op rfl (op_read rfl rfl (r_load_priv (a := c_12) (off := 0) (cs' := [.int .i64 p_8.Kind, .int .i64 p_8.Var, .int .i64 p_8.K, .int .i64 p_8.Block]) (v := .agg #[.int .i64 p_8.Kind, .int .i64 p_8.Var, .int .i64 p_8.K, .int .i64 p_8.Block]) 0 Try.pu33 Try.pi33 rfl rfl rfl rfl (by decide) rfl) ?_)
  refine J_front [1, 1, 1] ?_
  refine JL_op rfl (op_callN (f := 58) (fn := Try.f58) (args := [.pointer (some (Addr.add a_1 0)), .agg #[.int .i64 p_8.Kind, .int .i64 p_8.Var, .int .i64 p_8.K, .int .i64 p_8.Block]]) (post := heap_Heap_chunk_post σ a_1 v_2 x_3 Vars_4 v_5 x_6 (.agg #[.int .i64 p_8.Kind, .int .i64 p_8.Var, .int .i64 p_8.K, .int .i64 p_8.Block]) p_8) 3 rfl rfl rfl Try.func58 Try.pn58 rfl rfl (fun y st hy hpre => heap_Heap_chunk_ref st σ a_1 v_2 x_3 Vars_4 v_5 x_6 (.agg #[.int .i64 p_8.Kind, .int .i64 p_8.Var, .int .i64 p_8.K, .int .i64 p_8.Block]) p_8 (t_Gheap_Sym_v.2 rfl) hpre y hy) ?_)
  intro r_14 v_16 s_19 PV_17 hr_15 hle_20 hp_18
  obtain ⟨rfl, rfl, rfl⟩ := hp_18
  refine JL_op rfl (op_read rfl rfl (r_move (v := .tuple #[peOpt v_2 (o_Gheap_Chunk).size r_14.1, .int .i64 r_14.2]) rfl) ?_)
  refine JL_op rfl (op_read rfl rfl (r_extract (v := peOpt v_2 (o_Gheap_Chunk).size r_14.1) rfl rfl) ?_)
  refine JL_op rfl (op_read rfl rfl (r_extract (v := .int .i64 r_14.2) rfl rfl) ?_)
  refine JL_op rfl (op_read rfl rfl (r_assign (v := peOpt v_2 (o_Gheap_Chunk).size r_14.1) rfl) ?_)
  refine JL_op rfl (op_read rfl rfl (r_assign (v := .int .i64 r_14.2) rfl) ?_)
  refine JL_nil ?_
  refine J_then ?_
  refine J_seq ?_
  refine J_block ?_
  refine J_seq ?_
  refine J_region ?_
  refine JL_op rfl (op_read rfl rfl (r_move (v := .int .i64 r_14.2) rfl) ?_)
  refine JL_op rfl (op_read rfl rfl (r_neq rfl rfl) ?_)
  refine JL_op rfl (op_read rfl rfl (r_assign (v := .bool (decide (r_14.2 ≠ 0))) rfl) ?_)
  refine JL_nil ?_
  refine J_then ?_
  refine J_cond rfl (fun hc_21 => ?_) (fun hc_21 => ?_)
  · refine J_seq ?_
    refine J_region ?_
    refine JL_op rfl (op_read rfl rfl (r_move (v := .int .i64 r_14.2) rfl) ?_)
    refine JL_op rfl (op_read rfl rfl (r_assign (v := .pointer none) rfl) ?_)
    refine JL_op rfl (op_read rfl rfl (r_assign (v := .int .i64 r_14.2) rfl) ?_)
    refine JL_nil ?_
    refine J_then ?_
    refine J_ret ?_
    refine J_in_ret ?_
    refine J_then_ret ?_
    exact J_returnV2 (PV' := [.row o_Gheap_Chunk 49 v_2 x_3, .cell a_1 [v_2, .int .i64 Vars_4, v_5], .row (t_Gdiff_Leq).o 39 v_5 x_6]) rfl rv_tmp rv_tmp [0, 1, 2] (by decide) rfl ⟨rfl, rfl, rfl⟩
  · refine J_seq ?_
    refine J_region ?_
    refine JL_op rfl (op_read rfl rfl (r_move (v := peOpt v_2 (o_Gheap_Chunk).size r_14.1) rfl) ?_)
    refine J_bind fun i_22 hi_23 => ?_
    refine JL_op rfl (op_read rfl rfl (r_nilCheck_opt (i := i_22) rfl hi_23) ?_)
    refine JL_op rfl (op_read rfl rfl (r_fieldAddr (r := elemAddr v_2 ((i_22).toNat * (o_Gheap_Chunk).size + 0)) Try.pu49 (f := Try.pf49.getD 0 default) rfl Try.pi47 (by decide) rfl (elemAddr_add _ _ _)) ?_)
    refine J_bind fun x_24 hx_25 => ?_
    refine JL_op rfl (op_reads rfl rfl (l_elem_orow (v := v_2) (T := o_Gheap_Chunk) (Tf := (tInt .i64)) (q := x_24) (i := i_22) (off := 0) 0 Try.pu47 Try.pi47 rfl rfl rfl rfl hx_25 of_Gheap_Chunk_Origin (by decide)) ?_)
    intro v_26 h_27
    obtain rfl := tInt_v.1 h_27
    refine JL_op rfl (op_read rfl rfl (r_neq rfl rfl) ?_)
    refine JL_op rfl (op_read rfl rfl (r_move (v := .bool (decide (x_24.Origin ≠ 6))) rfl) ?_)
    refine J_forkL (e := (decide (x_24.Origin ≠ 6))) 7 [(2, .int .i64 n_10), (10, peOpt v_2 (o_Gheap_Chunk).size r_14.1), (35, .bool (decide (x_24.Origin ≠ 6) || (x_24.Held != held_11)))] (fun hc_28 hk => ?_) (fun hc_28 hk => ?_) (fun b => ?_)
    · refine JL_skip rfl rfl hc_28 rfl rfl ?_
      refine JL_skip rfl rfl hc_28 rfl rfl ?_
      refine JL_skip rfl rfl hc_28 rfl rfl ?_
      refine JL_skip rfl rfl hc_28 rfl rfl ?_
      refine JL_skip rfl rfl hc_28 rfl rfl ?_
      refine JL_skip rfl rfl hc_28 rfl rfl ?_
      refine JL_op rfl (op_read rfl rfl (r_pick_t (v := .bool true) rfl hc_28 rfl) ?_)
      refine J_prune [(2, .int .i64 n_10), (10, peOpt v_2 (o_Gheap_Chunk).size r_14.1), (35, .bool (decide (x_24.Origin ≠ 6) || (x_24.Held != held_11)))] ⟨rfl, rfl, (by show Value.bool _ = Value.bool _; rw [hc_28]; rfl), trivial⟩ hk
    · refine JL_opg rfl rfl hc_28 (op_read rfl rfl (r_move (v := peOpt v_2 (o_Gheap_Chunk).size r_14.1) rfl) ?_)
      refine JL_opg rfl rfl hc_28 (op_read rfl rfl (r_nilCheck_opt (i := i_22) rfl hi_23) ?_)
      refine JL_opg rfl rfl hc_28 (op_read rfl rfl (r_fieldAddr (r := elemAddr v_2 ((i_22).toNat * (o_Gheap_Chunk).size + 4)) Try.pu49 (f := Try.pf49.getD 4 default) rfl Try.pi4 (by decide) rfl (elemAddr_add _ _ _)) ?_)
      refine JL_opg rfl rfl hc_28 (op_reads rfl rfl (l_elem_orow (v := v_2) (T := o_Gheap_Chunk) (Tf := tBool) (q := x_24) (i := i_22) (off := 4) 0 Try.pu4 Try.pi4 rfl rfl rfl rfl hx_25 of_Gheap_Chunk_Held (by decide)) ?_)
      intro v_29 h_30
      obtain rfl := tBool_v.1 h_30
      refine JL_opg rfl rfl hc_28 (op_read rfl rfl (r_move (v := .bool held_11) rfl) ?_)
      refine JL_opg rfl rfl hc_28 (op_read rfl rfl (r_bneq Try.pu4 rfl rfl) ?_)
      refine JL_op rfl (op_read rfl rfl (r_pick_f (v := .bool (x_24.Held != held_11)) rfl hc_28 rfl) ?_)
      refine J_prune [(2, .int .i64 n_10), (10, peOpt v_2 (o_Gheap_Chunk).size r_14.1), (35, .bool (decide (x_24.Origin ≠ 6) || (x_24.Held != held_11)))] ⟨rfl, rfl, (by show Value.bool _ = Value.bool _; rw [hc_28]; rfl), trivial⟩ hk
    · refine JL_op rfl (op_read rfl rfl (r_assign (v := .bool (decide (x_24.Origin ≠ 6) || (x_24.Held != held_11))) rfl) ?_)
      refine JL_nil ?_
      refine J_then ?_
      refine J_cond rfl (fun hc_31 => ?_) (fun hc_31 => ?_)
      · refine J_seq ?_
        refine J_region ?_
        refine JL_op rfl (op_read rfl rfl (r_assign (v := .pointer none) rfl) ?_)
        refine JL_op rfl (op_read rfl rfl (r_assign (v := .int .i64 45) rfl) ?_)
        refine JL_nil ?_
        refine J_then ?_
        refine J_ret ?_
        refine J_in_ret ?_
        refine J_then_ret ?_
        exact J_returnV2 (PV' := [.row o_Gheap_Chunk 49 v_2 x_3, .cell a_1 [v_2, .int .i64 Vars_4, v_5], .row (t_Gdiff_Leq).o 39 v_5 x_6]) rfl rv_tmp rv_tmp [0, 1, 2] (by decide) rfl ⟨rfl, rfl, rfl⟩
      · refine J_seq ?_
        refine J_region ?_
        refine JL_op rfl (op_read rfl rfl (r_move (v := .int .i64 n_10) rfl) ?_)
        refine JL_op rfl (op_read rfl rfl (r_move (v := peOpt v_2 (o_Gheap_Chunk).size r_14.1) rfl) ?_)
        refine JL_op rfl (op_read rfl rfl (r_nilCheck_opt (i := i_22) rfl hi_23) ?_)
        refine JL_op rfl (op_read rfl rfl (r_fieldAddr (r := elemAddr v_2 ((i_22).toNat * (o_Gheap_Chunk).size + 2)) Try.pu49 (f := Try.pf49.getD 2 default) rfl Try.pi3 (by decide) rfl (elemAddr_add _ _ _)) ?_)
        refine JL_op rfl (op_reads rfl rfl (l_elem_orow (v := v_2) (T := o_Gheap_Chunk) (Tf := (tInt .i64)) (q := x_24) (i := i_22) (off := 2) 0 Try.pu3 Try.pi3 rfl rfl rfl rfl hx_25 of_Gheap_Chunk_At (by decide)) ?_)
        intro v_32 h_33
        obtain rfl := tInt_v.1 h_33
        refine JL_op rfl (op_read rfl rfl (r_neq rfl rfl) ?_)
        refine JL_op rfl (op_read rfl rfl (r_assign (v := .bool (decide (n_10 ≠ x_24.At))) rfl) ?_)
        refine JL_nil ?_
        refine J_then ?_
        refine J_cond rfl (fun hc_34 => ?_) (fun hc_34 => ?_)
        · refine J_seq ?_
          refine J_region ?_
          refine JL_op rfl (op_read rfl rfl (r_assign (v := .pointer none) rfl) ?_)
          refine JL_op rfl (op_read rfl rfl (r_assign (v := .int .i64 42) rfl) ?_)
          refine JL_nil ?_
          refine J_then ?_
          refine J_ret ?_
          refine J_in_ret ?_
          refine J_then_ret ?_
          exact J_returnV2 (PV' := [.row o_Gheap_Chunk 49 v_2 x_3, .cell a_1 [v_2, .int .i64 Vars_4, v_5], .row (t_Gdiff_Leq).o 39 v_5 x_6]) rfl rv_tmp rv_tmp [0, 1, 2] (by decide) rfl ⟨rfl, rfl, rfl⟩
        · refine J_skip ?_
          refine J_in_normal ?_
          refine J_then ?_
          refine J_seq ?_
          refine J_region ?_
          refine JL_op rfl (op_read rfl rfl (r_move (v := peOpt v_2 (o_Gheap_Chunk).size r_14.1) rfl) ?_)
          refine JL_op rfl (op_read rfl rfl (r_assign (v := peOpt v_2 (o_Gheap_Chunk).size r_14.1) rfl) ?_)
          refine JL_op rfl (op_read rfl rfl (r_assign (v := .int .i64 0) rfl) ?_)
          refine JL_nil ?_
          refine J_then ?_
          refine J_ret ?_
          exact J_returnV2 (PV' := [.row o_Gheap_Chunk 49 v_2 x_3, .cell a_1 [v_2, .int .i64 Vars_4, v_5], .row (t_Gdiff_Leq).o 39 v_5 x_6]) rfl rv_tmp rv_tmp [0, 1, 2] (by decide) rfl ⟨rfl, rfl, rfl⟩
def slices_Clone_v3_post (σ0 : FS) (v_1 : Value) (s_2 : Sl Gheap_Chunk) (r : (Sl (Gheap_Chunk × Bool))) (σ : FS) (PV : List Priv) (v : Value) : Prop :=
  ∃ (w0 : Value), σ0 = σ ∧ w0 = v ∧ PV = [.row (oEith o_Gheap_Chunk t_Gheap_Chunk) 49 w0 r]
set_option maxRecDepth 100000 in
theorem slices_Clone_v3_ref (s : Start) (σ : FS) (v_1 : Value) (s_2 : Sl Gheap_Chunk) (h_3 : (tSl t_Gheap_Chunk).vrel σ v_1 s_2) (hs : Pre s σ []) (r : (Sl (Gheap_Chunk × Bool))) (hr : slices_Clone_v3 s_2 = some r) : Does Try.prog 47 [v_1] s σ (slices_Clone_v3_post σ v_1 s_2 r) := by
  unfold slices_Clone_v3 at hr
  refine does_of_J Try.func47 rfl (n := 8) rfl rfl hs hr ?_
  refine J_seq ?_
  refine J_region ?_
  refine JL_op rfl (op_read rfl rfl (r_assign (v := .slice none 0 0) rfl) ?_)
  refine JL_nil ?_
  refine J_then ?_
  refine J_seq ?_
  refine J_seq ?_
  refine J_region ?_
  refine JL_op rfl (op_read rfl rfl (r_move (v := v_1) rfl) ?_)
  refine JL_op rfl (op_read rfl rfl (r_eqnil_frozen (v := v_1) Try.pu26 rfl rfl h_3) ?_)
  refine JL_nil ?_
  refine J_then ?_
  refine J_cond rfl (fun hc_4 => ?_) (fun hc_4 => ?_)
  · refine J_seq ?_
    refine J_region ?_
    refine JL_op rfl (op_read rfl rfl (r_assign (v := .slice none 0 0) rfl) ?_)
    refine JL_nil ?_
    refine J_then ?_
    refine J_ret ?_
    refine J_then_ret ?_
    refine J_nil_row (oEith o_Gheap_Chunk t_Gheap_Chunk) 49 ?_
    exact J_returnV1 (PV' := [.row (oEith o_Gheap_Chunk t_Gheap_Chunk) 49 (.slice none 0 0) (⟨[], false⟩ : Sl (Gheap_Chunk × Bool))]) rfl rv_tmp [0] (by decide) rfl ⟨(.slice none 0 0), rfl, rfl, rfl⟩
  · refine J_skip ?_
    refine J_then ?_
    refine J_seq ?_
    refine J_region ?_
    refine JL_op rfl (op_buildSlice (T := o_Gheap_Chunk) (vs := []) (xs := []) [] [] rfl Try.pu26 Try.pi49 rfl rfl rfl rfl rfl rfl relsO_nil ?_)
    intro v_6
    refine JL_op rfl (op_read rfl rfl (r_move (v := v_1) rfl) ?_)
    refine J_tag_empty t_Gheap_Chunk ?_
    refine JL_op rfl (op_append (v := v_6) (u := v_1) (T := (oEith o_Gheap_Chunk t_Gheap_Chunk)) (ts := (tag0 s_2.xs)) [] [] rfl Try.pu26 Try.pi49 rfl rfl rfl rfl rfl rfl (source_tag h_3) ?_)
    intro s_9 v_8 hs_10
    refine JL_op rfl (op_read rfl rfl (r_assign (v := v_8) rfl) ?_)
    refine JL_nil ?_
    refine J_then ?_
    refine J_ret ?_
    exact J_returnV1 (PV' := [.row (oEith o_Gheap_Chunk t_Gheap_Chunk) 49 v_8 s_9]) rfl rv_tmp [0] (by decide) rfl ⟨v_8, rfl, rfl, rfl⟩
def slices_Clone_v4_post (σ0 : FS) (v_1 : Value) (s_2 : Sl Gdiff_Leq) (r : (Sl Gdiff_Leq)) (σ : FS) (PV : List Priv) (v : Value) : Prop :=
  ∃ (w0 : Value), σ0 = σ ∧ w0 = v ∧ PV = [.row (t_Gdiff_Leq).o 39 w0 r]
set_option maxRecDepth 100000 in
theorem slices_Clone_v4_ref (s : Start) (σ : FS) (v_1 : Value) (s_2 : Sl Gdiff_Leq) (h_3 : (tSl t_Gdiff_Leq).vrel σ v_1 s_2) (hs : Pre s σ []) (r : (Sl Gdiff_Leq)) (hr : slices_Clone_v4 s_2 = some r) : Does Try.prog 48 [v_1] s σ (slices_Clone_v4_post σ v_1 s_2 r) := by
  unfold slices_Clone_v4 at hr
  refine does_of_J Try.func48 rfl (n := 8) rfl rfl hs hr ?_
  refine J_seq ?_
  refine J_region ?_
  refine JL_op rfl (op_read rfl rfl (r_assign (v := .slice none 0 0) rfl) ?_)
  refine JL_nil ?_
  refine J_then ?_
  refine J_seq ?_
  refine J_seq ?_
  refine J_region ?_
  refine JL_op rfl (op_read rfl rfl (r_move (v := v_1) rfl) ?_)
  refine JL_op rfl (op_read rfl rfl (r_eqnil_frozen (v := v_1) Try.pu22 rfl rfl h_3) ?_)
  refine JL_nil ?_
  refine J_then ?_
  refine J_cond rfl (fun hc_4 => ?_) (fun hc_4 => ?_)
  · refine J_seq ?_
    refine J_region ?_
    refine JL_op rfl (op_read rfl rfl (r_assign (v := .slice none 0 0) rfl) ?_)
    refine JL_nil ?_
    refine J_then ?_
    refine J_ret ?_
    refine J_then_ret ?_
    refine J_nil_row (t_Gdiff_Leq).o 39 ?_
    exact J_returnV1 (PV' := [.row (t_Gdiff_Leq).o 39 (.slice none 0 0) (⟨[], false⟩ : Sl Gdiff_Leq)]) rfl rv_tmp [0] (by decide) rfl ⟨(.slice none 0 0), rfl, rfl, rfl⟩
  · refine J_skip ?_
    refine J_then ?_
    refine J_seq ?_
    refine J_region ?_
    refine JL_op rfl (op_buildSlice (T := (t_Gdiff_Leq).o) (vs := []) (xs := []) [] [] rfl Try.pu22 Try.pi39 rfl rfl rfl rfl rfl rfl relsO_nil ?_)
    intro v_6
    refine JL_op rfl (op_read rfl rfl (r_move (v := v_1) rfl) ?_)
    refine JL_op rfl (op_append (v := v_6) (u := v_1) (T := (t_Gdiff_Leq).o) (ts := s_2.xs) [] [] rfl Try.pu22 Try.pi39 rfl rfl rfl rfl rfl rfl (source_fixed h_3) ?_)
    intro s_9 v_8 hs_10
    refine JL_op rfl (op_read rfl rfl (r_assign (v := v_8) rfl) ?_)
    refine JL_nil ?_
    refine J_then ?_
    refine J_ret ?_
    exact J_returnV1 (PV' := [.row (t_Gdiff_Leq).o 39 v_8 s_9]) rfl rv_tmp [0] (by decide) rfl ⟨v_8, rfl, rfl, rfl⟩
def slices_Clone_v5_post (σ0 : FS) (v_1 : Value) (s_2 : Sl Gheap_Sym) (r : (Sl Gheap_Sym)) (σ : FS) (PV : List Priv) (v : Value) : Prop :=
  ∃ (w0 : Value), σ0 = σ ∧ w0 = v ∧ PV = [.row (t_Gheap_Sym).o 33 w0 r]
set_option maxRecDepth 100000 in
theorem slices_Clone_v5_ref (s : Start) (σ : FS) (v_1 : Value) (s_2 : Sl Gheap_Sym) (h_3 : (tSl t_Gheap_Sym).vrel σ v_1 s_2) (hs : Pre s σ []) (r : (Sl Gheap_Sym)) (hr : slices_Clone_v5 s_2 = some r) : Does Try.prog 49 [v_1] s σ (slices_Clone_v5_post σ v_1 s_2 r) := by
  unfold slices_Clone_v5 at hr
  refine does_of_J Try.func49 rfl (n := 8) rfl rfl hs hr ?_
  refine J_seq ?_
  refine J_region ?_
  refine JL_op rfl (op_read rfl rfl (r_assign (v := .slice none 0 0) rfl) ?_)
  refine JL_nil ?_
  refine J_then ?_
  refine J_seq ?_
  refine J_seq ?_
  refine J_region ?_
  refine JL_op rfl (op_read rfl rfl (r_move (v := v_1) rfl) ?_)
  refine JL_op rfl (op_read rfl rfl (r_eqnil_frozen (v := v_1) Try.pu23 rfl rfl h_3) ?_)
  refine JL_nil ?_
  refine J_then ?_
  refine J_cond rfl (fun hc_4 => ?_) (fun hc_4 => ?_)
  · refine J_seq ?_
    refine J_region ?_
    refine JL_op rfl (op_read rfl rfl (r_assign (v := .slice none 0 0) rfl) ?_)
    refine JL_nil ?_
    refine J_then ?_
    refine J_ret ?_
    refine J_then_ret ?_
    refine J_nil_row (t_Gheap_Sym).o 33 ?_
    exact J_returnV1 (PV' := [.row (t_Gheap_Sym).o 33 (.slice none 0 0) (⟨[], false⟩ : Sl Gheap_Sym)]) rfl rv_tmp [0] (by decide) rfl ⟨(.slice none 0 0), rfl, rfl, rfl⟩
  · refine J_skip ?_
    refine J_then ?_
    refine J_seq ?_
    refine J_region ?_
    refine JL_op rfl (op_buildSlice (T := (t_Gheap_Sym).o) (vs := []) (xs := []) [] [] rfl Try.pu23 Try.pi33 rfl rfl rfl rfl rfl rfl relsO_nil ?_)
    intro v_6
    refine JL_op rfl (op_read rfl rfl (r_move (v := v_1) rfl) ?_)
    refine JL_op rfl (op_append (v := v_6) (u := v_1) (T := (t_Gheap_Sym).o) (ts := s_2.xs) [] [] rfl Try.pu23 Try.pi33 rfl rfl rfl rfl rfl rfl (source_fixed h_3) ?_)
    intro s_9 v_8 hs_10
    refine JL_op rfl (op_read rfl rfl (r_assign (v := v_8) rfl) ?_)
    refine JL_nil ?_
    refine J_then ?_
    refine J_ret ?_
    exact J_returnV1 (PV' := [.row (t_Gheap_Sym).o 33 v_8 s_9]) rfl rv_tmp [0] (by decide) rfl ⟨v_8, rfl, rfl, rfl⟩
def heap_Heap_Copy_post (σ0 : FS) (a_1 : Addr) (v_2 : Value) (Chunks_3 : Sl Gheap_Chunk) (Vars_5 : Int) (v_6 : Value) (Facts_7 : Sl Gdiff_Leq) (r : (Sl Gheap_Chunk) × (Sl Gdiff_Leq)) (σ : FS) (PV : List Priv) (v : Value) : Prop :=
  ∃ (w0 : Addr) (w1 : Value) (w2 : Value), σ0 = σ ∧ .pointer (some (Addr.add w0 0)) = v ∧ PV = [.cell w0 [w1, .int .i64 Vars_5, w2], .row o_Gheap_Chunk 49 w1 r.1, .row (t_Gdiff_Leq).o 39 w2 r.2, .cell a_1 [v_2, .int .i64 Vars_5, v_6]]
set_option maxRecDepth 100000 in
theorem heap_Heap_Copy_ref (s : Start) (σ : FS) (a_1 : Addr) (v_2 : Value) (Chunks_3 : Sl Gheap_Chunk) (h_4 : (tSl t_Gheap_Chunk).vrel σ v_2 Chunks_3) (Vars_5 : Int) (v_6 : Value) (Facts_7 : Sl Gdiff_Leq) (h_8 : (tSl t_Gdiff_Leq).vrel σ v_6 Facts_7) (hs : Pre s σ [.cell a_1 [v_2, .int .i64 Vars_5, v_6]]) (r : (Sl Gheap_Chunk) × (Sl Gdiff_Leq)) (hr : heap_Heap_Copy Chunks_3 Vars_5 Facts_7 = some r) : Does Try.prog 17 [.pointer (some (Addr.add a_1 0))] s σ (heap_Heap_Copy_post σ a_1 v_2 Chunks_3 Vars_5 v_6 Facts_7 r) := by
  unfold heap_Heap_Copy at hr
  refine does_of_J Try.func17 rfl (n := 47) rfl rfl hs hr ?_
  refine J_seq ?_
  refine J_region ?_
  refine JL_op rfl (op_read rfl rfl (r_assign (v := .pointer none) rfl) ?_)
  refine JL_nil ?_
  refine J_then ?_
  refine J_seq ?_
  refine J_region_any 17 [.cell a_1 [v_2, .int .i64 Vars_5, v_6]] Try.mixed (by kernel_rfl) fun hns => ?_
  refine JA_takep 0 rfl hns (by kernel_rfl) (by kernel_rfl) rfl (.inr (by exact HeldOK.same [0] (by decide) rfl)) rfl rfl rfl (r_move (v := .pointer (some (Addr.add a_1 0))) rfl) ?_
  refine JA_takep 1 rfl hns (by kernel_rfl) (by kernel_rfl) rfl (.inr (by exact HeldOK.same [0] (by decide) rfl)) rfl rfl rfl (r_nilCheck (a := (Addr.add a_1 0)) rfl) ?_
  refine JA_takep 2 rfl hns (by kernel_rfl) (by kernel_rfl) rfl (.inr (by exact HeldOK.same [0] (by decide) rfl)) rfl rfl rfl (r_fieldAddr (r := Addr.add a_1 0) Try.pu28 (f := Try.pf28.getD 0 default) rfl Try.pi26 (by decide) rfl (Addr.add_add _ _ _)) ?_
  refine JA_take 3 rfl hns (by kernel_rfl) (by kernel_rfl) (by kernel_rfl) rfl (by kernel_rfl) (by exact HeldOK.same [0] (by decide) rfl) rfl rfl rfl (r_load_priv (a := a_1) (off := 0) (cs' := [v_2]) (v := v_2) 0 Try.pu26 Try.pi26 rfl rfl rfl rfl (by decide) rfl) ?_
  refine JA_takep 5 rfl hns (by kernel_rfl) (by kernel_rfl) rfl (.inr (by exact HeldOK.same [0] (by decide) rfl)) rfl rfl rfl (r_move (v := .pointer (some (Addr.add a_1 0))) rfl) ?_
  refine JA_takep 6 rfl hns (by kernel_rfl) (by kernel_rfl) rfl (.inr (by exact HeldOK.same [0] (by decide) rfl)) rfl rfl rfl (r_nilCheck (a := (Addr.add a_1 0)) rfl) ?_
  refine JA_takep 7 rfl hns (by kernel_rfl) (by kernel_rfl) rfl (.inr (by exact HeldOK.same [0] (by decide) rfl)) rfl rfl rfl (r_fieldAddr (r := Addr.add a_1 1) Try.pu28 (f := Try.pf28.getD 1 default) rfl Try.pi3 (by decide) rfl (Addr.add_add _ _ _)) ?_
  refine JA_take 8 rfl hns (by kernel_rfl) (by kernel_rfl) (by kernel_rfl) rfl (by kernel_rfl) (by exact HeldOK.same [0] (by decide) rfl) rfl rfl rfl (r_load_priv (a := a_1) (off := 1) (cs' := [.int .i64 Vars_5]) (v := .int .i64 Vars_5) 0 Try.pu3 Try.pi3 rfl rfl rfl rfl (by decide) rfl) ?_
  refine JA_takep 9 rfl hns (by kernel_rfl) (by kernel_rfl) rfl (.inr (by exact HeldOK.same [0] (by decide) rfl)) rfl rfl rfl (r_move (v := .pointer (some (Addr.add a_1 0))) rfl) ?_
  refine JA_takep 10 rfl hns (by kernel_rfl) (by kernel_rfl) rfl (.inr (by exact HeldOK.same [0] (by decide) rfl)) rfl rfl rfl (r_nilCheck (a := (Addr.add a_1 0)) rfl) ?_
  refine JA_takep 11 rfl hns (by kernel_rfl) (by kernel_rfl) rfl (.inr (by exact HeldOK.same [0] (by decide) rfl)) rfl rfl rfl (r_fieldAddr (r := Addr.add a_1 2) Try.pu28 (f := Try.pf28.getD 2 default) rfl Try.pi22 (by decide) rfl (Addr.add_add _ _ _)) ?_
  refine JA_take 12 rfl hns (by kernel_rfl) (by kernel_rfl) (by kernel_rfl) rfl (by kernel_rfl) (by exact HeldOK.same [0] (by decide) rfl) rfl rfl rfl (r_load_priv (a := a_1) (off := 2) (cs' := [v_6]) (v := v_6) 0 Try.pu22 Try.pi22 rfl rfl rfl rfl (by decide) rfl) ?_
  refine JA_op (i := 4) (by kernel_rfl) rfl rfl (op_callN (f := 47) (fn := Try.f47) (args := [v_2]) (post := slices_Clone_v3_post σ v_2 Chunks_3) 0 rfl rfl rfl Try.func47 Try.pn47 rfl rfl (fun y st hy hpre => slices_Clone_v3_ref st σ v_2 Chunks_3 h_4 hpre y hy) ?_)
  intro r_10 v_12 s_15 PV_13 hr_11 hle_16 hp_14
  obtain ⟨v_18, rfl, rfl, rfl⟩ := hp_14
  refine ⟨.inr (by exact HeldOK.same [1] (by decide) rfl), ?_⟩
  refine JA_op (i := 13) (by kernel_rfl) rfl rfl (op_callN (f := 48) (fn := Try.f48) (args := [v_6]) (post := slices_Clone_v4_post σ v_6 Facts_7) 0 rfl rfl rfl Try.func48 Try.pn48 rfl rfl (fun y st hy hpre => slices_Clone_v4_ref st σ v_6 Facts_7 h_8 hpre y hy) ?_)
  intro r_20 v_22 s_25 PV_23 hr_21 hle_26 hp_24
  obtain ⟨v_28, rfl, rfl, rfl⟩ := hp_24
  refine ⟨.inr (by exact HeldOK.same [2] (by decide) rfl), ?_⟩
  refine J_row_one 1 rfl fun h_30 => ?_
  refine J_row_one 0 rfl fun h_31 => ?_
  refine JA_takep 14 rfl hns (by kernel_rfl) (by kernel_rfl) rfl (.inr (by exact HeldOK.same [2] (by decide) rfl)) rfl rfl rfl (r_build (cs := [v_18, .int .i64 Vars_5, v_28]) (vs := [(0, v_18), (1, .int .i64 Vars_5), (2, v_28)]) (pcs := [(0, [v_18]), (1, [.int .i64 Vars_5]), (2, [v_28])]) (pls := [(0, 1), (1, 1), (2, 1)]) Try.pu28 Try.pi28 rfl (by kernel_rfl) rfl ⟨rfl, (one_cells h_30), ⟨rfl, rfl, ⟨rfl, (one_cells h_31), trivial⟩⟩⟩ rfl) ?_
  refine J_row_one 1 rfl fun h_32 => ?_
  refine J_row_one 0 rfl fun h_33 => ?_
  refine JA_op (i := 15) (by kernel_rfl) rfl rfl (op_box (cs := [v_18, .int .i64 Vars_5, v_28]) rfl rfl ?_)
  intro c_34
  refine ⟨.inr (by exact HeldOK.same [3] (by decide) rfl), ?_⟩
  refine JA_takep 16 rfl hns (by kernel_rfl) (by kernel_rfl) rfl (.inr (by exact HeldOK.same [3] (by decide) rfl)) rfl rfl rfl (r_assign (v := .pointer (some (Addr.add c_34 0))) rfl) ?_
  refine JA_done (by kernel_rfl) ?_
  refine J_then ?_
  refine J_seq ?_
  refine J_seq ?_
  refine J_region ?_
  refine JL_op rfl (op_read rfl rfl (r_move (v := .pointer (some (Addr.add c_34 0))) rfl) ?_)
  refine JL_op rfl (op_read rfl rfl (r_nilCheck (a := (Addr.add c_34 0)) rfl) ?_)
  refine JL_op rfl (op_read rfl rfl (r_fieldAddr (r := Addr.add c_34 0) Try.pu28 (f := Try.pf28.getD 0 default) rfl Try.pi26 (by decide) rfl (Addr.add_add _ _ _)) ?_)
  refine JL_op rfl (op_read rfl rfl (r_load_priv (a := c_34) (off := 0) (cs' := [v_18]) (v := v_18) 0 Try.pu26 Try.pi26 rfl rfl rfl rfl (by decide) rfl) ?_)
  refine JL_op rfl (op_read rfl rfl (r_len_row (v := v_18) 2 Try.pu26 rfl rfl) ?_)
  refine JL_op rfl (op_read rfl rfl (r_move (v := .int .i64 0) rfl) ?_)
  refine JL_nil ?_
  refine J_then ?_
  refine J_block ?_
  refine J_front [0, 1] ?_
  refine J_loop (fun (y : (Sl (Gheap_Chunk × Bool)) × Int) L τ PV => σ = τ ∧ L = [(3, .pointer (some (Addr.add c_34 0))), (25, .int .i64 r_10.len), (26, .int .i64 y.2)] ∧ PV = [.cell c_34 [v_18, .int .i64 Vars_5, v_28], .row (oEith o_Gheap_Chunk t_Gheap_Chunk) 49 v_18 y.1, .row (t_Gdiff_Leq).o 39 v_28 r_20, .cell a_1 [v_2, .int .i64 Vars_5, v_6]]) (fun (y : (Sl (Gheap_Chunk × Bool))) e L τ PV => e = .exit 0 ∧ (σ = τ ∧ L = [(3, .pointer (some (Addr.add c_34 0)))] ∧ PV = [.cell c_34 [v_18, .int .i64 Vars_5, v_28], .row (oEith o_Gheap_Chunk t_Gheap_Chunk) 49 v_18 y, .row (t_Gdiff_Leq).o 39 v_28 r_20, .cell a_1 [v_2, .int .i64 Vars_5, v_6]])) _ ?_ ⟨rfl, rfl, rfl⟩ ?_ ?_
  · exact ⟨rfl, rfl, rfl, trivial⟩
  · rintro x_37 _ b s_40 _ ⟨rfl, rfl, rfl⟩
    unfold heap_Heap_Copy_L1
    refine J_seq ?_
    refine J_region ?_
    refine JL_op rfl (op_read rfl rfl (r_lss rfl rfl) ?_)
    refine JL_nil ?_
    refine J_then ?_
    refine J_seq ?_
    refine J_cond rfl (fun hc_41 => ?_) (fun hc_41 => ?_)
    · refine J_skip ?_
      refine J_then ?_
      refine J_seq ?_
      refine J_block ?_
      refine J_seq ?_
      refine J_region ?_
      refine JL_op rfl (op_read rfl rfl (r_move (v := .int .i64 x_37.2) rfl) ?_)
      refine JL_op rfl (op_read rfl rfl (r_assign (v := .int .i64 x_37.2) rfl) ?_)
      refine JL_nil ?_
      refine J_then ?_
      refine J_region_any 16 [.cell c_34 [v_18, .int .i64 Vars_5, v_28], .row (t_Gdiff_Leq).o 39 v_28 r_20, .cell a_1 [v_2, .int .i64 Vars_5, v_6]] Try.mixed (by kernel_rfl) fun hns => ?_
      refine JA_takep 0 rfl hns (by kernel_rfl) (by kernel_rfl) rfl (.inr (by exact HeldOK.same [0, 2, 3] (by decide) rfl)) rfl rfl rfl (r_move (v := .pointer (some (Addr.add c_34 0))) rfl) ?_
      refine JA_takep 1 rfl hns (by kernel_rfl) (by kernel_rfl) rfl (.inr (by exact HeldOK.same [0, 2, 3] (by decide) rfl)) rfl rfl rfl (r_nilCheck (a := (Addr.add c_34 0)) rfl) ?_
      refine JA_takep 2 rfl hns (by kernel_rfl) (by kernel_rfl) rfl (.inr (by exact HeldOK.same [0, 2, 3] (by decide) rfl)) rfl rfl rfl (r_fieldAddr (r := Addr.add c_34 0) Try.pu28 (f := Try.pf28.getD 0 default) rfl Try.pi26 (by decide) rfl (Addr.add_add _ _ _)) ?_
      refine JA_take 3 rfl hns (by kernel_rfl) (by kernel_rfl) (by kernel_rfl) rfl (by kernel_rfl) (by exact HeldOK.same [0, 2, 3] (by decide) rfl) rfl rfl rfl (r_load_priv (a := c_34) (off := 0) (cs' := [v_18]) (v := v_18) 0 Try.pu26 Try.pi26 rfl rfl rfl rfl (by decide) rfl) ?_
      refine JA_takep 4 rfl hns (by kernel_rfl) (by kernel_rfl) rfl (.inr (by exact HeldOK.same [0, 2, 3] (by decide) rfl)) rfl rfl rfl (r_move (v := .int .i64 x_37.2) rfl) ?_
      refine JA_takep 5 rfl hns (by kernel_rfl) (by kernel_rfl) rfl (.inr (by exact HeldOK.same [0, 2, 3] (by decide) rfl)) rfl rfl rfl (r_move (v := .pointer (some (Addr.add c_34 0))) rfl) ?_
      refine JA_takep 6 rfl hns (by kernel_rfl) (by kernel_rfl) rfl (.inr (by exact HeldOK.same [0, 2, 3] (by decide) rfl)) rfl rfl rfl (r_nilCheck (a := (Addr.add c_34 0)) rfl) ?_
      refine JA_takep 7 rfl hns (by kernel_rfl) (by kernel_rfl) rfl (.inr (by exact HeldOK.same [0, 2, 3] (by decide) rfl)) rfl rfl rfl (r_fieldAddr (r := Addr.add c_34 0) Try.pu28 (f := Try.pf28.getD 0 default) rfl Try.pi26 (by decide) rfl (Addr.add_add _ _ _)) ?_
      refine JA_take 8 rfl hns (by kernel_rfl) (by kernel_rfl) (by kernel_rfl) rfl (by kernel_rfl) (by exact HeldOK.same [0, 2, 3] (by decide) rfl) rfl rfl rfl (r_load_priv (a := c_34) (off := 0) (cs' := [v_18]) (v := v_18) 0 Try.pu26 Try.pi26 rfl rfl rfl rfl (by decide) rfl) ?_
      refine JA_takep 9 rfl hns (by kernel_rfl) (by kernel_rfl) rfl (.inr (by exact HeldOK.same [0, 2, 3] (by decide) rfl)) rfl rfl rfl (r_move (v := .int .i64 x_37.2) rfl) ?_
      refine J_bind fun x_43 hx_44 => ?_
      refine JA_op (i := 10) (by kernel_rfl) rfl rfl (op_read rfl rfl (r_index_row (v := v_18) (T := (oEith o_Gheap_Chunk t_Gheap_Chunk)) (q := x_43) 1 Try.pu26 Try.pi49 rfl rfl rfl rfl hx_44) ?_)
      refine ⟨.inr (by exact HeldOK.same [0, 2, 3] (by decide) rfl), ?_⟩
      refine JA_takep 11 rfl hns (by kernel_rfl) (by kernel_rfl) rfl (.inr (by exact HeldOK.same [0, 2, 3] (by decide) rfl)) rfl rfl rfl (r_fieldAddr (r := elemAddr v_18 ((x_37.2).toNat * ((oEith o_Gheap_Chunk t_Gheap_Chunk)).size + 10)) Try.pu49 (f := Try.pf49.getD 7 default) rfl Try.pi23 (by decide) rfl (elemAddr_add _ _ _)) ?_
      refine J_bind fun x_46 hx_47 => ?_
      have hx_48 := untag0_hx hx_44 hx_47
      refine J_front [1] ?_
      refine J_take_tag (i := x_37.2) hx_48 rfl fun u_49 hu_50 => ?_
      obtain ⟨v_52, rfl, h_53⟩ := t_Gheap_Chunk_v.1 hu_50
      change J _ _ _ _ _ _ _ _ [.hole (fun x => .elem (oEith o_Gheap_Chunk t_Gheap_Chunk) (elemAddr v_18 ((x_37.2).toNat * ((oEith o_Gheap_Chunk t_Gheap_Chunk)).size)) x) (fun x => .row (oEith o_Gheap_Chunk t_Gheap_Chunk) 49 v_18 (Sl.set x_37.1 x_37.2 x)), .cell (elemAddr v_18 ((x_37.2).toNat * ((oEith o_Gheap_Chunk t_Gheap_Chunk)).size)) [.int .i64 x_46.Origin, .int .i64 x_46.Type_, .int .i64 x_46.At, .bool x_46.Live, .bool x_46.Held, .bool x_46.Array, .int .i64 x_46.Size.Kind, .int .i64 x_46.Size.Var, .int .i64 x_46.Size.K, .int .i64 x_46.Size.Block, v_52], .cell c_34 [v_18, .int .i64 Vars_5, v_28], .row (t_Gdiff_Leq).o 39 v_28 r_20, .cell a_1 [v_2, .int .i64 Vars_5, v_6]]
      refine JA_op (i := 12) (by kernel_rfl) rfl rfl (op_read rfl rfl (r_load_priv (a := (elemAddr v_18 ((x_37.2).toNat * ((oEith o_Gheap_Chunk t_Gheap_Chunk)).size))) (off := 10) (cs' := [v_52]) (v := v_52) 1 Try.pu23 Try.pi23 (pe_add v_18 ((x_37.2).toNat * ((oEith o_Gheap_Chunk t_Gheap_Chunk)).size) 10) rfl rfl rfl (by decide) rfl) ?_)
      refine ⟨.inr (by exact HeldOK.same [2, 3, 4] (by decide) rfl), ?_⟩
      refine JA_op (i := 13) (by kernel_rfl) rfl rfl (op_callN (f := 49) (fn := Try.f49) (args := [v_52]) (post := slices_Clone_v5_post σ v_52 x_46.Cells) 0 rfl rfl rfl Try.func49 Try.pn49 rfl rfl (fun y st hy hpre => slices_Clone_v5_ref st σ v_52 x_46.Cells h_53 hpre y hy) ?_)
      intro r_56 v_58 s_61 PV_59 hr_57 hle_62 hp_60
      obtain ⟨v_64, rfl, rfl, rfl⟩ := hp_60
      refine ⟨.inr (by exact HeldOK.same [3, 4, 5] (by decide) rfl), ?_⟩
      refine J_front [1, 1] ?_
      refine J_put (T := (oEith o_Gheap_Chunk t_Gheap_Chunk)) (i := x_37.2) (s := x_37.1) (s' := x_37.1) (A := []) (C := [.row (t_Gheap_Sym).o 33 v_64 r_56, .cell c_34 [v_18, .int .i64 Vars_5, v_28], .row (t_Gdiff_Leq).o 39 v_28 r_20, .cell a_1 [v_2, .int .i64 Vars_5, v_6]]) (x_46, false) (.inr [.int .i64 x_46.Origin, .int .i64 x_46.Type_, .int .i64 x_46.At, .bool x_46.Live, .bool x_46.Held, .bool x_46.Array, .int .i64 x_46.Size.Kind, .int .i64 x_46.Size.Var, .int .i64 x_46.Size.K, .int .i64 x_46.Size.Block, v_52]) ⟨rfl, ((t_Gheap_Chunk_v.2 ⟨_, rfl, h_53⟩)).1⟩ rfl rfl (Sl.set_same hx_48) ?_
      refine JA_op (i := 14) (by kernel_rfl) rfl rfl (op_read rfl rfl (r_index_row (v := v_18) (T := (oEith o_Gheap_Chunk t_Gheap_Chunk)) (q := x_43) 0 Try.pu26 Try.pi49 rfl rfl rfl rfl hx_44) ?_)
      refine ⟨.inr (by exact HeldOK.same [2, 3, 4] (by decide) rfl), ?_⟩
      refine JA_takep 15 rfl hns (by kernel_rfl) (by kernel_rfl) rfl (.inr (by exact HeldOK.same [2, 3, 4] (by decide) rfl)) rfl rfl rfl (r_fieldAddr (r := elemAddr v_18 ((x_37.2).toNat * ((oEith o_Gheap_Chunk t_Gheap_Chunk)).size + 10)) Try.pu49 (f := Try.pf49.getD 7 default) rfl Try.pi23 (by decide) rfl (elemAddr_add _ _ _)) ?_
      have hx_68 := untag0_hx hx_44 hx_47
      refine J_take_tag (i := x_37.2) hx_68 rfl fun u_69 hu_70 => ?_
      obtain ⟨v_72, rfl, h_73⟩ := t_Gheap_Chunk_v.1 hu_70
      change J _ _ _ _ _ _ _ _ [.hole (fun x => .elem (oEith o_Gheap_Chunk t_Gheap_Chunk) (elemAddr v_18 ((x_37.2).toNat * ((oEith o_Gheap_Chunk t_Gheap_Chunk)).size)) x) (fun x => .row (oEith o_Gheap_Chunk t_Gheap_Chunk) 49 v_18 (Sl.set x_37.1 x_37.2 x)), .cell (elemAddr v_18 ((x_37.2).toNat * ((oEith o_Gheap_Chunk t_Gheap_Chunk)).size)) [.int .i64 x_46.Origin, .int .i64 x_46.Type_, .int .i64 x_46.At, .bool x_46.Live, .bool x_46.Held, .bool x_46.Array, .int .i64 x_46.Size.Kind, .int .i64 x_46.Size.Var, .int .i64 x_46.Size.K, .int .i64 x_46.Size.Block, v_72], .row (t_Gheap_Sym).o 33 v_64 r_56, .cell c_34 [v_18, .int .i64 Vars_5, v_28], .row (t_Gdiff_Leq).o 39 v_28 r_20, .cell a_1 [v_2, .int .i64 Vars_5, v_6]]
      refine J_row_one 2 rfl fun h_74 => ?_
      refine JA_op (i := 16) (by kernel_rfl) rfl rfl (op_store_priv (a := (elemAddr v_18 ((x_37.2).toNat * ((oEith o_Gheap_Chunk t_Gheap_Chunk)).size))) (off := 10) (vs := [v_64]) (cs' := [.int .i64 x_46.Origin, .int .i64 x_46.Type_, .int .i64 x_46.At, .bool x_46.Live, .bool x_46.Held, .bool x_46.Array, .int .i64 x_46.Size.Kind, .int .i64 x_46.Size.Var, .int .i64 x_46.Size.K, .int .i64 x_46.Size.Block, v_64]) (PV' := [.hole (fun x => .elem (oEith o_Gheap_Chunk t_Gheap_Chunk) (elemAddr v_18 ((x_37.2).toNat * ((oEith o_Gheap_Chunk t_Gheap_Chunk)).size)) x) (fun x => .row (oEith o_Gheap_Chunk t_Gheap_Chunk) 49 v_18 (Sl.set x_37.1 x_37.2 x)), .cell (elemAddr v_18 ((x_37.2).toNat * ((oEith o_Gheap_Chunk t_Gheap_Chunk)).size)) [.int .i64 x_46.Origin, .int .i64 x_46.Type_, .int .i64 x_46.At, .bool x_46.Live, .bool x_46.Held, .bool x_46.Array, .int .i64 x_46.Size.Kind, .int .i64 x_46.Size.Var, .int .i64 x_46.Size.K, .int .i64 x_46.Size.Block, v_64], .row (t_Gheap_Sym).o 33 v_64 r_56, .cell c_34 [v_18, .int .i64 Vars_5, v_28], .row (t_Gdiff_Leq).o 39 v_28 r_20, .cell a_1 [v_2, .int .i64 Vars_5, v_6]]) 1 Try.pi23 (pe_add v_18 ((x_37.2).toNat * ((oEith o_Gheap_Chunk t_Gheap_Chunk)).size) 10) (one_cells h_74) rfl ⟨h_74, trivial⟩ rfl rfl rfl rfl rfl ?_)
      refine ⟨.inl (.inl rfl), ?_⟩
      refine JA_done (by kernel_rfl) ?_
      refine J_in_normal ?_
      refine J_then ?_
      refine J_region ?_
      refine JL_op rfl (op_read rfl rfl (r_add rfl rfl) ?_)
      refine JL_op rfl (op_read rfl rfl (r_move (v := .int .i64 (IntKind.i64.wrap (x_37.2 + 1))) rfl) ?_)
      refine JL_nil ?_
      refine J_put (T := (oEith o_Gheap_Chunk t_Gheap_Chunk)) (i := x_37.2) (s := x_37.1) (s' := (Sl.set x_37.1 x_37.2 ((⟨x_46.Origin, x_46.Type_, x_46.At, x_46.Live, x_46.Held, x_46.Array, x_46.Size, r_56⟩ : Gheap_Chunk), true))) (A := [.row (t_Gheap_Sym).o 33 v_64 r_56]) (C := [.cell c_34 [v_18, .int .i64 Vars_5, v_28], .row (t_Gdiff_Leq).o 39 v_28 r_20, .cell a_1 [v_2, .int .i64 Vars_5, v_6]]) ((⟨x_46.Origin, x_46.Type_, x_46.At, x_46.Live, x_46.Held, x_46.Array, x_46.Size, r_56⟩ : Gheap_Chunk), true) (.inl ((), (), (), (), (), (), (), v_64)) ⟨rfl, ⟨trivial, trivial, trivial, trivial, trivial, trivial, trivial, trivial⟩⟩ rfl rfl rfl ?_
      refine J_front [1] ?_
      refine J_next _ ?_ ⟨rfl, rfl, rfl⟩
      exact ⟨rfl, rfl, rfl, trivial⟩
    · refine J_exit ?_
      refine J_then_exit ?_
      refine J_done trivial _ ?_ ⟨rfl, rfl, rfl, rfl⟩
      exact ⟨rfl, trivial⟩
  · rintro y_76 _ _ b s_79 _ ⟨rfl, ⟨rfl, rfl, rfl⟩⟩
    refine J_in_exit ?_
    refine J_then ?_
    refine J_seq ?_
    refine J_region ?_
    refine JL_op rfl (op_read rfl rfl (r_move (v := .pointer (some (Addr.add c_34 0))) rfl) ?_)
    refine JL_op rfl (op_read rfl rfl (r_assign (v := .pointer (some (Addr.add c_34 0))) rfl) ?_)
    refine JL_nil ?_
    refine J_then ?_
    refine J_ret ?_
    refine J_bind fun s_80 hs_81 => ?_
    refine J_front [1] ?_
    refine J_untag hs_81 ?_
    exact J_returnV1 (PV' := [.cell c_34 [v_18, .int .i64 Vars_5, v_28], .row o_Gheap_Chunk 49 v_18 s_80, .row (t_Gdiff_Leq).o 39 v_28 r_20, .cell a_1 [v_2, .int .i64 Vars_5, v_6]]) rfl rv_tmp [1, 0, 2, 3] (by decide) rfl ⟨c_34, v_18, v_28, rfl, rfl, rfl⟩
def heap_Heap_Assume_v2_post (σ0 : FS) (a_1 : Addr) (v_2 : Value) (Vars_3 : Int) (v_4 : Value) (x_5 : Sl Gdiff_Leq) (v_6 : Value) (x_7 : Sl Gdiff_Leq) (r : Int × (Sl Gdiff_Leq)) (σ : FS) (PV : List Priv) (v : Value) : Prop :=
  ∃ (w0 : Value), σ0 = σ ∧ .int .i64 r.1 = v ∧ PV = [.cell a_1 [v_2, .int .i64 Vars_3, w0], .row (t_Gdiff_Leq).o 39 w0 r.2, .row (t_Gdiff_Leq).o 39 v_6 x_7]
set_option maxRecDepth 100000 in
theorem heap_Heap_Assume_v2_ref (s : Start) (σ : FS) (a_1 : Addr) (v_2 : Value) (Vars_3 : Int) (v_4 : Value) (x_5 : Sl Gdiff_Leq) (v_6 : Value) (x_7 : Sl Gdiff_Leq) (hs : Pre s σ [.cell a_1 [v_2, .int .i64 Vars_3, v_4], .row (t_Gdiff_Leq).o 39 v_4 x_5, .row (t_Gdiff_Leq).o 39 v_6 x_7]) (r : Int × (Sl Gdiff_Leq)) (hr : heap_Heap_Assume_v2 Vars_3 x_5 x_7 = some r) : Does Try.prog 22 [.pointer (some (Addr.add a_1 0)), v_6] s σ (heap_Heap_Assume_v2_post σ a_1 v_2 Vars_3 v_4 x_5 v_6 x_7 r) := by
  unfold heap_Heap_Assume_v2 at hr
  refine does_of_J Try.func22 rfl (n := 24) rfl rfl hs hr ?_
  refine J_seq ?_
  refine J_region ?_
  refine JL_op rfl (op_read rfl rfl (r_assign (v := .int .i64 0) rfl) ?_)
  refine JL_nil ?_
  refine J_then ?_
  refine J_seq ?_
  refine J_seq ?_
  refine J_region ?_
  refine JL_op rfl (op_read rfl rfl (r_move (v := .pointer (some (Addr.add a_1 0))) rfl) ?_)
  refine JL_op rfl (op_read rfl rfl (r_nilCheck (a := (Addr.add a_1 0)) rfl) ?_)
  refine JL_op rfl (op_read rfl rfl (r_fieldAddr (r := Addr.add a_1 2) Try.pu28 (f := Try.pf28.getD 2 default) rfl Try.pi22 (by decide) rfl (Addr.add_add _ _ _)) ?_)
  refine JL_op rfl (op_read rfl rfl (r_load_priv (a := a_1) (off := 2) (cs' := [v_4]) (v := v_4) 0 Try.pu22 Try.pi22 rfl rfl rfl rfl (by decide) rfl) ?_)
  refine JL_op rfl (op_read rfl rfl (r_len_row (v := v_4) 1 Try.pu22 rfl rfl) ?_)
  refine JL_op rfl (op_read rfl rfl (r_move (v := v_6) rfl) ?_)
  refine JL_op rfl (op_read rfl rfl (r_len_row (v := v_6) 2 Try.pu22 rfl rfl) ?_)
  refine JL_op rfl (op_read rfl rfl (r_add rfl rfl) ?_)
  refine JL_op rfl (op_read rfl rfl (r_gtr rfl rfl) ?_)
  refine JL_nil ?_
  refine J_then ?_
  refine J_cond rfl (fun hc_8 => ?_) (fun hc_8 => ?_)
  · refine J_seq ?_
    refine J_region ?_
    refine JL_op rfl (op_read rfl rfl (r_assign (v := .int .i64 22) rfl) ?_)
    refine JL_nil ?_
    refine J_then ?_
    refine J_ret ?_
    refine J_then_ret ?_
    exact J_returnV1 (PV' := [.cell a_1 [v_2, .int .i64 Vars_3, v_4], .row (t_Gdiff_Leq).o 39 v_4 x_5, .row (t_Gdiff_Leq).o 39 v_6 x_7]) rfl rv_tmp [0, 1, 2] (by decide) rfl ⟨v_4, rfl, rfl, rfl⟩
  · refine J_skip ?_
    refine J_then ?_
    refine J_seq ?_
    refine J_region ?_
    refine JL_op rfl (op_read rfl rfl (r_move (v := .pointer (some (Addr.add a_1 0))) rfl) ?_)
    refine JL_op rfl (op_read rfl rfl (r_move (v := .pointer (some (Addr.add a_1 0))) rfl) ?_)
    refine JL_op rfl (op_read rfl rfl (r_nilCheck (a := (Addr.add a_1 0)) rfl) ?_)
    refine JL_op rfl (op_read rfl rfl (r_fieldAddr (r := Addr.add a_1 2) Try.pu28 (f := Try.pf28.getD 2 default) rfl Try.pi22 (by decide) rfl (Addr.add_add _ _ _)) ?_)
    refine JL_op rfl (op_read rfl rfl (r_load_priv (a := a_1) (off := 2) (cs' := [v_4]) (v := v_4) 0 Try.pu22 Try.pi22 rfl rfl rfl rfl (by decide) rfl) ?_)
    refine J_front [1] ?_
    refine JL_op rfl (op_callN (f := 51) (fn := Try.f51) (args := [v_4]) (post := slices_Clip_v2_post σ v_4 x_5) 1 rfl rfl rfl Try.func51 Try.pn51 rfl rfl (fun y st hy hpre => slices_Clip_v2_ref st σ v_4 x_5 hpre y hy) ?_)
    intro r_9 v_11 s_14 PV_12 hr_10 hle_15 hp_13
    obtain ⟨v_16, rfl, rfl, rfl⟩ := hp_13
    refine JL_op rfl (op_read rfl rfl (r_move (v := v_6) rfl) ?_)
    refine JL_op rfl (op_append (v := v_16) (u := v_6) (T := (t_Gdiff_Leq).o) (ts := x_7.xs) [] [.cell a_1 [v_2, .int .i64 Vars_3, v_4], .row (t_Gdiff_Leq).o 39 v_6 x_7] rfl Try.pu22 Try.pi39 rfl rfl rfl rfl rfl rfl (source_copy (s := x_7) 2 rfl) ?_)
    intro s_18 v_17 hs_19
    refine JL_op rfl (op_read rfl rfl (r_nilCheck (a := (Addr.add a_1 0)) rfl) ?_)
    refine JL_op rfl (op_read rfl rfl (r_fieldAddr (r := Addr.add a_1 2) Try.pu28 (f := Try.pf28.getD 2 default) rfl Try.pi22 (by decide) rfl (Addr.add_add _ _ _)) ?_)
    refine J_row_one 0 rfl fun h_20 => ?_
    refine JL_op rfl (op_store_priv (a := a_1) (off := 2) (vs := [v_17]) (cs' := [v_2, .int .i64 Vars_3, v_17]) (PV' := [.row (t_Gdiff_Leq).o 39 v_17 s_18, .cell a_1 [v_2, .int .i64 Vars_3, v_17], .row (t_Gdiff_Leq).o 39 v_6 x_7]) 1 Try.pi22 rfl (one_cells h_20) rfl ⟨h_20, trivial⟩ rfl rfl rfl rfl rfl ?_)
    refine JL_nil ?_
    refine J_then ?_
    refine J_seq ?_
    refine J_region ?_
    refine JL_op rfl (op_read rfl rfl (r_assign (v := .int .i64 0) rfl) ?_)
    refine JL_nil ?_
    refine J_then ?_
    refine J_ret ?_
    exact J_returnV1 (PV' := [.cell a_1 [v_2, .int .i64 Vars_3, v_17], .row (t_Gdiff_Leq).o 39 v_17 s_18, .row (t_Gdiff_Leq).o 39 v_6 x_7]) rfl rv_tmp [1, 0, 2] (by decide) rfl ⟨v_17, rfl, rfl, rfl⟩
def heap_Heap_Fresh_v2_post (σ0 : FS) (a_1 : Addr) (v_2 : Value) (Vars_3 : Int) (v_4 : Value) (x_5 : Sl Gdiff_Leq) (r : Gheap_Sym × Int × Int × (Sl Gdiff_Leq)) (σ : FS) (PV : List Priv) (v : Value) : Prop :=
  ∃ (w0 : Value), σ0 = σ ∧ .tuple #[.agg #[.int .i64 r.1.Kind, .int .i64 r.1.Var, .int .i64 r.1.K, .int .i64 r.1.Block], .int .i64 r.2.1] = v ∧ PV = [.cell a_1 [v_2, .int .i64 r.2.2.1, w0], .row (t_Gdiff_Leq).o 39 w0 r.2.2.2]
set_option maxRecDepth 100000 in
theorem heap_Heap_Fresh_v2_ref (s : Start) (σ : FS) (a_1 : Addr) (v_2 : Value) (Vars_3 : Int) (v_4 : Value) (x_5 : Sl Gdiff_Leq) (hs : Pre s σ [.cell a_1 [v_2, .int .i64 Vars_3, v_4], .row (t_Gdiff_Leq).o 39 v_4 x_5]) (r : Gheap_Sym × Int × Int × (Sl Gdiff_Leq)) (hr : heap_Heap_Fresh_v2 Vars_3 x_5 = some r) : Does Try.prog 21 [.pointer (some (Addr.add a_1 0))] s σ (heap_Heap_Fresh_v2_post σ a_1 v_2 Vars_3 v_4 x_5 r) := by
  unfold heap_Heap_Fresh_v2 at hr
  refine does_of_J Try.func21 rfl (n := 36) rfl rfl hs hr ?_
  refine J_seq ?_
  refine J_region ?_
  refine JL_op rfl (op_alloc (cs := [.int .i64 0, .int .i64 0, .int .i64 0, .int .i64 0]) rfl Try.pi33 rfl rfl ?_)
  intro c_6
  refine JL_op rfl (op_read rfl rfl (r_assign (v := .int .i64 0) rfl) ?_)
  refine JL_nil ?_
  refine J_then ?_
  refine J_seq ?_
  refine J_seq ?_
  refine J_region ?_
  refine JL_op rfl (op_read rfl rfl (r_move (v := .pointer (some (Addr.add a_1 0))) rfl) ?_)
  refine JL_op rfl (op_read rfl rfl (r_nilCheck (a := (Addr.add a_1 0)) rfl) ?_)
  refine JL_op rfl (op_read rfl rfl (r_fieldAddr (r := Addr.add a_1 1) Try.pu28 (f := Try.pf28.getD 1 default) rfl Try.pi3 (by decide) rfl (Addr.add_add _ _ _)) ?_)
  refine JL_op rfl (op_read rfl rfl (r_load_priv (a := a_1) (off := 1) (cs' := [.int .i64 Vars_3]) (v := .int .i64 Vars_3) 1 Try.pu3 Try.pi3 rfl rfl rfl rfl (by decide) rfl) ?_)
  refine JL_op rfl (op_read rfl rfl (r_geq rfl rfl) ?_)
  refine JL_nil ?_
  refine J_then ?_
  refine J_cond rfl (fun hc_8 => ?_) (fun hc_8 => ?_)
  · refine J_seq ?_
    refine J_region ?_
    refine JL_op rfl (op_read rfl rfl (r_build (cs := [.int .i64 0, .int .i64 0, .int .i64 0, .int .i64 0]) (vs := []) (pcs := []) (pls := [(0, 1), (1, 1), (2, 1), (3, 1)]) Try.pu33 Try.pi33 rfl (by kernel_rfl) rfl trivial rfl) ?_)
    refine JL_op rfl (op_store_priv (a := c_6) (off := 0) (vs := [.int .i64 0, .int .i64 0, .int .i64 0, .int .i64 0]) (cs' := [.int .i64 0, .int .i64 0, .int .i64 0, .int .i64 0]) (PV' := [.cell c_6 [.int .i64 0, .int .i64 0, .int .i64 0, .int .i64 0], .cell a_1 [v_2, .int .i64 Vars_3, v_4], .row (t_Gdiff_Leq).o 39 v_4 x_5]) 0 Try.pi33 rfl rfl rfl ⟨rfl, rfl, rfl, rfl, trivial⟩ rfl rfl rfl rfl rfl ?_)
    refine JL_op rfl (op_read rfl rfl (r_assign (v := .int .i64 22) rfl) ?_)
    refine JL_nil ?_
    refine J_then ?_
    refine J_ret ?_
    refine J_then_ret ?_
    exact J_returnV2 (PV' := [.cell a_1 [v_2, .int .i64 Vars_3, v_4], .row (t_Gdiff_Leq).o 39 v_4 x_5]) rfl (rv_cell (cs := [.int .i64 0, .int .i64 0, .int .i64 0, .int .i64 0]) (v := .agg #[.int .i64 0, .int .i64 0, .int .i64 0, .int .i64 0]) 0 Try.pu33 Try.pi33 rfl rfl rfl (by decide) rfl) rv_tmp [1, 2] (by decide) rfl ⟨v_4, rfl, rfl, rfl⟩
  · refine J_skip ?_
    refine J_then ?_
    refine J_seq ?_
    refine J_region ?_
    refine JL_op rfl (op_read rfl rfl (r_move (v := .pointer (some (Addr.add a_1 0))) rfl) ?_)
    refine JL_op rfl (op_read rfl rfl (r_nilCheck (a := (Addr.add a_1 0)) rfl) ?_)
    refine JL_op rfl (op_read rfl rfl (r_fieldAddr (r := Addr.add a_1 1) Try.pu28 (f := Try.pf28.getD 1 default) rfl Try.pi3 (by decide) rfl (Addr.add_add _ _ _)) ?_)
    refine JL_op rfl (op_read rfl rfl (r_load_priv (a := a_1) (off := 1) (cs' := [.int .i64 Vars_3]) (v := .int .i64 Vars_3) 1 Try.pu3 Try.pi3 rfl rfl rfl rfl (by decide) rfl) ?_)
    refine JL_op rfl (op_read rfl rfl (r_assign (v := .int .i64 Vars_3) rfl) ?_)
    refine JL_nil ?_
    refine J_then ?_
    refine J_seq ?_
    refine J_seq ?_
    refine J_region ?_
    refine JL_op rfl (op_read rfl rfl (r_move (v := .pointer (some (Addr.add a_1 0))) rfl) ?_)
    refine JL_op rfl (op_read rfl rfl (r_move (v := .int .i64 Vars_3) rfl) ?_)
    refine JL_op rfl (op_read rfl rfl (r_build (cs := [.int .i64 Vars_3, .int .i64 0, .int .i64 1099511627776]) (vs := [(0, .int .i64 Vars_3), (2, .int .i64 1099511627776)]) (pcs := [(0, [.int .i64 Vars_3]), (2, [.int .i64 1099511627776])]) (pls := [(0, 1), (1, 1), (2, 1)]) Try.pu39 Try.pi39 rfl (by kernel_rfl) rfl ⟨rfl, rfl, ⟨rfl, rfl, trivial⟩⟩ rfl) ?_)
    refine JL_op rfl (op_read rfl rfl (r_move (v := .int .i64 Vars_3) rfl) ?_)
    refine JL_op rfl (op_read rfl rfl (r_build (cs := [.int .i64 0, .int .i64 Vars_3, .int .i64 1099511627776]) (vs := [(1, .int .i64 Vars_3), (2, .int .i64 1099511627776)]) (pcs := [(1, [.int .i64 Vars_3]), (2, [.int .i64 1099511627776])]) (pls := [(0, 1), (1, 1), (2, 1)]) Try.pu39 Try.pi39 rfl (by kernel_rfl) rfl ⟨rfl, rfl, ⟨rfl, rfl, trivial⟩⟩ rfl) ?_)
    refine JL_op rfl (op_buildSlice (T := (t_Gdiff_Leq).o) (vs := [.agg #[.int .i64 Vars_3, .int .i64 0, .int .i64 1099511627776], .agg #[.int .i64 0, .int .i64 Vars_3, .int .i64 1099511627776]]) (xs := [(⟨Vars_3, 0, 1099511627776⟩ : Gdiff_Leq), (⟨0, Vars_3, 1099511627776⟩ : Gdiff_Leq)]) [] [.cell c_6 [.int .i64 0, .int .i64 0, .int .i64 0, .int .i64 0], .cell a_1 [v_2, .int .i64 Vars_3, v_4], .row (t_Gdiff_Leq).o 39 v_4 x_5] rfl Try.pu22 Try.pi39 rfl rfl rfl rfl rfl rfl (relsO_cons (A := []) (B := []) (u := .agg #[.int .i64 Vars_3, .int .i64 0, .int .i64 1099511627776]) (x := (⟨Vars_3, 0, 1099511627776⟩ : Gdiff_Leq)) (fix_vrel (T := (t_Gdiff_Leq).o) rfl (t_Gdiff_Leq_v.2 rfl)) (relsO_cons (A := []) (B := []) (u := .agg #[.int .i64 0, .int .i64 Vars_3, .int .i64 1099511627776]) (x := (⟨0, Vars_3, 1099511627776⟩ : Gdiff_Leq)) (fix_vrel (T := (t_Gdiff_Leq).o) rfl (t_Gdiff_Leq_v.2 rfl)) relsO_nil)) ?_)
    intro v_9
    refine J_front [2, 2] ?_
    refine JL_op rfl (op_callN (f := 22) (fn := Try.f22) (args := [.pointer (some (Addr.add a_1 0)), v_9]) (post := heap_Heap_Assume_v2_post σ a_1 v_2 Vars_3 v_4 x_5 v_9 (⟨[(⟨Vars_3, 0, 1099511627776⟩ : Gdiff_Leq), (⟨0, Vars_3, 1099511627776⟩ : Gdiff_Leq)], true⟩ : Sl Gdiff_Leq)) 3 rfl rfl rfl Try.func22 Try.pn22 rfl rfl (fun y st hy hpre => heap_Heap_Assume_v2_ref st σ a_1 v_2 Vars_3 v_4 x_5 v_9 (⟨[(⟨Vars_3, 0, 1099511627776⟩ : Gdiff_Leq), (⟨0, Vars_3, 1099511627776⟩ : Gdiff_Leq)], true⟩ : Sl Gdiff_Leq) hpre y hy) ?_)
    intro r_11 v_13 s_16 PV_14 hr_12 hle_17 hp_15
    obtain ⟨v_18, rfl, rfl, rfl⟩ := hp_15
    refine JL_op rfl (op_read rfl rfl (r_assign (v := .int .i64 r_11.1) rfl) ?_)
    refine JL_nil ?_
    refine J_then ?_
    refine J_seq ?_
    refine J_region ?_
    refine JL_op rfl (op_read rfl rfl (r_move (v := .int .i64 r_11.1) rfl) ?_)
    refine JL_op rfl (op_read rfl rfl (r_neq rfl rfl) ?_)
    refine JL_nil ?_
    refine J_then ?_
    refine J_cond rfl (fun hc_19 => ?_) (fun hc_19 => ?_)
    · refine J_seq ?_
      refine J_region ?_
      refine JL_op rfl (op_read rfl rfl (r_build (cs := [.int .i64 0, .int .i64 0, .int .i64 0, .int .i64 0]) (vs := []) (pcs := []) (pls := [(0, 1), (1, 1), (2, 1), (3, 1)]) Try.pu33 Try.pi33 rfl (by kernel_rfl) rfl trivial rfl) ?_)
      refine JL_op rfl (op_read rfl rfl (r_move (v := .int .i64 r_11.1) rfl) ?_)
      refine JL_op rfl (op_store_priv (a := c_6) (off := 0) (vs := [.int .i64 0, .int .i64 0, .int .i64 0, .int .i64 0]) (cs' := [.int .i64 0, .int .i64 0, .int .i64 0, .int .i64 0]) (PV' := [.cell a_1 [v_2, .int .i64 Vars_3, v_18], .row (t_Gdiff_Leq).o 39 v_18 r_11.2, .row (t_Gdiff_Leq).o 39 v_9 (⟨[(⟨Vars_3, 0, 1099511627776⟩ : Gdiff_Leq), (⟨0, Vars_3, 1099511627776⟩ : Gdiff_Leq)], true⟩ : Sl Gdiff_Leq), .cell c_6 [.int .i64 0, .int .i64 0, .int .i64 0, .int .i64 0]]) 3 Try.pi33 rfl rfl rfl ⟨rfl, rfl, rfl, rfl, trivial⟩ rfl rfl rfl rfl rfl ?_)
      refine JL_op rfl (op_read rfl rfl (r_assign (v := .int .i64 r_11.1) rfl) ?_)
      refine JL_nil ?_
      refine J_then ?_
      refine J_ret ?_
      refine J_then_ret ?_
      exact J_returnV2 (PV' := [.cell a_1 [v_2, .int .i64 Vars_3, v_18], .row (t_Gdiff_Leq).o 39 v_18 r_11.2]) rfl (rv_cell (cs := [.int .i64 0, .int .i64 0, .int .i64 0, .int .i64 0]) (v := .agg #[.int .i64 0, .int .i64 0, .int .i64 0, .int .i64 0]) 3 Try.pu33 Try.pi33 rfl rfl rfl (by decide) rfl) rv_tmp [0, 1] (by decide) rfl ⟨v_18, rfl, rfl, rfl⟩
    · refine J_skip ?_
      refine J_then ?_
      refine J_seq ?_
      refine J_region ?_
      refine JL_op rfl (op_read rfl rfl (r_move (v := .pointer (some (Addr.add a_1 0))) rfl) ?_)
      refine JL_op rfl (op_read rfl rfl (r_nilCheck (a := (Addr.add a_1 0)) rfl) ?_)
      refine JL_op rfl (op_read rfl rfl (r_fieldAddr (r := Addr.add a_1 1) Try.pu28 (f := Try.pf28.getD 1 default) rfl Try.pi3 (by decide) rfl (Addr.add_add _ _ _)) ?_)
      refine JL_op rfl (op_read rfl rfl (r_load_priv (a := a_1) (off := 1) (cs' := [.int .i64 Vars_3]) (v := .int .i64 Vars_3) 0 Try.pu3 Try.pi3 rfl rfl rfl rfl (by decide) rfl) ?_)
      refine JL_op rfl (op_read rfl rfl (r_add rfl rfl) ?_)
      refine JL_op rfl (op_read rfl rfl (r_nilCheck (a := (Addr.add a_1 0)) rfl) ?_)
      refine JL_op rfl (op_read rfl rfl (r_fieldAddr (r := Addr.add a_1 1) Try.pu28 (f := Try.pf28.getD 1 default) rfl Try.pi3 (by decide) rfl (Addr.add_add _ _ _)) ?_)
      refine JL_op rfl (op_store_priv (a := a_1) (off := 1) (vs := [.int .i64 (IntKind.i64.wrap (Vars_3 + 1))]) (cs' := [v_2, .int .i64 (IntKind.i64.wrap (Vars_3 + 1)), v_18]) (PV' := [.cell a_1 [v_2, .int .i64 (IntKind.i64.wrap (Vars_3 + 1)), v_18], .row (t_Gdiff_Leq).o 39 v_18 r_11.2, .row (t_Gdiff_Leq).o 39 v_9 (⟨[(⟨Vars_3, 0, 1099511627776⟩ : Gdiff_Leq), (⟨0, Vars_3, 1099511627776⟩ : Gdiff_Leq)], true⟩ : Sl Gdiff_Leq), .cell c_6 [.int .i64 0, .int .i64 0, .int .i64 0, .int .i64 0]]) 0 Try.pi3 rfl rfl rfl ⟨rfl, trivial⟩ rfl rfl rfl rfl rfl ?_)
      refine JL_nil ?_
      refine J_then ?_
      refine J_seq ?_
      refine J_region ?_
      refine JL_op rfl (op_read rfl rfl (r_move (v := .int .i64 Vars_3) rfl) ?_)
      refine JL_op rfl (op_read rfl rfl (r_build (cs := [.int .i64 1, .int .i64 Vars_3, .int .i64 0, .int .i64 0]) (vs := [(0, .int .i64 1), (1, .int .i64 Vars_3)]) (pcs := [(0, [.int .i64 1]), (1, [.int .i64 Vars_3])]) (pls := [(0, 1), (1, 1), (2, 1), (3, 1)]) Try.pu33 Try.pi33 rfl (by kernel_rfl) rfl ⟨rfl, rfl, ⟨rfl, rfl, trivial⟩⟩ rfl) ?_)
      refine JL_op rfl (op_store_priv (a := c_6) (off := 0) (vs := [.int .i64 1, .int .i64 Vars_3, .int .i64 0, .int .i64 0]) (cs' := [.int .i64 1, .int .i64 Vars_3, .int .i64 0, .int .i64 0]) (PV' := [.cell a_1 [v_2, .int .i64 (IntKind.i64.wrap (Vars_3 + 1)), v_18], .row (t_Gdiff_Leq).o 39 v_18 r_11.2, .row (t_Gdiff_Leq).o 39 v_9 (⟨[(⟨Vars_3, 0, 1099511627776⟩ : Gdiff_Leq), (⟨0, Vars_3, 1099511627776⟩ : Gdiff_Leq)], true⟩ : Sl Gdiff_Leq), .cell c_6 [.int .i64 1, .int .i64 Vars_3, .int .i64 0, .int .i64 0]]) 3 Try.pi33 rfl rfl rfl ⟨rfl, rfl, rfl, rfl, trivial⟩ rfl rfl rfl rfl rfl ?_)
      refine JL_op rfl (op_read rfl rfl (r_assign (v := .int .i64 0) rfl) ?_)
      refine JL_nil ?_
      refine J_then ?_
      refine J_ret ?_
      exact J_returnV2 (PV' := [.cell a_1 [v_2, .int .i64 (IntKind.i64.wrap (Vars_3 + 1)), v_18], .row (t_Gdiff_Leq).o 39 v_18 r_11.2]) rfl (rv_cell (cs := [.int .i64 1, .int .i64 Vars_3, .int .i64 0, .int .i64 0]) (v := .agg #[.int .i64 1, .int .i64 Vars_3, .int .i64 0, .int .i64 0]) 3 Try.pu33 Try.pi33 rfl rfl rfl (by decide) rfl) rv_tmp [0, 1] (by decide) rfl ⟨v_18, rfl, rfl, rfl⟩
def heap_Over_1_post (σ0 : FS) (v_1 : Int) (a_2 : Addr) (v_3 : Value) (x_4 : Sl Gheap_Sym) (r : Int × Int) (σ : FS) (PV : List Priv) (v : Value) : Prop :=
  σ0 = σ ∧ .tuple #[.int .i64 r.1, .int .i64 r.2] = v ∧ PV = [.cell a_2 [v_3], .row (t_Gheap_Sym).o 33 v_3 x_4]
set_option maxRecDepth 100000 in
theorem heap_Over_1_ref (s : Start) (σ : FS) (v_1 : Int) (a_2 : Addr) (v_3 : Value) (x_4 : Sl Gheap_Sym) (hs : Pre s σ [.cell a_2 [v_3], .row (t_Gheap_Sym).o 33 v_3 x_4]) (r : Int × Int) (hr : heap_Over_1 v_1 x_4 = some r) : Does Try.prog 27 [.int .i64 v_1, .pointer (some (Addr.add a_2 0))] s σ (heap_Over_1_post σ v_1 a_2 v_3 x_4 r) := by
  unfold heap_Over_1 at hr
  refine does_of_J Try.func27 rfl (n := 28) rfl rfl hs hr ?_
  refine J_seq ?_
  refine J_region ?_
  refine JL_op rfl (op_read rfl rfl (r_assign (v := .int .i64 0) rfl) ?_)
  refine JL_op rfl (op_read rfl rfl (r_assign (v := .int .i64 0) rfl) ?_)
  refine JL_nil ?_
  refine J_then ?_
  refine J_seq ?_
  refine J_seq ?_
  refine J_region ?_
  refine JL_op rfl (op_read rfl rfl (r_move (v := .int .i64 v_1) rfl) ?_)
  refine JL_op rfl (op_read rfl rfl (r_eql rfl rfl) ?_)
  refine JL_op rfl (op_read rfl rfl (r_move (v := .bool (decide (v_1 = 0))) rfl) ?_)
  refine J_forkLB (e := (decide (v_1 = 0))) 8 (fun (y : Bool) L τ PV => σ = τ ∧ L = [(0, .int .i64 v_1), (1, .pointer (some (Addr.add a_2 0))), (15, .bool y)] ∧ PV = [.cell a_2 [v_3], .row (t_Gheap_Sym).o 33 v_3 x_4]) (fun hc_5 hk => ?_) (fun hc_5 hk => ?_) ?_
  · refine JL_skip rfl rfl hc_5 rfl rfl ?_
    refine JL_skip rfl rfl hc_5 rfl rfl ?_
    refine JL_skip rfl rfl hc_5 rfl rfl ?_
    refine JL_skip rfl rfl hc_5 rfl rfl ?_
    refine JL_skip rfl rfl hc_5 rfl rfl ?_
    refine JL_skip rfl rfl hc_5 rfl rfl ?_
    refine JL_skip rfl rfl hc_5 rfl rfl ?_
    refine JL_op rfl (op_read rfl rfl (r_pick_t (v := .bool true) rfl hc_5 rfl) ?_)
    refine J_prune _ ?_ fun b => hk true _ b _ _ ⟨rfl, rfl, rfl⟩
    exact ⟨rfl, rfl, rfl, trivial⟩
  · refine JL_opg rfl rfl hc_5 (op_read rfl rfl (r_load_priv (a := a_2) (off := 0) (cs' := [v_3]) (v := v_3) 0 Try.pu23 Try.pi23 rfl rfl rfl rfl (by decide) rfl) ?_)
    refine JL_opg rfl rfl hc_5 (op_read rfl rfl (r_move (v := .int .i64 v_1) rfl) ?_)
    refine JL_opg rfl rfl hc_5 (op_read rfl rfl (r_sub rfl rfl) ?_)
    refine J_assoc ?_
    refine J_bind fun x_7 hx_8 => ?_
    refine JL_opg rfl rfl hc_5 (op_read rfl rfl (r_index_row (v := v_3) (T := (t_Gheap_Sym).o) (q := x_7) 1 Try.pu23 Try.pi33 rfl rfl rfl rfl hx_8) ?_)
    refine JL_opg rfl rfl hc_5 (op_read rfl rfl (r_fieldAddr (r := elemAddr v_3 ((IntKind.i64.wrap (v_1 - 1)).toNat * ((t_Gheap_Sym).o).size + 0)) Try.pu33 (f := Try.pf33.getD 0 default) rfl Try.pi31 (by decide) rfl (elemAddr_add _ _ _)) ?_)
    refine JL_opg rfl rfl hc_5 (op_reads rfl rfl (l_elem_orow (v := v_3) (T := (t_Gheap_Sym).o) (Tf := (tInt .i64)) (q := x_7) (i := (IntKind.i64.wrap (v_1 - 1))) (off := 0) 1 Try.pu31 Try.pi31 rfl rfl rfl rfl hx_8 (OFieldAt.of f_Gheap_Sym_Kind) (by decide)) ?_)
    intro v_9 h_10
    obtain rfl := tInt_v.1 h_10
    refine JL_opg rfl rfl hc_5 (op_read rfl rfl (r_neq rfl rfl) ?_)
    refine JL_op rfl (op_read rfl rfl (r_pick_f (v := .bool (decide (x_7.Kind ≠ 1))) rfl hc_5 rfl) ?_)
    refine J_prune _ ?_ fun b => hk (decide (x_7.Kind ≠ 1)) _ b _ _ ⟨rfl, rfl, rfl⟩
    exact ⟨rfl, rfl, rfl, trivial⟩
  · rintro y_6 _ b s_13 _ ⟨rfl, rfl, rfl⟩
    refine JL_nil ?_
    refine J_then ?_
    refine J_cond rfl (fun hc_14 => ?_) (fun hc_14 => ?_)
    · refine J_seq ?_
      refine J_region ?_
      refine JL_op rfl (op_read rfl rfl (r_assign (v := .int .i64 0) rfl) ?_)
      refine JL_op rfl (op_read rfl rfl (r_assign (v := .int .i64 0) rfl) ?_)
      refine JL_nil ?_
      refine J_then ?_
      refine J_ret ?_
      refine J_then_ret ?_
      exact J_returnV2 (PV' := [.cell a_2 [v_3], .row (t_Gheap_Sym).o 33 v_3 x_4]) rfl rv_tmp rv_tmp [0, 1] (by decide) rfl ⟨rfl, rfl, rfl⟩
    · refine J_skip ?_
      refine J_then ?_
      refine J_seq ?_
      refine J_region_any 14 [.cell a_2 [v_3], .row (t_Gheap_Sym).o 33 v_3 x_4] Try.mixed (by kernel_rfl) fun hns => ?_
      refine JA_take 0 rfl hns (by kernel_rfl) (by kernel_rfl) (by kernel_rfl) rfl (by kernel_rfl) (by exact HeldOK.same [0, 1] (by decide) rfl) rfl rfl rfl (r_load_priv (a := a_2) (off := 0) (cs' := [v_3]) (v := v_3) 0 Try.pu23 Try.pi23 rfl rfl rfl rfl (by decide) rfl) ?_
      refine JA_takep 1 rfl hns (by kernel_rfl) (by kernel_rfl) rfl (.inr (by exact HeldOK.same [0, 1] (by decide) rfl)) rfl rfl rfl (r_move (v := .int .i64 v_1) rfl) ?_
      refine JA_takep 2 rfl hns (by kernel_rfl) (by kernel_rfl) rfl (.inr (by exact HeldOK.same [0, 1] (by decide) rfl)) rfl rfl rfl (r_sub rfl rfl) ?_
      refine J_bind fun x_16 hx_17 => ?_
      refine JA_take 3 rfl hns (by kernel_rfl) (by kernel_rfl) (by kernel_rfl) rfl (by kernel_rfl) (by exact HeldOK.same [0, 1] (by decide) rfl) rfl rfl rfl (r_index_row (v := v_3) (T := (t_Gheap_Sym).o) (q := x_16) 1 Try.pu23 Try.pi33 rfl rfl rfl rfl hx_17) ?_
      refine JA_takep 4 rfl hns (by kernel_rfl) (by kernel_rfl) rfl (.inr (by exact HeldOK.same [0, 1] (by decide) rfl)) rfl rfl rfl (r_fieldAddr (r := elemAddr v_3 ((IntKind.i64.wrap (v_1 - 1)).toNat * ((t_Gheap_Sym).o).size + 1)) Try.pu33 (f := Try.pf33.getD 1 default) rfl Try.pi3 (by decide) rfl (elemAddr_add _ _ _)) ?_
      refine JA_takes 5 rfl hns (by kernel_rfl) (by kernel_rfl) (by kernel_rfl) rfl (by kernel_rfl) (by exact HeldOK.same [0, 1] (by decide) rfl) rfl rfl rfl (l_elem_orow (v := v_3) (T := (t_Gheap_Sym).o) (Tf := (tInt .i64)) (q := x_16) (i := (IntKind.i64.wrap (v_1 - 1))) (off := 1) 1 Try.pu3 Try.pi3 rfl rfl rfl rfl hx_17 (OFieldAt.of f_Gheap_Sym_Var) (by decide)) ?_
      intro v_18 h_19
      obtain rfl := tInt_v.1 h_19
      refine JA_take 6 rfl hns (by kernel_rfl) (by kernel_rfl) (by kernel_rfl) rfl (by kernel_rfl) (by exact HeldOK.same [0, 1] (by decide) rfl) rfl rfl rfl (r_load_priv (a := a_2) (off := 0) (cs' := [v_3]) (v := v_3) 0 Try.pu23 Try.pi23 rfl rfl rfl rfl (by decide) rfl) ?_
      refine JA_takep 7 rfl hns (by kernel_rfl) (by kernel_rfl) rfl (.inr (by exact HeldOK.same [0, 1] (by decide) rfl)) rfl rfl rfl (r_move (v := .int .i64 v_1) rfl) ?_
      refine JA_takep 8 rfl hns (by kernel_rfl) (by kernel_rfl) rfl (.inr (by exact HeldOK.same [0, 1] (by decide) rfl)) rfl rfl rfl (r_sub rfl rfl) ?_
      refine JA_take 9 rfl hns (by kernel_rfl) (by kernel_rfl) (by kernel_rfl) rfl (by kernel_rfl) (by exact HeldOK.same [0, 1] (by decide) rfl) rfl rfl rfl (r_index_row (v := v_3) (T := (t_Gheap_Sym).o) (q := x_16) 1 Try.pu23 Try.pi33 rfl rfl rfl rfl hx_17) ?_
      refine JA_takep 10 rfl hns (by kernel_rfl) (by kernel_rfl) rfl (.inr (by exact HeldOK.same [0, 1] (by decide) rfl)) rfl rfl rfl (r_fieldAddr (r := elemAddr v_3 ((IntKind.i64.wrap (v_1 - 1)).toNat * ((t_Gheap_Sym).o).size + 2)) Try.pu33 (f := Try.pf33.getD 2 default) rfl Try.pi2 (by decide) rfl (elemAddr_add _ _ _)) ?_
      refine JA_takes 11 rfl hns (by kernel_rfl) (by kernel_rfl) (by kernel_rfl) rfl (by kernel_rfl) (by exact HeldOK.same [0, 1] (by decide) rfl) rfl rfl rfl (l_elem_orow (v := v_3) (T := (t_Gheap_Sym).o) (Tf := (tInt .i64)) (q := x_16) (i := (IntKind.i64.wrap (v_1 - 1))) (off := 2) 1 Try.pu2 Try.pi2 rfl rfl rfl rfl hx_17 (OFieldAt.of f_Gheap_Sym_K) (by decide)) ?_
      intro v_20 h_21
      obtain rfl := tInt_v.1 h_21
      refine JA_takep 12 rfl hns (by kernel_rfl) (by kernel_rfl) rfl (.inr (by exact HeldOK.same [0, 1] (by decide) rfl)) rfl rfl rfl (r_assign (v := .int .i64 x_16.Var) rfl) ?_
      refine JA_takep 13 rfl hns (by kernel_rfl) (by kernel_rfl) rfl (.inr (by exact HeldOK.same [0, 1] (by decide) rfl)) rfl rfl rfl (r_assign (v := .int .i64 x_16.K) rfl) ?_
      refine JA_done (by kernel_rfl) ?_
      refine J_then ?_
      refine J_ret ?_
      exact J_returnV2 (PV' := [.cell a_2 [v_3], .row (t_Gheap_Sym).o 33 v_3 x_4]) rfl rv_tmp rv_tmp [0, 1] (by decide) rfl ⟨rfl, rfl, rfl⟩
end Go.Px
