/- The calls do what the models say, part 2. -/
import Derived.Test.YtpeglggahhlabaaMd
import Derived.Test.YtpeglggahhlabaaCV
import Derived.Test.YtpeglggahhlabaaRf1
namespace Go.Px
open Go.Proofs
set_option linter.unusedVariables false
def cert_Circle_v2_post (σ0 : FS) (v_1 : Value) (cycle_2 : Sl Int) (v_4 : Value) (x_5 : Sl Gdiff_Leq) (r : Bool) (σ : FS) (PV : List Priv) (v : Value) : Prop :=
  σ0 = σ ∧ .bool r = v ∧ PV = [.row (t_Gdiff_Leq).o 37 v_4 x_5]
set_option maxRecDepth 100000 in
theorem cert_Circle_v2_ref (s : Start) (σ : FS) (v_1 : Value) (cycle_2 : Sl Int) (h_3 : (tSl (tInt .i64)).vrel σ v_1 cycle_2) (v_4 : Value) (x_5 : Sl Gdiff_Leq) (hs : Pre s σ [.row (t_Gdiff_Leq).o 37 v_4 x_5]) (r : Bool) (hr : cert_Circle_v2 cycle_2 x_5 = some r) : Does Try.prog 10 [v_1, v_4] s σ (cert_Circle_v2_post σ v_1 cycle_2 v_4 x_5 r) := by
  unfold cert_Circle_v2 at hr
  refine does_of_J Try.func10 rfl (n := 68) rfl rfl hs hr ?_
  refine J_seq ?_
  refine J_region ?_
  refine J_row_one 0 rfl fun h_6 => ?_
  refine JL_op rfl (op_box (cs := [v_4]) rfl (one_cells h_6) ?_)
  intro c_7
  refine JL_op rfl (op_read rfl rfl (r_assign (v := .bool false) rfl) ?_)
  refine JL_nil ?_
  refine J_then ?_
  refine J_seq ?_
  refine J_seq ?_
  refine J_region ?_
  refine JL_op rfl (op_read rfl rfl (r_move (v := v_1) rfl) ?_)
  refine JL_op rfl (op_read rfl rfl (r_len_frozen (v := v_1) Try.pu22 rfl h_3) ?_)
  refine JL_op rfl (op_read rfl rfl (r_eql rfl rfl) ?_)
  refine JL_op rfl (op_read rfl rfl (r_move (v := .bool (decide (cycle_2.len = 0))) rfl) ?_)
  refine J_forkL (e := (decide (cycle_2.len = 0))) 4 [(0, v_1), (3, .pointer (some (Addr.add c_7 0))), (16, .bool (decide (cycle_2.len = 0) || decide (65536 < cycle_2.len)))] (fun hc_9 hk => ?_) (fun hc_9 hk => ?_) (fun b => ?_)
  · refine JL_skip rfl rfl hc_9 rfl rfl ?_
    refine JL_skip rfl rfl hc_9 rfl rfl ?_
    refine JL_skip rfl rfl hc_9 rfl rfl ?_
    refine JL_op rfl (op_read rfl rfl (r_pick_t (v := .bool true) rfl hc_9 rfl) ?_)
    refine J_prune [(0, v_1), (3, .pointer (some (Addr.add c_7 0))), (16, .bool (decide (cycle_2.len = 0) || decide (65536 < cycle_2.len)))] ⟨rfl, rfl, (by show Value.bool _ = Value.bool _; rw [hc_9]; rfl), trivial⟩ hk
  · refine JL_opg rfl rfl hc_9 (op_read rfl rfl (r_move (v := v_1) rfl) ?_)
    refine JL_opg rfl rfl hc_9 (op_read rfl rfl (r_len_frozen (v := v_1) Try.pu22 rfl h_3) ?_)
    refine JL_opg rfl rfl hc_9 (op_read rfl rfl (r_gtr rfl rfl) ?_)
    refine JL_op rfl (op_read rfl rfl (r_pick_f (v := .bool (decide (65536 < cycle_2.len))) rfl hc_9 rfl) ?_)
    refine J_prune [(0, v_1), (3, .pointer (some (Addr.add c_7 0))), (16, .bool (decide (cycle_2.len = 0) || decide (65536 < cycle_2.len)))] ⟨rfl, rfl, (by show Value.bool _ = Value.bool _; rw [hc_9]; rfl), trivial⟩ hk
  · refine JL_op rfl (op_read rfl rfl (r_move (v := .bool (decide (cycle_2.len = 0) || decide (65536 < cycle_2.len))) rfl) ?_)
    refine J_forkLB (e := (decide (cycle_2.len = 0) || decide (65536 < cycle_2.len))) 4 (fun (y : Bool) L τ PV => σ = τ ∧ L = [(0, v_1), (3, .pointer (some (Addr.add c_7 0))), (21, .bool y)] ∧ PV = [.cell c_7 [v_4], .row (t_Gdiff_Leq).o 37 v_4 x_5]) (fun hc_10 hk => ?_) (fun hc_10 hk => ?_) ?_
    · refine JL_skip rfl rfl hc_10 rfl rfl ?_
      refine JL_skip rfl rfl hc_10 rfl rfl ?_
      refine JL_skip rfl rfl hc_10 rfl rfl ?_
      refine JL_op rfl (op_read rfl rfl (r_pick_t (v := .bool true) rfl hc_10 rfl) ?_)
      refine J_prune _ ?_ fun b => hk true _ b _ _ ⟨rfl, rfl, rfl⟩
      exact ⟨rfl, rfl, rfl, trivial⟩
    · refine JL_opg rfl rfl hc_10 (op_read rfl rfl (r_move (v := v_1) rfl) ?_)
      refine JL_opg rfl rfl hc_10 (op_read rfl rfl (r_makeFunc (fs := []) (cs := [.pointer (some (Addr.add c_7 0))]) rfl rfl) ?_)
      refine J_assoc ?_
      refine JL_opg rfl rfl hc_10 (op_call (f := 19) (fn := Try.f19) (args := [v_1, .func (.func 20) #[] #[.pointer (some (Addr.add c_7 0))]]) (post := slices_ContainsFunc_v4_post σ v_1 cycle_2 c_7 v_4 x_5) [.cell c_7 [v_4], .row (t_Gdiff_Leq).o 37 v_4 x_5] [] rfl rfl rfl Try.func19 Try.pn19 rfl rfl (fun y st hy hpre => slices_ContainsFunc_v4_ref st σ v_1 cycle_2 h_3 c_7 v_4 x_5 hpre y hy) ?_)
      intro r_12 v_14 s_17 PV_15 hr_13 hle_18 hp_16
      obtain ⟨rfl, rfl, rfl⟩ := hp_16
      refine JL_op rfl (op_read rfl rfl (r_pick_f (v := .bool r_12) rfl hc_10 rfl) ?_)
      refine J_prune _ ?_ fun b => hk r_12 _ b _ _ ⟨rfl, rfl, rfl⟩
      exact ⟨rfl, rfl, rfl, trivial⟩
    · rintro y_11 _ b s_21 _ ⟨rfl, rfl, rfl⟩
      refine JL_nil ?_
      refine J_then ?_
      refine J_cond rfl (fun hc_22 => ?_) (fun hc_22 => ?_)
      · refine J_seq ?_
        refine J_region ?_
        refine JL_op rfl (op_read rfl rfl (r_assign (v := .bool false) rfl) ?_)
        refine JL_nil ?_
        refine J_then ?_
        refine J_ret ?_
        refine J_then_ret ?_
        exact J_returnV1 (PV' := [.row (t_Gdiff_Leq).o 37 v_4 x_5]) rfl rv_tmp [1] (by decide) rfl ⟨rfl, rfl, rfl⟩
      · refine J_skip ?_
        refine J_then ?_
        refine J_seq ?_
        refine J_region ?_
        refine JL_op rfl (op_read rfl rfl (r_assign (v := .int .i64 0) rfl) ?_)
        refine JL_nil ?_
        refine J_then ?_
        refine J_seq ?_
        refine J_region_any 8 [.cell c_7 [v_4], .row (t_Gdiff_Leq).o 37 v_4 x_5] Try.mixed (by kernel_rfl) fun hns => ?_
        have hS_23 : HeldOK σ [.cell c_7 [v_4], .row (t_Gdiff_Leq).o 37 v_4 x_5] σ [.cell c_7 [v_4], .row (t_Gdiff_Leq).o 37 v_4 x_5] := HeldOK.same [0, 1] (by decide) rfl
        refine JA_take 0 rfl hns (by kernel_rfl) (by kernel_rfl) (by kernel_rfl) rfl (by kernel_rfl) hS_23 rfl rfl rfl (r_load_priv (a := c_7) (off := 0) (cs' := [v_4]) (v := v_4) 0 Try.pu23 Try.pi23 rfl rfl rfl rfl (by decide) rfl) ?_
        refine JA_takep 1 rfl hns (by kernel_rfl) (by kernel_rfl) rfl (.inr hS_23) rfl rfl rfl (r_move (v := v_1) rfl) ?_
        refine J_bind fun x_24 hx_25 => ?_
        refine JA_takep 2 rfl hns (by kernel_rfl) (by kernel_rfl) rfl (.inr hS_23) rfl rfl rfl (r_index_frozen (v := v_1) (T := (tInt .i64)) (q := x_24) Try.pu22 Try.pi3 rfl rfl rfl h_3 hx_25) ?_
        refine JA_takes 3 rfl hns (by kernel_rfl) (by kernel_rfl) (by kernel_rfl) rfl (by kernel_rfl) hS_23 rfl rfl rfl (l_elem_frozen (v := v_1) (T := (tInt .i64)) (Tf := (tInt .i64)) (q := x_24) (i := 0) (off := 0) Try.pu3 Try.pi3 rfl rfl rfl h_3 hx_25 (FieldAt.self _) (by decide)) ?_
        intro v_26 h_27
        obtain rfl := tInt_v.1 h_27
        refine J_bind fun x_28 hx_29 => ?_
        refine JA_take 4 rfl hns (by kernel_rfl) (by kernel_rfl) (by kernel_rfl) rfl (by kernel_rfl) hS_23 rfl rfl rfl (r_index_row (v := v_4) (T := (t_Gdiff_Leq).o) (q := x_28) 1 Try.pu23 Try.pi37 rfl rfl rfl rfl hx_29) ?_
        refine JA_takep 5 rfl hns (by kernel_rfl) (by kernel_rfl) rfl (.inr hS_23) rfl rfl rfl (r_fieldAddr (r := elemAddr v_4 ((x_24).toNat * ((t_Gdiff_Leq).o).size + 0)) Try.pu37 (f := Try.pf37.getD 0 default) rfl Try.pi3 (by decide) rfl (elemAddr_add _ _ _)) ?_
        refine JA_takes 6 rfl hns (by kernel_rfl) (by kernel_rfl) (by kernel_rfl) rfl (by kernel_rfl) hS_23 rfl rfl rfl (l_elem_orow (v := v_4) (T := (t_Gdiff_Leq).o) (Tf := (tInt .i64)) (q := x_28) (i := x_24) (off := 0) 1 Try.pu3 Try.pi3 rfl rfl rfl rfl hx_29 (OFieldAt.of f_Gdiff_Leq_X) (by decide)) ?_
        intro v_30 h_31
        obtain rfl := tInt_v.1 h_31
        refine JA_takep 7 rfl hns (by kernel_rfl) (by kernel_rfl) rfl (.inr hS_23) rfl rfl rfl (r_assign (v := .int .i64 x_28.X) rfl) ?_
        refine JA_done (by kernel_rfl) ?_
        refine J_then ?_
        refine J_seq ?_
        refine J_seq ?_
        refine J_region ?_
        refine JL_op rfl (op_read rfl rfl (r_move (v := v_1) rfl) ?_)
        refine JL_op rfl (op_read rfl rfl (r_len_frozen (v := v_1) Try.pu22 rfl h_3) ?_)
        refine JL_op rfl (op_read rfl rfl (r_move (v := .int .i64 0) rfl) ?_)
        refine JL_nil ?_
        refine J_then ?_
        refine J_block ?_
        refine J_loop (fun (y : Int × Int × Int) L τ PV => σ = τ ∧ L = [(0, v_1), (3, .pointer (some (Addr.add c_7 0))), (5, .int .i64 y.1), (6, .int .i64 y.2.1), (29, v_1), (30, .int .i64 cycle_2.len), (31, .int .i64 y.2.2)] ∧ PV = [.cell c_7 [v_4], .row (t_Gdiff_Leq).o 37 v_4 x_5]) (fun (y : W2 (Int × Int) Unit) e L τ PV => match y, e with | .a y, e => e = .exit 0 ∧ (σ = τ ∧ L = [(0, v_1), (3, .pointer (some (Addr.add c_7 0))), (5, .int .i64 y.1), (6, .int .i64 y.2)] ∧ PV = [.cell c_7 [v_4], .row (t_Gdiff_Leq).o 37 v_4 x_5]) | .b y, e => e = .ret ∧ (σ = τ ∧ L = [(4, .bool false)] ∧ PV = [.row (t_Gdiff_Leq).o 37 v_4 x_5])) _ ?_ ⟨rfl, rfl, rfl⟩ ?_ ?_
        · exact ⟨rfl, rfl, rfl, rfl, rfl, rfl, rfl, trivial⟩
        · rintro x_32 _ b s_35 _ ⟨rfl, rfl, rfl⟩
          unfold cert_Circle_v2_L1
          refine J_seq ?_
          refine J_region ?_
          refine JL_op rfl (op_read rfl rfl (r_lss rfl rfl) ?_)
          refine JL_nil ?_
          refine J_then ?_
          refine J_seq ?_
          refine J_cond rfl (fun hc_36 => ?_) (fun hc_36 => ?_)
          · refine J_skip ?_
            refine J_then ?_
            refine J_seq ?_
            refine J_block ?_
            refine J_seq ?_
            refine J_region ?_
            refine J_bind fun x_37 hx_38 => ?_
            refine JL_op rfl (op_read rfl rfl (r_index_frozen (v := v_1) (T := (tInt .i64)) (q := x_37) Try.pu22 Try.pi3 rfl rfl rfl h_3 hx_38) ?_)
            refine JL_op rfl (op_reads rfl rfl (l_elem_frozen (v := v_1) (T := (tInt .i64)) (Tf := (tInt .i64)) (q := x_37) (i := x_32.2.2) (off := 0) Try.pu3 Try.pi3 rfl rfl rfl h_3 hx_38 (FieldAt.self _) (by decide)) ?_)
            intro v_39 h_40
            obtain rfl := tInt_v.1 h_40
            refine JL_op rfl (op_read rfl rfl (r_assign (v := .int .i64 x_37) rfl) ?_)
            refine JL_nil ?_
            refine J_then ?_
            refine J_seq ?_
            refine J_seq ?_
            refine J_region ?_
            refine JL_op rfl (op_read rfl rfl (r_load_priv (a := c_7) (off := 0) (cs' := [v_4]) (v := v_4) 0 Try.pu23 Try.pi23 rfl rfl rfl rfl (by decide) rfl) ?_)
            refine JL_op rfl (op_read rfl rfl (r_move (v := .int .i64 x_37) rfl) ?_)
            refine J_bind fun x_41 hx_42 => ?_
            refine JL_op rfl (op_read rfl rfl (r_index_row (v := v_4) (T := (t_Gdiff_Leq).o) (q := x_41) 1 Try.pu23 Try.pi37 rfl rfl rfl rfl hx_42) ?_)
            refine JL_op rfl (op_read rfl rfl (r_fieldAddr (r := elemAddr v_4 ((x_37).toNat * ((t_Gdiff_Leq).o).size + 0)) Try.pu37 (f := Try.pf37.getD 0 default) rfl Try.pi3 (by decide) rfl (elemAddr_add _ _ _)) ?_)
            refine JL_op rfl (op_reads rfl rfl (l_elem_orow (v := v_4) (T := (t_Gdiff_Leq).o) (Tf := (tInt .i64)) (q := x_41) (i := x_37) (off := 0) 1 Try.pu3 Try.pi3 rfl rfl rfl rfl hx_42 (OFieldAt.of f_Gdiff_Leq_X) (by decide)) ?_)
            intro v_43 h_44
            obtain rfl := tInt_v.1 h_44
            refine JL_op rfl (op_read rfl rfl (r_move (v := .int .i64 x_32.2.1) rfl) ?_)
            refine JL_op rfl (op_read rfl rfl (r_neq rfl rfl) ?_)
            refine JL_nil ?_
            refine J_then ?_
            refine J_cond rfl (fun hc_45 => ?_) (fun hc_45 => ?_)
            · refine J_seq ?_
              refine J_region ?_
              refine JL_op rfl (op_read rfl rfl (r_assign (v := .bool false) rfl) ?_)
              refine JL_nil ?_
              refine J_then ?_
              refine J_ret ?_
              refine J_then_ret ?_
              refine J_in_ret ?_
              refine J_then_ret ?_
              refine J_select (PV' := [.row (t_Gdiff_Leq).o 37 v_4 x_5]) [1] (by decide) rfl ?_
              refine J_done trivial _ ?_ ⟨rfl, rfl, rfl, rfl⟩
              exact ⟨rfl, trivial⟩
            · refine J_skip ?_
              refine J_then ?_
              refine J_seq ?_
              refine J_region ?_
              refine JL_op rfl (op_read rfl rfl (r_load_priv (a := c_7) (off := 0) (cs' := [v_4]) (v := v_4) 0 Try.pu23 Try.pi23 rfl rfl rfl rfl (by decide) rfl) ?_)
              refine JL_op rfl (op_read rfl rfl (r_move (v := .int .i64 x_37) rfl) ?_)
              refine JL_op rfl (op_read rfl rfl (r_index_row (v := v_4) (T := (t_Gdiff_Leq).o) (q := x_41) 1 Try.pu23 Try.pi37 rfl rfl rfl rfl hx_42) ?_)
              refine JL_op rfl (op_read rfl rfl (r_fieldAddr (r := elemAddr v_4 ((x_37).toNat * ((t_Gdiff_Leq).o).size + 1)) Try.pu37 (f := Try.pf37.getD 1 default) rfl Try.pi3 (by decide) rfl (elemAddr_add _ _ _)) ?_)
              refine JL_op rfl (op_reads rfl rfl (l_elem_orow (v := v_4) (T := (t_Gdiff_Leq).o) (Tf := (tInt .i64)) (q := x_41) (i := x_37) (off := 1) 1 Try.pu3 Try.pi3 rfl rfl rfl rfl hx_42 (OFieldAt.of f_Gdiff_Leq_Y) (by decide)) ?_)
              intro v_46 h_47
              obtain rfl := tInt_v.1 h_47
              refine JL_op rfl (op_read rfl rfl (r_assign (v := .int .i64 x_41.Y) rfl) ?_)
              refine JL_nil ?_
              refine J_then ?_
              refine J_region ?_
              refine JL_op rfl (op_read rfl rfl (r_move (v := .int .i64 x_32.1) rfl) ?_)
              refine JL_op rfl (op_read rfl rfl (r_load_priv (a := c_7) (off := 0) (cs' := [v_4]) (v := v_4) 0 Try.pu23 Try.pi23 rfl rfl rfl rfl (by decide) rfl) ?_)
              refine JL_op rfl (op_read rfl rfl (r_move (v := .int .i64 x_37) rfl) ?_)
              refine JL_op rfl (op_read rfl rfl (r_index_row (v := v_4) (T := (t_Gdiff_Leq).o) (q := x_41) 1 Try.pu23 Try.pi37 rfl rfl rfl rfl hx_42) ?_)
              refine JL_op rfl (op_read rfl rfl (r_fieldAddr (r := elemAddr v_4 ((x_37).toNat * ((t_Gdiff_Leq).o).size + 2)) Try.pu37 (f := Try.pf37.getD 2 default) rfl Try.pi2 (by decide) rfl (elemAddr_add _ _ _)) ?_)
              refine JL_op rfl (op_reads rfl rfl (l_elem_orow (v := v_4) (T := (t_Gdiff_Leq).o) (Tf := (tInt .i64)) (q := x_41) (i := x_37) (off := 2) 1 Try.pu2 Try.pi2 rfl rfl rfl rfl hx_42 (OFieldAt.of f_Gdiff_Leq_C) (by decide)) ?_)
              intro v_48 h_49
              obtain rfl := tInt_v.1 h_49
              refine JL_op rfl (op_read rfl rfl (r_add rfl rfl) ?_)
              refine JL_op rfl (op_read rfl rfl (r_assign (v := .int .i64 (IntKind.i64.wrap (x_32.1 + x_41.C))) rfl) ?_)
              refine JL_nil ?_
              refine J_in_normal ?_
              refine J_then ?_
              refine J_region ?_
              refine JL_op rfl (op_read rfl rfl (r_add rfl rfl) ?_)
              refine JL_op rfl (op_read rfl rfl (r_move (v := .int .i64 (IntKind.i64.wrap (x_32.2.2 + 1))) rfl) ?_)
              refine JL_nil ?_
              refine J_next _ ?_ ⟨rfl, rfl, rfl⟩
              exact ⟨rfl, rfl, rfl, rfl, rfl, rfl, rfl, trivial⟩
          · refine J_exit ?_
            refine J_then_exit ?_
            refine J_done trivial _ ?_ ⟨rfl, rfl, rfl, rfl⟩
            exact ⟨rfl, rfl, rfl, rfl, trivial⟩
        · rintro (y_51 | y_61) e L b τ PV ht
          · obtain ⟨rfl, ht⟩ := ht
            revert ht; revert PV; revert τ; revert b; revert L
            rintro _ b s_54 _ ⟨rfl, rfl, rfl⟩
            refine J_in_exit ?_
            refine J_then ?_
            refine J_seq ?_
            refine J_region_any 14 [.cell c_7 [v_4], .row (t_Gdiff_Leq).o 37 v_4 x_5] Try.mixed (by kernel_rfl) fun hns => ?_
            have hS_55 : HeldOK σ [.cell c_7 [v_4], .row (t_Gdiff_Leq).o 37 v_4 x_5] σ [.cell c_7 [v_4], .row (t_Gdiff_Leq).o 37 v_4 x_5] := HeldOK.same [0, 1] (by decide) rfl
            refine JA_takep 0 rfl hns (by kernel_rfl) (by kernel_rfl) rfl (.inr hS_55) rfl rfl rfl (r_move (v := .int .i64 y_51.2) rfl) ?_
            refine JA_take 1 rfl hns (by kernel_rfl) (by kernel_rfl) (by kernel_rfl) rfl (by kernel_rfl) hS_55 rfl rfl rfl (r_load_priv (a := c_7) (off := 0) (cs' := [v_4]) (v := v_4) 0 Try.pu23 Try.pi23 rfl rfl rfl rfl (by decide) rfl) ?_
            refine JA_takep 2 rfl hns (by kernel_rfl) (by kernel_rfl) rfl (.inr hS_55) rfl rfl rfl (r_move (v := v_1) rfl) ?_
            refine JA_takep 3 rfl hns (by kernel_rfl) (by kernel_rfl) rfl (.inr hS_55) rfl rfl rfl (r_index_frozen (v := v_1) (T := (tInt .i64)) (q := x_24) Try.pu22 Try.pi3 rfl rfl rfl h_3 hx_25) ?_
            refine JA_takes 4 rfl hns (by kernel_rfl) (by kernel_rfl) (by kernel_rfl) rfl (by kernel_rfl) hS_55 rfl rfl rfl (l_elem_frozen (v := v_1) (T := (tInt .i64)) (Tf := (tInt .i64)) (q := x_24) (i := 0) (off := 0) Try.pu3 Try.pi3 rfl rfl rfl h_3 hx_25 (FieldAt.self _) (by decide)) ?_
            intro v_56 h_57
            obtain rfl := tInt_v.1 h_57
            refine JA_take 5 rfl hns (by kernel_rfl) (by kernel_rfl) (by kernel_rfl) rfl (by kernel_rfl) hS_55 rfl rfl rfl (r_index_row (v := v_4) (T := (t_Gdiff_Leq).o) (q := x_28) 1 Try.pu23 Try.pi37 rfl rfl rfl rfl hx_29) ?_
            refine JA_takep 6 rfl hns (by kernel_rfl) (by kernel_rfl) rfl (.inr hS_55) rfl rfl rfl (r_fieldAddr (r := elemAddr v_4 ((x_24).toNat * ((t_Gdiff_Leq).o).size + 0)) Try.pu37 (f := Try.pf37.getD 0 default) rfl Try.pi3 (by decide) rfl (elemAddr_add _ _ _)) ?_
            refine JA_takes 7 rfl hns (by kernel_rfl) (by kernel_rfl) (by kernel_rfl) rfl (by kernel_rfl) hS_55 rfl rfl rfl (l_elem_orow (v := v_4) (T := (t_Gdiff_Leq).o) (Tf := (tInt .i64)) (q := x_28) (i := x_24) (off := 0) 1 Try.pu3 Try.pi3 rfl rfl rfl rfl hx_29 (OFieldAt.of f_Gdiff_Leq_X) (by decide)) ?_
            intro v_58 h_59
            obtain rfl := tInt_v.1 h_59
            refine JA_takep 8 rfl hns (by kernel_rfl) (by kernel_rfl) rfl (.inr hS_55) rfl rfl rfl (r_eql rfl rfl) ?_
            refine JA_takep 9 rfl hns (by kernel_rfl) (by kernel_rfl) rfl (.inr hS_55) rfl rfl rfl (r_move (v := .bool (decide (y_51.2 = x_28.X))) rfl) ?_
            refine J_forkA (e := (decide (y_51.2 = x_28.X))) 1 #[true, true, true, true, true, true, true, true, true, true, true, true, true, false] [(67, .bool (decide (y_51.2 = x_28.X) && decide (y_51.1 < 0)))] (fun hc_60 hk => ?_) (fun hc_60 hk => ?_) (fun b => ?_)
            · refine JA_takepg 10 rfl hns (by kernel_rfl) (by kernel_rfl) rfl (.inr hS_55) rfl rfl hc_60 rfl rfl (r_move (v := .int .i64 y_51.1) rfl) ?_
              refine JA_takepg 11 rfl hns (by kernel_rfl) (by kernel_rfl) rfl (.inr hS_55) rfl rfl hc_60 rfl rfl (r_lss rfl rfl) ?_
              refine JA_takep 12 rfl hns (by kernel_rfl) (by kernel_rfl) rfl (.inr hS_55) rfl rfl rfl (r_pick_t (v := .bool (decide (y_51.1 < 0))) rfl hc_60 rfl) ?_
              refine J_prune [(67, .bool (decide (y_51.2 = x_28.X) && decide (y_51.1 < 0)))] ⟨(by show Value.bool _ = Value.bool _; rw [hc_60]; rfl), trivial⟩ hk
            · refine JA_skip (y := some (decide (y_51.2 = x_28.X))) 10 rfl hns (by kernel_rfl) (by kernel_rfl) rfl (.inr hS_55) rfl rfl (by rw [hc_60]; decide) rfl rfl ?_
              refine JA_skip (y := some (decide (y_51.2 = x_28.X))) 11 rfl hns (by kernel_rfl) (by kernel_rfl) rfl (.inr hS_55) rfl rfl (by rw [hc_60]; decide) rfl rfl ?_
              refine JA_takep 12 rfl hns (by kernel_rfl) (by kernel_rfl) rfl (.inr hS_55) rfl rfl rfl (r_pick_f (v := .bool false) rfl hc_60 rfl) ?_
              refine J_prune [(67, .bool (decide (y_51.2 = x_28.X) && decide (y_51.1 < 0)))] ⟨(by show Value.bool _ = Value.bool _; rw [hc_60]; rfl), trivial⟩ hk
            · refine JA_takep 13 rfl hns (by kernel_rfl) (by kernel_rfl) rfl (.inr hS_55) rfl rfl rfl (r_assign (v := .bool (decide (y_51.2 = x_28.X) && decide (y_51.1 < 0))) rfl) ?_
              refine JA_done (by kernel_rfl) ?_
              refine J_then ?_
              refine J_ret ?_
              exact J_returnV1 (PV' := [.row (t_Gdiff_Leq).o 37 v_4 x_5]) rfl rv_tmp [1] (by decide) rfl ⟨rfl, rfl, rfl⟩
          · obtain ⟨rfl, ht⟩ := ht
            revert ht; revert PV; revert τ; revert b; revert L
            rintro _ b s_64 _ ⟨rfl, rfl, rfl⟩
            refine J_in_ret ?_
            refine J_then_ret ?_
            exact J_returnV1 (PV' := [.row (t_Gdiff_Leq).o 37 v_4 x_5]) rfl rv_tmp [0] (by decide) rfl ⟨rfl, rfl, rfl⟩
def cert_Holds_1_v2_post (σ0 : FS) (v_1 : Value) (f_2 : Gdiff_Leq) (a_4 : Addr) (v_5 : Value) (x_6 : Sl Int) (r : Bool) (σ : FS) (PV : List Priv) (v : Value) : Prop :=
  σ0 = σ ∧ .bool r = v ∧ PV = [.cell a_4 [v_5], .row ((tInt .i64)).o 2 v_5 x_6]
set_option maxRecDepth 100000 in
theorem cert_Holds_1_v2_ref (s : Start) (σ : FS) (v_1 : Value) (f_2 : Gdiff_Leq) (h_3 : t_Gdiff_Leq.vrel σ v_1 f_2) (a_4 : Addr) (v_5 : Value) (x_6 : Sl Int) (hs : Pre s σ [.cell a_4 [v_5], .row ((tInt .i64)).o 2 v_5 x_6]) (r : Bool) (hr : cert_Holds_1_v2 f_2 x_6 = some r) : Does Try.prog 23 [v_1, .pointer (some (Addr.add a_4 0))] s σ (cert_Holds_1_v2_post σ v_1 f_2 a_4 v_5 x_6 r) := by
  unfold cert_Holds_1_v2 at hr
  obtain rfl := t_Gdiff_Leq_v.1 h_3
  refine does_of_J Try.func23 rfl (n := 60) rfl rfl hs hr ?_
  refine J_seq ?_
  refine J_region ?_
  refine JL_op rfl (op_box (cs := [.int .i64 f_2.X, .int .i64 f_2.Y, .int .i64 f_2.C]) rfl rfl ?_)
  intro c_7
  refine JL_op rfl (op_read rfl rfl (r_assign (v := .bool false) rfl) ?_)
  refine JL_nil ?_
  refine J_then ?_
  refine J_seq ?_
  refine J_seq ?_
  refine J_region ?_
  refine JL_op rfl (op_read rfl rfl (r_fieldAddr (r := Addr.add c_7 0) Try.pu37 (f := Try.pf37.getD 0 default) rfl Try.pi3 (by decide) rfl (Addr.add_add _ _ _)) ?_)
  refine JL_op rfl (op_read rfl rfl (r_load_priv (a := c_7) (off := 0) (cs' := [.int .i64 f_2.X]) (v := .int .i64 f_2.X) 0 Try.pu3 Try.pi3 rfl rfl rfl rfl (by decide) rfl) ?_)
  refine JL_op rfl (op_read rfl rfl (r_lss rfl rfl) ?_)
  refine JL_op rfl (op_read rfl rfl (r_move (v := .bool (decide (f_2.X < 0))) rfl) ?_)
  refine J_forkL (e := (decide (f_2.X < 0))) 6 [(1, .pointer (some (Addr.add a_4 0))), (2, .pointer (some (Addr.add c_7 0))), (15, .bool (decide (f_2.X < 0) || decide (x_6.len ≤ f_2.X)))] (fun hc_9 hk => ?_) (fun hc_9 hk => ?_) (fun b => ?_)
  · refine JL_skip rfl rfl hc_9 rfl rfl ?_
    refine JL_skip rfl rfl hc_9 rfl rfl ?_
    refine JL_skip rfl rfl hc_9 rfl rfl ?_
    refine JL_skip rfl rfl hc_9 rfl rfl ?_
    refine JL_skip rfl rfl hc_9 rfl rfl ?_
    refine JL_op rfl (op_read rfl rfl (r_pick_t (v := .bool true) rfl hc_9 rfl) ?_)
    refine J_prune [(1, .pointer (some (Addr.add a_4 0))), (2, .pointer (some (Addr.add c_7 0))), (15, .bool (decide (f_2.X < 0) || decide (x_6.len ≤ f_2.X)))] ⟨rfl, rfl, (by show Value.bool _ = Value.bool _; rw [hc_9]; rfl), trivial⟩ hk
  · refine JL_opg rfl rfl hc_9 (op_read rfl rfl (r_fieldAddr (r := Addr.add c_7 0) Try.pu37 (f := Try.pf37.getD 0 default) rfl Try.pi3 (by decide) rfl (Addr.add_add _ _ _)) ?_)
    refine JL_opg rfl rfl hc_9 (op_read rfl rfl (r_load_priv (a := c_7) (off := 0) (cs' := [.int .i64 f_2.X]) (v := .int .i64 f_2.X) 0 Try.pu3 Try.pi3 rfl rfl rfl rfl (by decide) rfl) ?_)
    refine JL_opg rfl rfl hc_9 (op_read rfl rfl (r_load_priv (a := a_4) (off := 0) (cs' := [v_5]) (v := v_5) 1 Try.pu30 Try.pi30 rfl rfl rfl rfl (by decide) rfl) ?_)
    refine JL_opg rfl rfl hc_9 (op_read rfl rfl (r_len_row (v := v_5) 2 Try.pu30 rfl rfl) ?_)
    refine JL_opg rfl rfl hc_9 (op_read rfl rfl (r_geq rfl rfl) ?_)
    refine JL_op rfl (op_read rfl rfl (r_pick_f (v := .bool (decide (x_6.len ≤ f_2.X))) rfl hc_9 rfl) ?_)
    refine J_prune [(1, .pointer (some (Addr.add a_4 0))), (2, .pointer (some (Addr.add c_7 0))), (15, .bool (decide (f_2.X < 0) || decide (x_6.len ≤ f_2.X)))] ⟨rfl, rfl, (by show Value.bool _ = Value.bool _; rw [hc_9]; rfl), trivial⟩ hk
  · refine JL_op rfl (op_read rfl rfl (r_move (v := .bool (decide (f_2.X < 0) || decide (x_6.len ≤ f_2.X))) rfl) ?_)
    refine J_forkL (e := (decide (f_2.X < 0) || decide (x_6.len ≤ f_2.X))) 4 [(1, .pointer (some (Addr.add a_4 0))), (2, .pointer (some (Addr.add c_7 0))), (20, .bool ((decide (f_2.X < 0) || decide (x_6.len ≤ f_2.X)) || decide (f_2.Y < 0)))] (fun hc_10 hk => ?_) (fun hc_10 hk => ?_) (fun b => ?_)
    · refine JL_skip rfl rfl hc_10 rfl rfl ?_
      refine JL_skip rfl rfl hc_10 rfl rfl ?_
      refine JL_skip rfl rfl hc_10 rfl rfl ?_
      refine JL_op rfl (op_read rfl rfl (r_pick_t (v := .bool true) rfl hc_10 rfl) ?_)
      refine J_prune [(1, .pointer (some (Addr.add a_4 0))), (2, .pointer (some (Addr.add c_7 0))), (20, .bool ((decide (f_2.X < 0) || decide (x_6.len ≤ f_2.X)) || decide (f_2.Y < 0)))] ⟨rfl, rfl, (by show Value.bool _ = Value.bool _; rw [hc_10]; rfl), trivial⟩ hk
    · refine JL_opg rfl rfl hc_10 (op_read rfl rfl (r_fieldAddr (r := Addr.add c_7 1) Try.pu37 (f := Try.pf37.getD 1 default) rfl Try.pi3 (by decide) rfl (Addr.add_add _ _ _)) ?_)
      refine JL_opg rfl rfl hc_10 (op_read rfl rfl (r_load_priv (a := c_7) (off := 1) (cs' := [.int .i64 f_2.Y]) (v := .int .i64 f_2.Y) 0 Try.pu3 Try.pi3 rfl rfl rfl rfl (by decide) rfl) ?_)
      refine JL_opg rfl rfl hc_10 (op_read rfl rfl (r_lss rfl rfl) ?_)
      refine JL_op rfl (op_read rfl rfl (r_pick_f (v := .bool (decide (f_2.Y < 0))) rfl hc_10 rfl) ?_)
      refine J_prune [(1, .pointer (some (Addr.add a_4 0))), (2, .pointer (some (Addr.add c_7 0))), (20, .bool ((decide (f_2.X < 0) || decide (x_6.len ≤ f_2.X)) || decide (f_2.Y < 0)))] ⟨rfl, rfl, (by show Value.bool _ = Value.bool _; rw [hc_10]; rfl), trivial⟩ hk
    · refine JL_op rfl (op_read rfl rfl (r_move (v := .bool ((decide (f_2.X < 0) || decide (x_6.len ≤ f_2.X)) || decide (f_2.Y < 0))) rfl) ?_)
      refine J_forkL (e := ((decide (f_2.X < 0) || decide (x_6.len ≤ f_2.X)) || decide (f_2.Y < 0))) 6 [(1, .pointer (some (Addr.add a_4 0))), (2, .pointer (some (Addr.add c_7 0))), (27, .bool (((decide (f_2.X < 0) || decide (x_6.len ≤ f_2.X)) || decide (f_2.Y < 0)) || decide (x_6.len ≤ f_2.Y)))] (fun hc_11 hk => ?_) (fun hc_11 hk => ?_) (fun b => ?_)
      · refine JL_skip rfl rfl hc_11 rfl rfl ?_
        refine JL_skip rfl rfl hc_11 rfl rfl ?_
        refine JL_skip rfl rfl hc_11 rfl rfl ?_
        refine JL_skip rfl rfl hc_11 rfl rfl ?_
        refine JL_skip rfl rfl hc_11 rfl rfl ?_
        refine JL_op rfl (op_read rfl rfl (r_pick_t (v := .bool true) rfl hc_11 rfl) ?_)
        refine J_prune [(1, .pointer (some (Addr.add a_4 0))), (2, .pointer (some (Addr.add c_7 0))), (27, .bool (((decide (f_2.X < 0) || decide (x_6.len ≤ f_2.X)) || decide (f_2.Y < 0)) || decide (x_6.len ≤ f_2.Y)))] ⟨rfl, rfl, (by show Value.bool _ = Value.bool _; rw [hc_11]; rfl), trivial⟩ hk
      · refine JL_opg rfl rfl hc_11 (op_read rfl rfl (r_fieldAddr (r := Addr.add c_7 1) Try.pu37 (f := Try.pf37.getD 1 default) rfl Try.pi3 (by decide) rfl (Addr.add_add _ _ _)) ?_)
        refine JL_opg rfl rfl hc_11 (op_read rfl rfl (r_load_priv (a := c_7) (off := 1) (cs' := [.int .i64 f_2.Y]) (v := .int .i64 f_2.Y) 0 Try.pu3 Try.pi3 rfl rfl rfl rfl (by decide) rfl) ?_)
        refine JL_opg rfl rfl hc_11 (op_read rfl rfl (r_load_priv (a := a_4) (off := 0) (cs' := [v_5]) (v := v_5) 1 Try.pu30 Try.pi30 rfl rfl rfl rfl (by decide) rfl) ?_)
        refine JL_opg rfl rfl hc_11 (op_read rfl rfl (r_len_row (v := v_5) 2 Try.pu30 rfl rfl) ?_)
        refine JL_opg rfl rfl hc_11 (op_read rfl rfl (r_geq rfl rfl) ?_)
        refine JL_op rfl (op_read rfl rfl (r_pick_f (v := .bool (decide (x_6.len ≤ f_2.Y))) rfl hc_11 rfl) ?_)
        refine J_prune [(1, .pointer (some (Addr.add a_4 0))), (2, .pointer (some (Addr.add c_7 0))), (27, .bool (((decide (f_2.X < 0) || decide (x_6.len ≤ f_2.X)) || decide (f_2.Y < 0)) || decide (x_6.len ≤ f_2.Y)))] ⟨rfl, rfl, (by show Value.bool _ = Value.bool _; rw [hc_11]; rfl), trivial⟩ hk
      · refine JL_nil ?_
        refine J_then ?_
        refine J_cond rfl (fun hc_12 => ?_) (fun hc_12 => ?_)
        · refine J_seq ?_
          refine J_region ?_
          refine JL_op rfl (op_read rfl rfl (r_assign (v := .bool true) rfl) ?_)
          refine JL_nil ?_
          refine J_then ?_
          refine J_ret ?_
          refine J_then_ret ?_
          exact J_returnV1 (PV' := [.cell a_4 [v_5], .row ((tInt .i64)).o 2 v_5 x_6]) rfl rv_tmp [1, 2] (by decide) rfl ⟨rfl, rfl, rfl⟩
        · refine J_skip ?_
          refine J_then ?_
          refine J_seq ?_
          refine J_region_any 12 [.cell c_7 [.int .i64 f_2.X, .int .i64 f_2.Y, .int .i64 f_2.C], .cell a_4 [v_5], .row ((tInt .i64)).o 2 v_5 x_6] Try.mixed (by kernel_rfl) fun hns => ?_
          have hS_13 : HeldOK σ [.cell c_7 [.int .i64 f_2.X, .int .i64 f_2.Y, .int .i64 f_2.C], .cell a_4 [v_5], .row ((tInt .i64)).o 2 v_5 x_6] σ [.cell c_7 [.int .i64 f_2.X, .int .i64 f_2.Y, .int .i64 f_2.C], .cell a_4 [v_5], .row ((tInt .i64)).o 2 v_5 x_6] := HeldOK.same [0, 1, 2] (by decide) rfl
          refine JA_take 0 rfl hns (by kernel_rfl) (by kernel_rfl) (by kernel_rfl) rfl (by kernel_rfl) hS_13 rfl rfl rfl (r_load_priv (a := a_4) (off := 0) (cs' := [v_5]) (v := v_5) 1 Try.pu30 Try.pi30 rfl rfl rfl rfl (by decide) rfl) ?_
          refine JA_takep 1 rfl hns (by kernel_rfl) (by kernel_rfl) rfl (.inr hS_13) rfl rfl rfl (r_fieldAddr (r := Addr.add c_7 0) Try.pu37 (f := Try.pf37.getD 0 default) rfl Try.pi3 (by decide) rfl (Addr.add_add _ _ _)) ?_
          refine JA_take 2 rfl hns (by kernel_rfl) (by kernel_rfl) (by kernel_rfl) rfl (by kernel_rfl) hS_13 rfl rfl rfl (r_load_priv (a := c_7) (off := 0) (cs' := [.int .i64 f_2.X]) (v := .int .i64 f_2.X) 0 Try.pu3 Try.pi3 rfl rfl rfl rfl (by decide) rfl) ?_
          refine J_bind fun x_14 hx_15 => ?_
          refine JA_take 3 rfl hns (by kernel_rfl) (by kernel_rfl) (by kernel_rfl) rfl (by kernel_rfl) hS_13 rfl rfl rfl (r_index_row (v := v_5) (T := ((tInt .i64)).o) (q := x_14) 2 Try.pu30 Try.pi2 rfl rfl rfl rfl hx_15) ?_
          refine JA_takes 4 rfl hns (by kernel_rfl) (by kernel_rfl) (by kernel_rfl) rfl (by kernel_rfl) hS_13 rfl rfl rfl (l_elem_orow (v := v_5) (T := ((tInt .i64)).o) (Tf := (tInt .i64)) (q := x_14) (i := f_2.X) (off := 0) 2 Try.pu2 Try.pi2 rfl rfl rfl rfl hx_15 (OFieldAt.self (T := ((tInt .i64)).o)) (by decide)) ?_
          intro v_16 h_17
          obtain rfl := tInt_v.1 h_17
          refine JA_take 5 rfl hns (by kernel_rfl) (by kernel_rfl) (by kernel_rfl) rfl (by kernel_rfl) hS_13 rfl rfl rfl (r_load_priv (a := a_4) (off := 0) (cs' := [v_5]) (v := v_5) 1 Try.pu30 Try.pi30 rfl rfl rfl rfl (by decide) rfl) ?_
          refine JA_takep 6 rfl hns (by kernel_rfl) (by kernel_rfl) rfl (.inr hS_13) rfl rfl rfl (r_fieldAddr (r := Addr.add c_7 1) Try.pu37 (f := Try.pf37.getD 1 default) rfl Try.pi3 (by decide) rfl (Addr.add_add _ _ _)) ?_
          refine JA_take 7 rfl hns (by kernel_rfl) (by kernel_rfl) (by kernel_rfl) rfl (by kernel_rfl) hS_13 rfl rfl rfl (r_load_priv (a := c_7) (off := 1) (cs' := [.int .i64 f_2.Y]) (v := .int .i64 f_2.Y) 0 Try.pu3 Try.pi3 rfl rfl rfl rfl (by decide) rfl) ?_
          refine J_bind fun x_18 hx_19 => ?_
          refine JA_take 8 rfl hns (by kernel_rfl) (by kernel_rfl) (by kernel_rfl) rfl (by kernel_rfl) hS_13 rfl rfl rfl (r_index_row (v := v_5) (T := ((tInt .i64)).o) (q := x_18) 2 Try.pu30 Try.pi2 rfl rfl rfl rfl hx_19) ?_
          refine JA_takes 9 rfl hns (by kernel_rfl) (by kernel_rfl) (by kernel_rfl) rfl (by kernel_rfl) hS_13 rfl rfl rfl (l_elem_orow (v := v_5) (T := ((tInt .i64)).o) (Tf := (tInt .i64)) (q := x_18) (i := f_2.Y) (off := 0) 2 Try.pu2 Try.pi2 rfl rfl rfl rfl hx_19 (OFieldAt.self (T := ((tInt .i64)).o)) (by decide)) ?_
          intro v_20 h_21
          obtain rfl := tInt_v.1 h_21
          refine JA_takep 10 rfl hns (by kernel_rfl) (by kernel_rfl) rfl (.inr hS_13) rfl rfl rfl (r_assign (v := .int .i64 x_14) rfl) ?_
          refine JA_takep 11 rfl hns (by kernel_rfl) (by kernel_rfl) rfl (.inr hS_13) rfl rfl rfl (r_assign (v := .int .i64 x_18) rfl) ?_
          refine JA_done (by kernel_rfl) ?_
          refine J_then ?_
          refine J_seq ?_
          refine J_region ?_
          refine JL_op rfl (op_read rfl rfl (r_fieldAddr (r := Addr.add c_7 2) Try.pu37 (f := Try.pf37.getD 2 default) rfl Try.pi2 (by decide) rfl (Addr.add_add _ _ _)) ?_)
          refine JL_op rfl (op_read rfl rfl (r_load_priv (a := c_7) (off := 2) (cs' := [.int .i64 f_2.C]) (v := .int .i64 f_2.C) 0 Try.pu2 Try.pi2 rfl rfl rfl rfl (by decide) rfl) ?_)
          refine JL_op rfl (op_call (f := 21) (fn := Try.f21) (args := [.int .i64 f_2.C, .int .i64 17592186044416]) (post := cert_within_post σ f_2.C 17592186044416) [] [.cell c_7 [.int .i64 f_2.X, .int .i64 f_2.Y, .int .i64 f_2.C], .cell a_4 [v_5], .row ((tInt .i64)).o 2 v_5 x_6] rfl rfl rfl Try.func21 Try.pn21 rfl rfl (fun y st hy hpre => cert_within_ref st σ f_2.C 17592186044416 hpre y hy) ?_)
          intro r_22 v_24 s_27 PV_25 hr_23 hle_28 hp_26
          obtain ⟨rfl, rfl, rfl⟩ := hp_26
          refine JL_op rfl (op_read rfl rfl (r_not rfl) ?_)
          refine JL_op rfl (op_read rfl rfl (r_move (v := .bool (!(decide (f_2.C ≤ 17592186044416) && decide ((IntKind.i64.wrap (0 - 17592186044416)) ≤ f_2.C)))) rfl) ?_)
          refine J_forkLB (e := (!(decide (f_2.C ≤ 17592186044416) && decide ((IntKind.i64.wrap (0 - 17592186044416)) ≤ f_2.C)))) 4 (fun (y : Bool) L τ PV => σ = τ ∧ L = [(2, .pointer (some (Addr.add c_7 0))), (4, .int .i64 x_14), (5, .int .i64 x_18), (46, .bool y)] ∧ PV = [.cell c_7 [.int .i64 f_2.X, .int .i64 f_2.Y, .int .i64 f_2.C], .cell a_4 [v_5], .row ((tInt .i64)).o 2 v_5 x_6]) (fun hc_29 hk => ?_) (fun hc_29 hk => ?_) ?_
          · refine JL_skip rfl rfl hc_29 rfl rfl ?_
            refine JL_skip rfl rfl hc_29 rfl rfl ?_
            refine JL_skip rfl rfl hc_29 rfl rfl ?_
            refine JL_op rfl (op_read rfl rfl (r_pick_t (v := .bool true) rfl hc_29 rfl) ?_)
            refine J_prune _ ?_ fun b => hk true _ b _ _ ⟨rfl, rfl, rfl⟩
            exact ⟨rfl, rfl, rfl, rfl, trivial⟩
          · refine JL_opg rfl rfl hc_29 (op_read rfl rfl (r_move (v := .int .i64 x_14) rfl) ?_)
            refine J_assoc ?_
            refine JL_opg rfl rfl hc_29 (op_call (f := 21) (fn := Try.f21) (args := [.int .i64 x_14, .int .i64 4503599627370496]) (post := cert_within_post σ x_14 4503599627370496) [] [.cell c_7 [.int .i64 f_2.X, .int .i64 f_2.Y, .int .i64 f_2.C], .cell a_4 [v_5], .row ((tInt .i64)).o 2 v_5 x_6] rfl rfl rfl Try.func21 Try.pn21 rfl rfl (fun y st hy hpre => cert_within_ref st σ x_14 4503599627370496 hpre y hy) ?_)
            intro r_31 v_33 s_36 PV_34 hr_32 hle_37 hp_35
            obtain ⟨rfl, rfl, rfl⟩ := hp_35
            refine JL_opg rfl rfl hc_29 (op_read rfl rfl (r_not rfl) ?_)
            refine JL_op rfl (op_read rfl rfl (r_pick_f (v := .bool (!(decide (x_14 ≤ 4503599627370496) && decide ((IntKind.i64.wrap (0 - 4503599627370496)) ≤ x_14)))) rfl hc_29 rfl) ?_)
            refine J_prune _ ?_ fun b => hk (!(decide (x_14 ≤ 4503599627370496) && decide ((IntKind.i64.wrap (0 - 4503599627370496)) ≤ x_14))) _ b _ _ ⟨rfl, rfl, rfl⟩
            exact ⟨rfl, rfl, rfl, rfl, trivial⟩
          · rintro y_30 _ b s_40 _ ⟨rfl, rfl, rfl⟩
            refine JL_op rfl (op_read rfl rfl (r_move (v := .bool y_30) rfl) ?_)
            refine J_forkLB (e := y_30) 4 (fun (y : Bool) L τ PV => σ = τ ∧ L = [(2, .pointer (some (Addr.add c_7 0))), (4, .int .i64 x_14), (5, .int .i64 x_18), (51, .bool y)] ∧ PV = [.cell c_7 [.int .i64 f_2.X, .int .i64 f_2.Y, .int .i64 f_2.C], .cell a_4 [v_5], .row ((tInt .i64)).o 2 v_5 x_6]) (fun hc_41 hk => ?_) (fun hc_41 hk => ?_) ?_
            · refine JL_skip rfl rfl hc_41 rfl rfl ?_
              refine JL_skip rfl rfl hc_41 rfl rfl ?_
              refine JL_skip rfl rfl hc_41 rfl rfl ?_
              refine JL_op rfl (op_read rfl rfl (r_pick_t (v := .bool true) rfl hc_41 rfl) ?_)
              refine J_prune _ ?_ fun b => hk true _ b _ _ ⟨rfl, rfl, rfl⟩
              exact ⟨rfl, rfl, rfl, rfl, trivial⟩
            · refine JL_opg rfl rfl hc_41 (op_read rfl rfl (r_move (v := .int .i64 x_18) rfl) ?_)
              refine J_assoc ?_
              refine JL_opg rfl rfl hc_41 (op_call (f := 21) (fn := Try.f21) (args := [.int .i64 x_18, .int .i64 4503599627370496]) (post := cert_within_post σ x_18 4503599627370496) [] [.cell c_7 [.int .i64 f_2.X, .int .i64 f_2.Y, .int .i64 f_2.C], .cell a_4 [v_5], .row ((tInt .i64)).o 2 v_5 x_6] rfl rfl rfl Try.func21 Try.pn21 rfl rfl (fun y st hy hpre => cert_within_ref st σ x_18 4503599627370496 hpre y hy) ?_)
              intro r_43 v_45 s_48 PV_46 hr_44 hle_49 hp_47
              obtain ⟨rfl, rfl, rfl⟩ := hp_47
              refine JL_opg rfl rfl hc_41 (op_read rfl rfl (r_not rfl) ?_)
              refine JL_op rfl (op_read rfl rfl (r_pick_f (v := .bool (!(decide (x_18 ≤ 4503599627370496) && decide ((IntKind.i64.wrap (0 - 4503599627370496)) ≤ x_18)))) rfl hc_41 rfl) ?_)
              refine J_prune _ ?_ fun b => hk (!(decide (x_18 ≤ 4503599627370496) && decide ((IntKind.i64.wrap (0 - 4503599627370496)) ≤ x_18))) _ b _ _ ⟨rfl, rfl, rfl⟩
              exact ⟨rfl, rfl, rfl, rfl, trivial⟩
            · rintro y_42 _ b s_52 _ ⟨rfl, rfl, rfl⟩
              refine JL_op rfl (op_read rfl rfl (r_move (v := .bool y_42) rfl) ?_)
              refine J_forkL (e := y_42) 7 [(59, .bool (y_42 || decide (f_2.C < (IntKind.i64.wrap (x_14 - x_18)))))] (fun hc_53 hk => ?_) (fun hc_53 hk => ?_) (fun b => ?_)
              · refine JL_skip rfl rfl hc_53 rfl rfl ?_
                refine JL_skip rfl rfl hc_53 rfl rfl ?_
                refine JL_skip rfl rfl hc_53 rfl rfl ?_
                refine JL_skip rfl rfl hc_53 rfl rfl ?_
                refine JL_skip rfl rfl hc_53 rfl rfl ?_
                refine JL_skip rfl rfl hc_53 rfl rfl ?_
                refine JL_op rfl (op_read rfl rfl (r_pick_t (v := .bool true) rfl hc_53 rfl) ?_)
                refine J_prune [(59, .bool (y_42 || decide (f_2.C < (IntKind.i64.wrap (x_14 - x_18)))))] ⟨(by show Value.bool _ = Value.bool _; rw [hc_53]; rfl), trivial⟩ hk
              · refine JL_opg rfl rfl hc_53 (op_read rfl rfl (r_move (v := .int .i64 x_14) rfl) ?_)
                refine JL_opg rfl rfl hc_53 (op_read rfl rfl (r_move (v := .int .i64 x_18) rfl) ?_)
                refine JL_opg rfl rfl hc_53 (op_read rfl rfl (r_sub rfl rfl) ?_)
                refine JL_opg rfl rfl hc_53 (op_read rfl rfl (r_fieldAddr (r := Addr.add c_7 2) Try.pu37 (f := Try.pf37.getD 2 default) rfl Try.pi2 (by decide) rfl (Addr.add_add _ _ _)) ?_)
                refine JL_opg rfl rfl hc_53 (op_read rfl rfl (r_load_priv (a := c_7) (off := 2) (cs' := [.int .i64 f_2.C]) (v := .int .i64 f_2.C) 0 Try.pu2 Try.pi2 rfl rfl rfl rfl (by decide) rfl) ?_)
                refine JL_opg rfl rfl hc_53 (op_read rfl rfl (r_gtr rfl rfl) ?_)
                refine JL_op rfl (op_read rfl rfl (r_pick_f (v := .bool (decide (f_2.C < (IntKind.i64.wrap (x_14 - x_18))))) rfl hc_53 rfl) ?_)
                refine J_prune [(59, .bool (y_42 || decide (f_2.C < (IntKind.i64.wrap (x_14 - x_18)))))] ⟨(by show Value.bool _ = Value.bool _; rw [hc_53]; rfl), trivial⟩ hk
              · refine JL_op rfl (op_read rfl rfl (r_assign (v := .bool (y_42 || decide (f_2.C < (IntKind.i64.wrap (x_14 - x_18))))) rfl) ?_)
                refine JL_nil ?_
                refine J_then ?_
                refine J_ret ?_
                exact J_returnV1 (PV' := [.cell a_4 [v_5], .row ((tInt .i64)).o 2 v_5 x_6]) rfl rv_tmp [1, 2] (by decide) rfl ⟨rfl, rfl, rfl⟩
def slices_IndexFunc_v5_post (σ0 : FS) (v_1 : Value) (x_2 : Sl Gdiff_Leq) (a_3 : Addr) (v_4 : Value) (x_5 : Sl Int) (r : Int) (σ : FS) (PV : List Priv) (v : Value) : Prop :=
  σ0 = σ ∧ .int .i64 r = v ∧ PV = [.row (t_Gdiff_Leq).o 37 v_1 x_2, .cell a_3 [v_4], .row ((tInt .i64)).o 2 v_4 x_5]
set_option maxRecDepth 100000 in
theorem slices_IndexFunc_v5_ref (s : Start) (σ : FS) (v_1 : Value) (x_2 : Sl Gdiff_Leq) (a_3 : Addr) (v_4 : Value) (x_5 : Sl Int) (hs : Pre s σ [.row (t_Gdiff_Leq).o 37 v_1 x_2, .cell a_3 [v_4], .row ((tInt .i64)).o 2 v_4 x_5]) (r : Int) (hr : slices_IndexFunc_v5 x_2 x_5 = some r) : Does Try.prog 31 [v_1, .func (.func 23) #[] #[.pointer (some (Addr.add a_3 0))]] s σ (slices_IndexFunc_v5_post σ v_1 x_2 a_3 v_4 x_5 r) := by
  unfold slices_IndexFunc_v5 at hr
  refine does_of_J Try.func31 rfl (n := 19) rfl rfl hs hr ?_
  refine J_seq ?_
  refine J_region ?_
  refine JL_op rfl (op_read rfl rfl (r_assign (v := .int .i64 0) rfl) ?_)
  refine JL_nil ?_
  refine J_then ?_
  refine J_seq ?_
  refine J_seq ?_
  refine J_region ?_
  refine JL_op rfl (op_read rfl rfl (r_move (v := v_1) rfl) ?_)
  refine JL_op rfl (op_read rfl rfl (r_len_row (v := v_1) 0 Try.pu23 rfl rfl) ?_)
  refine JL_op rfl (op_read rfl rfl (r_move (v := .int .i64 0) rfl) ?_)
  refine JL_nil ?_
  refine J_then ?_
  refine J_block ?_
  refine J_loop (fun (y : Int) L τ PV => σ = τ ∧ L = [(0, v_1), (1, .func (.func 23) #[] #[.pointer (some (Addr.add a_3 0))]), (7, .int .i64 x_2.len), (8, .int .i64 y)] ∧ PV = [.row (t_Gdiff_Leq).o 37 v_1 x_2, .cell a_3 [v_4], .row ((tInt .i64)).o 2 v_4 x_5]) (fun (y : W2 Unit Int) e L τ PV => match y, e with | .a y, e => e = .exit 0 ∧ (σ = τ ∧ L = [] ∧ PV = [.row (t_Gdiff_Leq).o 37 v_1 x_2, .cell a_3 [v_4], .row ((tInt .i64)).o 2 v_4 x_5]) | .b y, e => e = .ret ∧ (σ = τ ∧ L = [(4, .int .i64 y)] ∧ PV = [.row (t_Gdiff_Leq).o 37 v_1 x_2, .cell a_3 [v_4], .row ((tInt .i64)).o 2 v_4 x_5])) _ ?_ ⟨rfl, rfl, rfl⟩ ?_ ?_
  · exact ⟨rfl, rfl, rfl, rfl, trivial⟩
  · rintro x_6 _ b s_9 _ ⟨rfl, rfl, rfl⟩
    unfold slices_IndexFunc_v5_L1
    refine J_seq ?_
    refine J_region ?_
    refine JL_op rfl (op_read rfl rfl (r_lss rfl rfl) ?_)
    refine JL_nil ?_
    refine J_then ?_
    refine J_seq ?_
    refine J_cond rfl (fun hc_10 => ?_) (fun hc_10 => ?_)
    · refine J_skip ?_
      refine J_then ?_
      refine J_seq ?_
      refine J_block ?_
      refine J_seq ?_
      refine J_region ?_
      refine JL_op rfl (op_read rfl rfl (r_move (v := .int .i64 x_6) rfl) ?_)
      refine JL_op rfl (op_read rfl rfl (r_assign (v := .int .i64 x_6) rfl) ?_)
      refine JL_nil ?_
      refine J_then ?_
      refine J_seq ?_
      refine J_region ?_
      refine JL_op rfl (op_read rfl rfl (r_move (v := .func (.func 23) #[] #[.pointer (some (Addr.add a_3 0))]) rfl) ?_)
      refine JL_op rfl (op_read rfl rfl (r_move (v := v_1) rfl) ?_)
      refine JL_op rfl (op_read rfl rfl (r_move (v := .int .i64 x_6) rfl) ?_)
      refine J_bind fun x_11 hx_12 => ?_
      refine JL_op rfl (op_read rfl rfl (r_index_row (v := v_1) (T := (t_Gdiff_Leq).o) (q := x_11) 0 Try.pu23 Try.pi37 rfl rfl rfl rfl hx_12) ?_)
      refine JL_op rfl (op_reads rfl rfl (l_elem_orow (v := v_1) (T := (t_Gdiff_Leq).o) (Tf := t_Gdiff_Leq) (q := x_11) (i := x_6) (off := 0) 0 Try.pu37 Try.pi37 rfl rfl rfl rfl hx_12 (OFieldAt.self (T := (t_Gdiff_Leq).o)) (by decide)) ?_)
      intro v_13 h_14
      obtain rfl := t_Gdiff_Leq_v.1 h_14
      refine J_select (PV' := [.cell a_3 [v_4], .row ((tInt .i64)).o 2 v_4 x_5, .row (t_Gdiff_Leq).o 37 v_1 x_2]) [1, 2, 0] (by decide) rfl ?_
      refine JL_op rfl (op_call (f := 23) (fn := Try.f23) (args := [.agg #[.int .i64 x_11.X, .int .i64 x_11.Y, .int .i64 x_11.C], .pointer (some (Addr.add a_3 0))]) (post := cert_Holds_1_v2_post σ (.agg #[.int .i64 x_11.X, .int .i64 x_11.Y, .int .i64 x_11.C]) x_11 a_3 v_4 x_5) [.cell a_3 [v_4], .row ((tInt .i64)).o 2 v_4 x_5] [.row (t_Gdiff_Leq).o 37 v_1 x_2] rfl rfl rfl Try.func23 Try.pn23 rfl rfl (fun y st hy hpre => cert_Holds_1_v2_ref st σ (.agg #[.int .i64 x_11.X, .int .i64 x_11.Y, .int .i64 x_11.C]) x_11 (t_Gdiff_Leq_v.2 rfl) a_3 v_4 x_5 hpre y hy) ?_)
      intro r_15 v_17 s_20 PV_18 hr_16 hle_21 hp_19
      obtain ⟨rfl, rfl, rfl⟩ := hp_19
      refine JL_nil ?_
      refine J_then ?_
      refine J_cond rfl (fun hc_22 => ?_) (fun hc_22 => ?_)
      · refine J_seq ?_
        refine J_region ?_
        refine JL_op rfl (op_read rfl rfl (r_move (v := .int .i64 x_6) rfl) ?_)
        refine JL_op rfl (op_read rfl rfl (r_assign (v := .int .i64 x_6) rfl) ?_)
        refine JL_nil ?_
        refine J_then ?_
        refine J_ret ?_
        refine J_in_ret ?_
        refine J_then_ret ?_
        refine J_select (PV' := [.row (t_Gdiff_Leq).o 37 v_1 x_2, .cell a_3 [v_4], .row ((tInt .i64)).o 2 v_4 x_5]) [2, 0, 1] (by decide) rfl ?_
        refine J_done trivial _ ?_ ⟨rfl, rfl, rfl, rfl⟩
        exact ⟨rfl, trivial⟩
      · refine J_skip ?_
        refine J_in_normal ?_
        refine J_then ?_
        refine J_region ?_
        refine JL_op rfl (op_read rfl rfl (r_add rfl rfl) ?_)
        refine JL_op rfl (op_read rfl rfl (r_move (v := .int .i64 (IntKind.i64.wrap (x_6 + 1))) rfl) ?_)
        refine JL_nil ?_
        refine J_select (PV' := [.row (t_Gdiff_Leq).o 37 v_1 x_2, .cell a_3 [v_4], .row ((tInt .i64)).o 2 v_4 x_5]) [2, 0, 1] (by decide) rfl ?_
        refine J_next _ ?_ ⟨rfl, rfl, rfl⟩
        exact ⟨rfl, rfl, rfl, rfl, trivial⟩
    · refine J_exit ?_
      refine J_then_exit ?_
      refine J_done trivial _ ?_ ⟨rfl, rfl, rfl, rfl⟩
      exact trivial
  · rintro (y_24 | y_28) e L b τ PV ht
    · obtain ⟨rfl, ht⟩ := ht
      revert ht; revert PV; revert τ; revert b; revert L
      rintro _ b s_27 _ ⟨rfl, rfl, rfl⟩
      refine J_in_exit ?_
      refine J_then ?_
      refine J_seq ?_
      refine J_region ?_
      refine JL_op rfl (op_read rfl rfl (r_assign (v := .int .i64 (-1)) rfl) ?_)
      refine JL_nil ?_
      refine J_then ?_
      refine J_ret ?_
      exact J_returnV1 (PV' := [.row (t_Gdiff_Leq).o 37 v_1 x_2, .cell a_3 [v_4], .row ((tInt .i64)).o 2 v_4 x_5]) rfl rv_tmp [0, 1, 2] (by decide) rfl ⟨rfl, rfl, rfl⟩
    · obtain ⟨rfl, ht⟩ := ht
      revert ht; revert PV; revert τ; revert b; revert L
      rintro _ b s_31 _ ⟨rfl, rfl, rfl⟩
      refine J_in_ret ?_
      refine J_then_ret ?_
      exact J_returnV1 (PV' := [.row (t_Gdiff_Leq).o 37 v_1 x_2, .cell a_3 [v_4], .row ((tInt .i64)).o 2 v_4 x_5]) rfl rv_tmp [0, 1, 2] (by decide) rfl ⟨rfl, rfl, rfl⟩
def slices_ContainsFunc_v5_post (σ0 : FS) (v_1 : Value) (x_2 : Sl Gdiff_Leq) (a_3 : Addr) (v_4 : Value) (x_5 : Sl Int) (r : Bool) (σ : FS) (PV : List Priv) (v : Value) : Prop :=
  σ0 = σ ∧ .bool r = v ∧ PV = [.row (t_Gdiff_Leq).o 37 v_1 x_2, .cell a_3 [v_4], .row ((tInt .i64)).o 2 v_4 x_5]
set_option maxRecDepth 100000 in
theorem slices_ContainsFunc_v5_ref (s : Start) (σ : FS) (v_1 : Value) (x_2 : Sl Gdiff_Leq) (a_3 : Addr) (v_4 : Value) (x_5 : Sl Int) (hs : Pre s σ [.row (t_Gdiff_Leq).o 37 v_1 x_2, .cell a_3 [v_4], .row ((tInt .i64)).o 2 v_4 x_5]) (r : Bool) (hr : slices_ContainsFunc_v5 x_2 x_5 = some r) : Does Try.prog 22 [v_1, .func (.func 23) #[] #[.pointer (some (Addr.add a_3 0))]] s σ (slices_ContainsFunc_v5_post σ v_1 x_2 a_3 v_4 x_5 r) := by
  unfold slices_ContainsFunc_v5 at hr
  refine does_of_J Try.func22 rfl (n := 9) rfl rfl hs hr ?_
  refine J_seq ?_
  refine J_region ?_
  refine JL_op rfl (op_read rfl rfl (r_assign (v := .bool false) rfl) ?_)
  refine JL_nil ?_
  refine J_then ?_
  refine J_seq ?_
  refine J_region ?_
  refine JL_op rfl (op_read rfl rfl (r_move (v := v_1) rfl) ?_)
  refine JL_op rfl (op_read rfl rfl (r_move (v := .func (.func 23) #[] #[.pointer (some (Addr.add a_3 0))]) rfl) ?_)
  refine JL_op rfl (op_call (f := 31) (fn := Try.f31) (args := [v_1, .func (.func 23) #[] #[.pointer (some (Addr.add a_3 0))]]) (post := slices_IndexFunc_v5_post σ v_1 x_2 a_3 v_4 x_5) [.row (t_Gdiff_Leq).o 37 v_1 x_2, .cell a_3 [v_4], .row ((tInt .i64)).o 2 v_4 x_5] [] rfl rfl rfl Try.func31 Try.pn31 rfl rfl (fun y st hy hpre => slices_IndexFunc_v5_ref st σ v_1 x_2 a_3 v_4 x_5 hpre y hy) ?_)
  intro r_6 v_8 s_11 PV_9 hr_7 hle_12 hp_10
  obtain ⟨rfl, rfl, rfl⟩ := hp_10
  refine JL_op rfl (op_read rfl rfl (r_geq rfl rfl) ?_)
  refine JL_op rfl (op_read rfl rfl (r_assign (v := .bool (decide (0 ≤ r_6))) rfl) ?_)
  refine JL_nil ?_
  refine J_then ?_
  refine J_ret ?_
  exact J_returnV1 (PV' := [.row (t_Gdiff_Leq).o 37 v_1 x_2, .cell a_3 [v_4], .row ((tInt .i64)).o 2 v_4 x_5]) rfl rv_tmp [0, 1, 2] (by decide) rfl ⟨rfl, rfl, rfl⟩
def cert_Holds_v2_post (σ0 : FS) (v_1 : Value) (x_2 : Sl Int) (v_3 : Value) (x_4 : Sl Gdiff_Leq) (r : Bool) (σ : FS) (PV : List Priv) (v : Value) : Prop :=
  σ0 = σ ∧ .bool r = v ∧ PV = [.row ((tInt .i64)).o 2 v_1 x_2, .row (t_Gdiff_Leq).o 37 v_3 x_4]
set_option maxRecDepth 100000 in
theorem cert_Holds_v2_ref (s : Start) (σ : FS) (v_1 : Value) (x_2 : Sl Int) (v_3 : Value) (x_4 : Sl Gdiff_Leq) (hs : Pre s σ [.row ((tInt .i64)).o 2 v_1 x_2, .row (t_Gdiff_Leq).o 37 v_3 x_4]) (r : Bool) (hr : cert_Holds_v2 x_2 x_4 = some r) : Does Try.prog 13 [v_1, v_3] s σ (cert_Holds_v2_post σ v_1 x_2 v_3 x_4 r) := by
  unfold cert_Holds_v2 at hr
  refine does_of_J Try.func13 rfl (n := 9) rfl rfl hs hr ?_
  refine J_seq ?_
  refine J_region ?_
  refine J_row_one 0 rfl fun h_5 => ?_
  refine JL_op rfl (op_box (cs := [v_1]) rfl (one_cells h_5) ?_)
  intro c_6
  refine JL_op rfl (op_read rfl rfl (r_assign (v := .bool false) rfl) ?_)
  refine JL_nil ?_
  refine J_then ?_
  refine J_seq ?_
  refine J_region ?_
  refine JL_op rfl (op_read rfl rfl (r_move (v := v_3) rfl) ?_)
  refine JL_op rfl (op_read rfl rfl (r_makeFunc (fs := []) (cs := [.pointer (some (Addr.add c_6 0))]) rfl rfl) ?_)
  refine J_select (PV' := [.row (t_Gdiff_Leq).o 37 v_3 x_4, .cell c_6 [v_1], .row ((tInt .i64)).o 2 v_1 x_2]) [2, 0, 1] (by decide) rfl ?_
  refine JL_op rfl (op_call (f := 22) (fn := Try.f22) (args := [v_3, .func (.func 23) #[] #[.pointer (some (Addr.add c_6 0))]]) (post := slices_ContainsFunc_v5_post σ v_3 x_4 c_6 v_1 x_2) [.row (t_Gdiff_Leq).o 37 v_3 x_4, .cell c_6 [v_1], .row ((tInt .i64)).o 2 v_1 x_2] [] rfl rfl rfl Try.func22 Try.pn22 rfl rfl (fun y st hy hpre => slices_ContainsFunc_v5_ref st σ v_3 x_4 c_6 v_1 x_2 hpre y hy) ?_)
  intro r_8 v_10 s_13 PV_11 hr_9 hle_14 hp_12
  obtain ⟨rfl, rfl, rfl⟩ := hp_12
  refine JL_op rfl (op_read rfl rfl (r_not rfl) ?_)
  refine JL_op rfl (op_read rfl rfl (r_assign (v := .bool (!r_8)) rfl) ?_)
  refine JL_nil ?_
  refine J_then ?_
  refine J_ret ?_
  exact J_returnV1 (PV' := [.row ((tInt .i64)).o 2 v_1 x_2, .row (t_Gdiff_Leq).o 37 v_3 x_4]) rfl rv_tmp [2, 0] (by decide) rfl ⟨rfl, rfl, rfl⟩
def cert_Check_v2_post (σ0 : FS) (Yes_1 : Bool) (v_2 : Value) (Cycle_3 : Sl Int) (v_5 : Value) (x_6 : Sl Int) (n_7 : Int) (v_8 : Value) (goal_9 : Gdiff_Leq) (v_11 : Value) (x_12 : Sl Gdiff_Leq) (r : Bool) (σ : FS) (PV : List Priv) (v : Value) : Prop :=
  σ0 = σ ∧ .bool r = v ∧ PV = [.row ((tInt .i64)).o 2 v_5 x_6, .row (t_Gdiff_Leq).o 37 v_11 x_12]
set_option maxRecDepth 100000 in
theorem cert_Check_v2_ref (s : Start) (σ : FS) (Yes_1 : Bool) (v_2 : Value) (Cycle_3 : Sl Int) (h_4 : (tSl (tInt .i64)).vrel σ v_2 Cycle_3) (v_5 : Value) (x_6 : Sl Int) (n_7 : Int) (v_8 : Value) (goal_9 : Gdiff_Leq) (h_10 : t_Gdiff_Leq.vrel σ v_8 goal_9) (v_11 : Value) (x_12 : Sl Gdiff_Leq) (hs : Pre s σ [.row ((tInt .i64)).o 2 v_5 x_6, .row (t_Gdiff_Leq).o 37 v_11 x_12]) (r : Bool) (hr : cert_Check_v2 Yes_1 Cycle_3 x_6 n_7 goal_9 x_12 = some r) : Does Try.prog 15 [.agg #[.bool Yes_1, v_2, v_5], .int .i64 n_7, v_8, v_11] s σ (cert_Check_v2_post σ Yes_1 v_2 Cycle_3 v_5 x_6 n_7 v_8 goal_9 v_11 x_12 r) := by
  unfold cert_Check_v2 at hr
  obtain rfl := t_Gdiff_Leq_v.1 h_10
  refine does_of_J Try.func15 rfl (n := 59) rfl rfl hs hr ?_
  refine J_seq ?_
  refine J_region ?_
  refine J_row_one 0 rfl fun h_13 => ?_
  refine JL_op rfl (op_box (cs := [.bool Yes_1, v_2, v_5]) rfl rfl ?_)
  intro c_14
  refine JL_op rfl (op_box (cs := [.int .i64 goal_9.X, .int .i64 goal_9.Y, .int .i64 goal_9.C]) rfl rfl ?_)
  intro c_16
  refine JL_op rfl (op_read rfl rfl (r_assign (v := .bool false) rfl) ?_)
  refine JL_nil ?_
  refine J_then ?_
  refine J_seq ?_
  refine J_seq ?_
  refine J_region ?_
  refine JL_op rfl (op_read rfl rfl (r_move (v := .int .i64 n_7) rfl) ?_)
  refine JL_op rfl (op_read rfl rfl (r_load_priv (a := c_16) (off := 0) (cs' := [.int .i64 goal_9.X, .int .i64 goal_9.Y, .int .i64 goal_9.C]) (v := .agg #[.int .i64 goal_9.X, .int .i64 goal_9.Y, .int .i64 goal_9.C]) 0 Try.pu37 Try.pi37 rfl rfl rfl rfl (by decide) rfl) ?_)
  refine JL_op rfl (op_read rfl rfl (r_move (v := v_11) rfl) ?_)
  refine J_select (PV' := [.row (t_Gdiff_Leq).o 37 v_11 x_12, .cell c_16 [.int .i64 goal_9.X, .int .i64 goal_9.Y, .int .i64 goal_9.C], .cell c_14 [.bool Yes_1, v_2, v_5], .row ((tInt .i64)).o 2 v_5 x_6]) [3, 0, 1, 2] (by decide) rfl ?_
  refine JL_op rfl (op_call (f := 18) (fn := Try.f18) (args := [.int .i64 n_7, .agg #[.int .i64 goal_9.X, .int .i64 goal_9.Y, .int .i64 goal_9.C], v_11]) (post := diff_Entails_post σ n_7 (.agg #[.int .i64 goal_9.X, .int .i64 goal_9.Y, .int .i64 goal_9.C]) goal_9 v_11 x_12) [.row (t_Gdiff_Leq).o 37 v_11 x_12] [.cell c_16 [.int .i64 goal_9.X, .int .i64 goal_9.Y, .int .i64 goal_9.C], .cell c_14 [.bool Yes_1, v_2, v_5], .row ((tInt .i64)).o 2 v_5 x_6] rfl rfl rfl Try.func18 Try.pn18 rfl rfl (fun y st hy hpre => diff_Entails_ref st σ n_7 (.agg #[.int .i64 goal_9.X, .int .i64 goal_9.Y, .int .i64 goal_9.C]) goal_9 (t_Gdiff_Leq_v.2 rfl) v_11 x_12 hpre y hy) ?_)
  intro r_18 v_20 s_23 PV_21 hr_19 hle_24 hp_22
  obtain ⟨rfl, rfl, rfl⟩ := hp_22
  refine JL_op rfl (op_read rfl rfl (r_move (v := .tuple #[.bool r_18.1, .int .i64 r_18.2]) rfl) ?_)
  refine JL_op rfl (op_read rfl rfl (r_extract (v := .bool r_18.1) rfl rfl) ?_)
  refine JL_op rfl (op_read rfl rfl (r_extract (v := .int .i64 r_18.2) rfl rfl) ?_)
  refine JL_op rfl (op_read rfl rfl (r_assign (v := .bool r_18.1) rfl) ?_)
  refine JL_op rfl (op_read rfl rfl (r_assign (v := .int .i64 r_18.2) rfl) ?_)
  refine JL_nil ?_
  refine J_then ?_
  refine J_seq ?_
  refine J_region ?_
  refine JL_op rfl (op_read rfl rfl (r_move (v := .int .i64 r_18.2) rfl) ?_)
  refine JL_op rfl (op_read rfl rfl (r_neq rfl rfl) ?_)
  refine JL_nil ?_
  refine J_then ?_
  refine J_cond rfl (fun hc_25 => ?_) (fun hc_25 => ?_)
  · refine J_seq ?_
    refine J_region ?_
    refine JL_op rfl (op_read rfl rfl (r_assign (v := .bool false) rfl) ?_)
    refine JL_nil ?_
    refine J_then ?_
    refine J_ret ?_
    refine J_then_ret ?_
    exact J_returnV1 (PV' := [.row ((tInt .i64)).o 2 v_5 x_6, .row (t_Gdiff_Leq).o 37 v_11 x_12]) rfl rv_tmp [3, 0] (by decide) rfl ⟨rfl, rfl, rfl⟩
  · refine J_skip ?_
    refine J_then ?_
    refine J_seq ?_
    refine J_seq ?_
    refine J_region ?_
    refine JL_op rfl (op_read rfl rfl (r_fieldAddr (r := Addr.add c_14 0) Try.pu35 (f := Try.pf35.getD 0 default) rfl Try.pi4 (by decide) rfl (Addr.add_add _ _ _)) ?_)
    refine JL_op rfl (op_read rfl rfl (r_load_priv (a := c_14) (off := 0) (cs' := [.bool Yes_1]) (v := .bool Yes_1) 2 Try.pu4 Try.pi4 rfl rfl rfl rfl (by decide) rfl) ?_)
    refine JL_nil ?_
    refine J_then ?_
    refine J_cond rfl (fun hc_26 => ?_) (fun hc_26 => ?_)
    · refine J_seq ?_
      refine J_region_any 16 [.row (t_Gdiff_Leq).o 37 v_11 x_12, .cell c_16 [.int .i64 goal_9.X, .int .i64 goal_9.Y, .int .i64 goal_9.C], .cell c_14 [.bool Yes_1, v_2, v_5], .row ((tInt .i64)).o 2 v_5 x_6] Try.mixed (by kernel_rfl) fun hns => ?_
      have hS_27 : HeldOK σ [.row (t_Gdiff_Leq).o 37 v_11 x_12, .cell c_16 [.int .i64 goal_9.X, .int .i64 goal_9.Y, .int .i64 goal_9.C], .cell c_14 [.bool Yes_1, v_2, v_5], .row ((tInt .i64)).o 2 v_5 x_6] σ [.row (t_Gdiff_Leq).o 37 v_11 x_12, .cell c_16 [.int .i64 goal_9.X, .int .i64 goal_9.Y, .int .i64 goal_9.C], .cell c_14 [.bool Yes_1, v_2, v_5], .row ((tInt .i64)).o 2 v_5 x_6] := HeldOK.same [0, 1, 2, 3] (by decide) rfl
      refine JA_takep 0 rfl hns (by kernel_rfl) (by kernel_rfl) rfl (.inr hS_27) rfl rfl rfl (r_fieldAddr (r := Addr.add c_14 2) Try.pu35 (f := Try.pf35.getD 2 default) rfl Try.pi30 (by decide) rfl (Addr.add_add _ _ _)) ?_
      refine JA_take 1 rfl hns (by kernel_rfl) (by kernel_rfl) (by kernel_rfl) rfl (by kernel_rfl) hS_27 rfl rfl rfl (r_load_priv (a := c_14) (off := 2) (cs' := [v_5]) (v := v_5) 2 Try.pu30 Try.pi30 rfl rfl rfl rfl (by decide) rfl) ?_
      refine JA_take 2 rfl hns (by kernel_rfl) (by kernel_rfl) (by kernel_rfl) rfl (by kernel_rfl) hS_27 rfl rfl rfl (r_len_row (v := v_5) 3 Try.pu30 rfl rfl) ?_
      refine JA_takep 3 rfl hns (by kernel_rfl) (by kernel_rfl) rfl (.inr hS_27) rfl rfl rfl (r_eql rfl rfl) ?_
      refine JA_takep 4 rfl hns (by kernel_rfl) (by kernel_rfl) rfl (.inr hS_27) rfl rfl rfl (r_move (v := .bool (decide (x_6.len = 0))) rfl) ?_
      refine J_forkAB (e := (decide (x_6.len = 0))) 1 #[true, true, true, true, true, true, true, true, true, true, true, true, true, true, true, false] (fun (y : Bool) L τ PV => σ = τ ∧ L = [(8, .bool false), (36, .bool y)] ∧ PV = [.row (t_Gdiff_Leq).o 37 v_11 x_12, .cell c_16 [.int .i64 goal_9.X, .int .i64 goal_9.Y, .int .i64 goal_9.C], .cell c_14 [.bool Yes_1, v_2, v_5], .row ((tInt .i64)).o 2 v_5 x_6]) (fun hc_28 hk => ?_) (fun hc_28 hk => ?_) ?_
      · refine JA_takepg 5 rfl hns (by kernel_rfl) (by kernel_rfl) rfl (.inr hS_27) rfl rfl hc_28 rfl rfl (r_fieldAddr (r := Addr.add c_14 1) Try.pu35 (f := Try.pf35.getD 1 default) rfl Try.pi22 (by decide) rfl (Addr.add_add _ _ _)) ?_
        refine JA_takeg 6 rfl hns (by kernel_rfl) (by kernel_rfl) (by kernel_rfl) rfl (by kernel_rfl) hS_27 rfl rfl hc_28 rfl rfl (r_load_priv (a := c_14) (off := 1) (cs' := [v_2]) (v := v_2) 2 Try.pu22 Try.pi22 rfl rfl rfl rfl (by decide) rfl) ?_
        refine JA_takepg 7 rfl hns (by kernel_rfl) (by kernel_rfl) rfl (.inr hS_27) rfl rfl hc_28 rfl rfl (r_move (v := v_11) rfl) ?_
        refine JA_takeg 9 rfl hns (by kernel_rfl) (by kernel_rfl) (by kernel_rfl) rfl (by kernel_rfl) hS_27 rfl rfl hc_28 rfl rfl (r_load_priv (a := c_16) (off := 0) (cs' := [.int .i64 goal_9.X, .int .i64 goal_9.Y, .int .i64 goal_9.C]) (v := .agg #[.int .i64 goal_9.X, .int .i64 goal_9.Y, .int .i64 goal_9.C]) 1 Try.pu37 Try.pi37 rfl rfl rfl rfl (by decide) rfl) ?_
        refine J_assoc ?_
        refine JA_opg (i := 8) (by kernel_rfl) rfl rfl rfl hc_28 (op_call (f := 24) (fn := Try.f24) (args := [v_11]) (post := slices_Clone_post σ v_11 x_12) [.row (t_Gdiff_Leq).o 37 v_11 x_12] [.cell c_16 [.int .i64 goal_9.X, .int .i64 goal_9.Y, .int .i64 goal_9.C], .cell c_14 [.bool Yes_1, v_2, v_5], .row ((tInt .i64)).o 2 v_5 x_6] rfl rfl rfl Try.func24 Try.pn24 rfl rfl (fun y st hy hpre => slices_Clone_ref st σ v_11 x_12 hpre y hy) ?_)
        intro r_30 v_32 s_35 PV_33 hr_31 hle_36 hp_34
        obtain ⟨v_38, rfl, rfl, rfl⟩ := hp_34
        have hS_39 : HeldOK σ [.row (t_Gdiff_Leq).o 37 v_11 x_12, .cell c_16 [.int .i64 goal_9.X, .int .i64 goal_9.Y, .int .i64 goal_9.C], .cell c_14 [.bool Yes_1, v_2, v_5], .row ((tInt .i64)).o 2 v_5 x_6] σ [.row (t_Gdiff_Leq).o 37 v_38 r_30, .row (t_Gdiff_Leq).o 37 v_11 x_12, .cell c_16 [.int .i64 goal_9.X, .int .i64 goal_9.Y, .int .i64 goal_9.C], .cell c_14 [.bool Yes_1, v_2, v_5], .row ((tInt .i64)).o 2 v_5 x_6] := HeldOK.same [1, 2, 3, 4] (by decide) rfl
        refine ⟨.inr hS_39, ?_⟩
        refine J_assoc ?_
        refine JA_opg (i := 10) (by kernel_rfl) rfl rfl rfl hc_28 (op_call (f := 25) (fn := Try.f25) (args := [.agg #[.int .i64 goal_9.X, .int .i64 goal_9.Y, .int .i64 goal_9.C]]) (post := cert_turned_post σ (.agg #[.int .i64 goal_9.X, .int .i64 goal_9.Y, .int .i64 goal_9.C]) goal_9) [] [.row (t_Gdiff_Leq).o 37 v_38 r_30, .row (t_Gdiff_Leq).o 37 v_11 x_12, .cell c_16 [.int .i64 goal_9.X, .int .i64 goal_9.Y, .int .i64 goal_9.C], .cell c_14 [.bool Yes_1, v_2, v_5], .row ((tInt .i64)).o 2 v_5 x_6] rfl rfl rfl Try.func25 Try.pn25 rfl rfl (fun y st hy hpre => cert_turned_ref st σ (.agg #[.int .i64 goal_9.X, .int .i64 goal_9.Y, .int .i64 goal_9.C]) goal_9 (t_Gdiff_Leq_v.2 rfl) hpre y hy) ?_)
        intro r_40 v_42 s_45 PV_43 hr_41 hle_46 hp_44
        obtain ⟨rfl, rfl, rfl⟩ := hp_44
        have hS_47 : HeldOK σ [.row (t_Gdiff_Leq).o 37 v_11 x_12, .cell c_16 [.int .i64 goal_9.X, .int .i64 goal_9.Y, .int .i64 goal_9.C], .cell c_14 [.bool Yes_1, v_2, v_5], .row ((tInt .i64)).o 2 v_5 x_6] σ [.row (t_Gdiff_Leq).o 37 v_38 r_30, .row (t_Gdiff_Leq).o 37 v_11 x_12, .cell c_16 [.int .i64 goal_9.X, .int .i64 goal_9.Y, .int .i64 goal_9.C], .cell c_14 [.bool Yes_1, v_2, v_5], .row ((tInt .i64)).o 2 v_5 x_6] := HeldOK.same [1, 2, 3, 4] (by decide) rfl
        refine ⟨.inr hS_47, ?_⟩
        refine JA_opg (i := 11) (by kernel_rfl) rfl rfl rfl hc_28 (op_buildSlice (T := (t_Gdiff_Leq).o) (vs := [.agg #[.int .i64 goal_9.Y, .int .i64 goal_9.X, .int .i64 (IntKind.i64.wrap ((IntKind.i64.wrap (0 - goal_9.C)) - 1))]]) (xs := [(⟨goal_9.Y, goal_9.X, IntKind.i64.wrap ((IntKind.i64.wrap (0 - goal_9.C)) - 1)⟩ : Gdiff_Leq)]) [] [.row (t_Gdiff_Leq).o 37 v_38 r_30, .row (t_Gdiff_Leq).o 37 v_11 x_12, .cell c_16 [.int .i64 goal_9.X, .int .i64 goal_9.Y, .int .i64 goal_9.C], .cell c_14 [.bool Yes_1, v_2, v_5], .row ((tInt .i64)).o 2 v_5 x_6] rfl Try.pu23 Try.pi37 rfl rfl rfl rfl rfl rfl (relsO_cons (A := []) (B := []) (u := .agg #[.int .i64 goal_9.Y, .int .i64 goal_9.X, .int .i64 (IntKind.i64.wrap ((IntKind.i64.wrap (0 - goal_9.C)) - 1))]) (x := (⟨goal_9.Y, goal_9.X, IntKind.i64.wrap ((IntKind.i64.wrap (0 - goal_9.C)) - 1)⟩ : Gdiff_Leq)) (fix_vrel (T := (t_Gdiff_Leq).o) rfl (t_Gdiff_Leq_v.2 rfl)) relsO_nil) ?_)
        intro v_48
        have hS_50 : HeldOK σ [.row (t_Gdiff_Leq).o 37 v_11 x_12, .cell c_16 [.int .i64 goal_9.X, .int .i64 goal_9.Y, .int .i64 goal_9.C], .cell c_14 [.bool Yes_1, v_2, v_5], .row ((tInt .i64)).o 2 v_5 x_6] σ [.row (t_Gdiff_Leq).o 37 v_48 (⟨[(⟨goal_9.Y, goal_9.X, IntKind.i64.wrap ((IntKind.i64.wrap (0 - goal_9.C)) - 1)⟩ : Gdiff_Leq)], true⟩ : Sl Gdiff_Leq), .row (t_Gdiff_Leq).o 37 v_38 r_30, .row (t_Gdiff_Leq).o 37 v_11 x_12, .cell c_16 [.int .i64 goal_9.X, .int .i64 goal_9.Y, .int .i64 goal_9.C], .cell c_14 [.bool Yes_1, v_2, v_5], .row ((tInt .i64)).o 2 v_5 x_6] := HeldOK.same [2, 3, 4, 5] (by decide) rfl
        refine ⟨.inr hS_50, ?_⟩
        refine J_select (PV' := [.row (t_Gdiff_Leq).o 37 v_38 r_30, .row (t_Gdiff_Leq).o 37 v_48 (⟨[(⟨goal_9.Y, goal_9.X, IntKind.i64.wrap ((IntKind.i64.wrap (0 - goal_9.C)) - 1)⟩ : Gdiff_Leq)], true⟩ : Sl Gdiff_Leq), .row (t_Gdiff_Leq).o 37 v_11 x_12, .cell c_16 [.int .i64 goal_9.X, .int .i64 goal_9.Y, .int .i64 goal_9.C], .cell c_14 [.bool Yes_1, v_2, v_5], .row ((tInt .i64)).o 2 v_5 x_6]) [1, 0, 2, 3, 4, 5] (by decide) rfl ?_
        have hS_54 : HeldOK σ [.row (t_Gdiff_Leq).o 37 v_11 x_12, .cell c_16 [.int .i64 goal_9.X, .int .i64 goal_9.Y, .int .i64 goal_9.C], .cell c_14 [.bool Yes_1, v_2, v_5], .row ((tInt .i64)).o 2 v_5 x_6] σ [.row (t_Gdiff_Leq).o 37 v_38 r_30, .row (t_Gdiff_Leq).o 37 v_48 (⟨[(⟨goal_9.Y, goal_9.X, IntKind.i64.wrap ((IntKind.i64.wrap (0 - goal_9.C)) - 1)⟩ : Gdiff_Leq)], true⟩ : Sl Gdiff_Leq), .row (t_Gdiff_Leq).o 37 v_11 x_12, .cell c_16 [.int .i64 goal_9.X, .int .i64 goal_9.Y, .int .i64 goal_9.C], .cell c_14 [.bool Yes_1, v_2, v_5], .row ((tInt .i64)).o 2 v_5 x_6] := HeldOK.same [2, 3, 4, 5] (by decide) rfl
        refine J_assoc ?_
        refine JA_opg (i := 12) (by kernel_rfl) rfl rfl rfl hc_28 (op_append (v := v_38) (u := v_48) (T := (t_Gdiff_Leq).o) (ts := [(⟨goal_9.Y, goal_9.X, IntKind.i64.wrap ((IntKind.i64.wrap (0 - goal_9.C)) - 1)⟩ : Gdiff_Leq)]) [] [.row (t_Gdiff_Leq).o 37 v_48 (⟨[(⟨goal_9.Y, goal_9.X, IntKind.i64.wrap ((IntKind.i64.wrap (0 - goal_9.C)) - 1)⟩ : Gdiff_Leq)], true⟩ : Sl Gdiff_Leq), .row (t_Gdiff_Leq).o 37 v_11 x_12, .cell c_16 [.int .i64 goal_9.X, .int .i64 goal_9.Y, .int .i64 goal_9.C], .cell c_14 [.bool Yes_1, v_2, v_5], .row ((tInt .i64)).o 2 v_5 x_6] rfl Try.pu23 Try.pi37 rfl rfl rfl rfl rfl rfl (source_copy (s := (⟨[(⟨goal_9.Y, goal_9.X, IntKind.i64.wrap ((IntKind.i64.wrap (0 - goal_9.C)) - 1)⟩ : Gdiff_Leq)], true⟩ : Sl Gdiff_Leq)) 1 rfl) ?_)
        intro s_52 v_51 hs_53
        have hS_55 : HeldOK σ [.row (t_Gdiff_Leq).o 37 v_11 x_12, .cell c_16 [.int .i64 goal_9.X, .int .i64 goal_9.Y, .int .i64 goal_9.C], .cell c_14 [.bool Yes_1, v_2, v_5], .row ((tInt .i64)).o 2 v_5 x_6] σ [.row (t_Gdiff_Leq).o 37 v_51 s_52, .row (t_Gdiff_Leq).o 37 v_48 (⟨[(⟨goal_9.Y, goal_9.X, IntKind.i64.wrap ((IntKind.i64.wrap (0 - goal_9.C)) - 1)⟩ : Gdiff_Leq)], true⟩ : Sl Gdiff_Leq), .row (t_Gdiff_Leq).o 37 v_11 x_12, .cell c_16 [.int .i64 goal_9.X, .int .i64 goal_9.Y, .int .i64 goal_9.C], .cell c_14 [.bool Yes_1, v_2, v_5], .row ((tInt .i64)).o 2 v_5 x_6] := HeldOK.same [2, 3, 4, 5] (by decide) rfl
        refine ⟨.inr hS_55, ?_⟩
        refine J_assoc ?_
        refine JA_opg (i := 13) (by kernel_rfl) rfl rfl rfl hc_28 (op_call (f := 10) (fn := Try.f10) (args := [v_2, v_51]) (post := cert_Circle_v2_post σ v_2 Cycle_3 v_51 s_52) [.row (t_Gdiff_Leq).o 37 v_51 s_52] [.row (t_Gdiff_Leq).o 37 v_48 (⟨[(⟨goal_9.Y, goal_9.X, IntKind.i64.wrap ((IntKind.i64.wrap (0 - goal_9.C)) - 1)⟩ : Gdiff_Leq)], true⟩ : Sl Gdiff_Leq), .row (t_Gdiff_Leq).o 37 v_11 x_12, .cell c_16 [.int .i64 goal_9.X, .int .i64 goal_9.Y, .int .i64 goal_9.C], .cell c_14 [.bool Yes_1, v_2, v_5], .row ((tInt .i64)).o 2 v_5 x_6] rfl rfl rfl Try.func10 Try.pn10 rfl rfl (fun y st hy hpre => cert_Circle_v2_ref st σ v_2 Cycle_3 h_4 v_51 s_52 hpre y hy) ?_)
        intro r_56 v_58 s_61 PV_59 hr_57 hle_62 hp_60
        obtain ⟨rfl, rfl, rfl⟩ := hp_60
        have hS_63 : HeldOK σ [.row (t_Gdiff_Leq).o 37 v_11 x_12, .cell c_16 [.int .i64 goal_9.X, .int .i64 goal_9.Y, .int .i64 goal_9.C], .cell c_14 [.bool Yes_1, v_2, v_5], .row ((tInt .i64)).o 2 v_5 x_6] σ [.row (t_Gdiff_Leq).o 37 v_51 s_52, .row (t_Gdiff_Leq).o 37 v_48 (⟨[(⟨goal_9.Y, goal_9.X, IntKind.i64.wrap ((IntKind.i64.wrap (0 - goal_9.C)) - 1)⟩ : Gdiff_Leq)], true⟩ : Sl Gdiff_Leq), .row (t_Gdiff_Leq).o 37 v_11 x_12, .cell c_16 [.int .i64 goal_9.X, .int .i64 goal_9.Y, .int .i64 goal_9.C], .cell c_14 [.bool Yes_1, v_2, v_5], .row ((tInt .i64)).o 2 v_5 x_6] := HeldOK.same [2, 3, 4, 5] (by decide) rfl
        refine ⟨.inr hS_63, ?_⟩
        refine JA_takep 14 rfl hns (by kernel_rfl) (by kernel_rfl) rfl (.inr hS_63) rfl rfl rfl (r_pick_t (v := .bool r_56) rfl hc_28 rfl) ?_
        refine J_select (PV' := [.row (t_Gdiff_Leq).o 37 v_11 x_12, .cell c_16 [.int .i64 goal_9.X, .int .i64 goal_9.Y, .int .i64 goal_9.C], .cell c_14 [.bool Yes_1, v_2, v_5], .row ((tInt .i64)).o 2 v_5 x_6]) [2, 3, 4, 5] (by decide) rfl ?_
        refine J_prune _ ?_ fun b => hk r_56 _ b _ _ ⟨rfl, rfl, rfl⟩
        exact ⟨rfl, rfl, trivial⟩
      · refine JA_skip (y := some (decide (x_6.len = 0))) 5 rfl hns (by kernel_rfl) (by kernel_rfl) rfl (.inr hS_27) rfl rfl (by rw [hc_28]; decide) rfl rfl ?_
        refine JA_skip (y := some (decide (x_6.len = 0))) 6 rfl hns (by kernel_rfl) (by kernel_rfl) rfl (.inr hS_27) rfl rfl (by rw [hc_28]; decide) rfl rfl ?_
        refine JA_skip (y := some (decide (x_6.len = 0))) 7 rfl hns (by kernel_rfl) (by kernel_rfl) rfl (.inr hS_27) rfl rfl (by rw [hc_28]; decide) rfl rfl ?_
        refine JA_skip (y := some (decide (x_6.len = 0))) 8 rfl hns (by kernel_rfl) (by kernel_rfl) rfl (.inr hS_27) rfl rfl (by rw [hc_28]; decide) rfl rfl ?_
        refine JA_skip (y := some (decide (x_6.len = 0))) 9 rfl hns (by kernel_rfl) (by kernel_rfl) rfl (.inr hS_27) rfl rfl (by rw [hc_28]; decide) rfl rfl ?_
        refine JA_skip (y := some (decide (x_6.len = 0))) 10 rfl hns (by kernel_rfl) (by kernel_rfl) rfl (.inr hS_27) rfl rfl (by rw [hc_28]; decide) rfl rfl ?_
        refine JA_skip (y := some (decide (x_6.len = 0))) 11 rfl hns (by kernel_rfl) (by kernel_rfl) rfl (.inr hS_27) rfl rfl (by rw [hc_28]; decide) rfl rfl ?_
        refine JA_skip (y := some (decide (x_6.len = 0))) 12 rfl hns (by kernel_rfl) (by kernel_rfl) rfl (.inr hS_27) rfl rfl (by rw [hc_28]; decide) rfl rfl ?_
        refine JA_skip (y := some (decide (x_6.len = 0))) 13 rfl hns (by kernel_rfl) (by kernel_rfl) rfl (.inr hS_27) rfl rfl (by rw [hc_28]; decide) rfl rfl ?_
        refine JA_takep 14 rfl hns (by kernel_rfl) (by kernel_rfl) rfl (.inr hS_27) rfl rfl rfl (r_pick_f (v := .bool false) rfl hc_28 rfl) ?_
        refine J_prune _ ?_ fun b => hk false _ b _ _ ⟨rfl, rfl, rfl⟩
        exact ⟨rfl, rfl, trivial⟩
      · rintro y_29 _ b s_66 _ ⟨rfl, rfl, rfl⟩
        have hS_67 : HeldOK σ [.row (t_Gdiff_Leq).o 37 v_11 x_12, .cell c_16 [.int .i64 goal_9.X, .int .i64 goal_9.Y, .int .i64 goal_9.C], .cell c_14 [.bool Yes_1, v_2, v_5], .row ((tInt .i64)).o 2 v_5 x_6] σ [.row (t_Gdiff_Leq).o 37 v_11 x_12, .cell c_16 [.int .i64 goal_9.X, .int .i64 goal_9.Y, .int .i64 goal_9.C], .cell c_14 [.bool Yes_1, v_2, v_5], .row ((tInt .i64)).o 2 v_5 x_6] := HeldOK.same [0, 1, 2, 3] (by decide) rfl
        refine JA_takep 15 rfl hns (by kernel_rfl) (by kernel_rfl) rfl (.inr hS_67) rfl rfl rfl (r_assign (v := .bool y_29) rfl) ?_
        refine JA_done (by kernel_rfl) ?_
        refine J_then ?_
        refine J_ret ?_
        refine J_then_ret ?_
        exact J_returnV1 (PV' := [.row ((tInt .i64)).o 2 v_5 x_6, .row (t_Gdiff_Leq).o 37 v_11 x_12]) rfl rv_tmp [3, 0] (by decide) rfl ⟨rfl, rfl, rfl⟩
    · refine J_skip ?_
      refine J_then ?_
      refine J_seq ?_
      refine J_region_any 23 [.row (t_Gdiff_Leq).o 37 v_11 x_12, .cell c_16 [.int .i64 goal_9.X, .int .i64 goal_9.Y, .int .i64 goal_9.C], .cell c_14 [.bool Yes_1, v_2, v_5], .row ((tInt .i64)).o 2 v_5 x_6] Try.mixed (by kernel_rfl) fun hns => ?_
      have hS_68 : HeldOK σ [.row (t_Gdiff_Leq).o 37 v_11 x_12, .cell c_16 [.int .i64 goal_9.X, .int .i64 goal_9.Y, .int .i64 goal_9.C], .cell c_14 [.bool Yes_1, v_2, v_5], .row ((tInt .i64)).o 2 v_5 x_6] σ [.row (t_Gdiff_Leq).o 37 v_11 x_12, .cell c_16 [.int .i64 goal_9.X, .int .i64 goal_9.Y, .int .i64 goal_9.C], .cell c_14 [.bool Yes_1, v_2, v_5], .row ((tInt .i64)).o 2 v_5 x_6] := HeldOK.same [0, 1, 2, 3] (by decide) rfl
      refine JA_takep 0 rfl hns (by kernel_rfl) (by kernel_rfl) rfl (.inr hS_68) rfl rfl rfl (r_fieldAddr (r := Addr.add c_14 1) Try.pu35 (f := Try.pf35.getD 1 default) rfl Try.pi22 (by decide) rfl (Addr.add_add _ _ _)) ?_
      refine JA_take 1 rfl hns (by kernel_rfl) (by kernel_rfl) (by kernel_rfl) rfl (by kernel_rfl) hS_68 rfl rfl rfl (r_load_priv (a := c_14) (off := 1) (cs' := [v_2]) (v := v_2) 2 Try.pu22 Try.pi22 rfl rfl rfl rfl (by decide) rfl) ?_
      refine JA_takep 2 rfl hns (by kernel_rfl) (by kernel_rfl) rfl (.inr hS_68) rfl rfl rfl (r_len_frozen (v := v_2) Try.pu22 rfl h_4) ?_
      refine JA_takep 3 rfl hns (by kernel_rfl) (by kernel_rfl) rfl (.inr hS_68) rfl rfl rfl (r_eql rfl rfl) ?_
      refine JA_takep 4 rfl hns (by kernel_rfl) (by kernel_rfl) rfl (.inr hS_68) rfl rfl rfl (r_move (v := .bool (decide (Cycle_3.len = 0))) rfl) ?_
      refine J_forkA (e := (decide (Cycle_3.len = 0))) 12 #[true, true, true, true, true, true, true, true, true, true, true, false, false, false, false, false, false, false, false, false, false, false, false] [(3, v_11), (4, .pointer (some (Addr.add c_14 0))), (6, .pointer (some (Addr.add c_16 0))), (8, .bool false), (47, .bool (decide (Cycle_3.len = 0) && decide (x_6.len = n_7)))] (fun hc_69 hk => ?_) (fun hc_69 hk => ?_) (fun b => ?_)
      · refine JA_takepg 5 rfl hns (by kernel_rfl) (by kernel_rfl) rfl (.inr hS_68) rfl rfl hc_69 rfl rfl (r_fieldAddr (r := Addr.add c_14 2) Try.pu35 (f := Try.pf35.getD 2 default) rfl Try.pi30 (by decide) rfl (Addr.add_add _ _ _)) ?_
        refine JA_takeg 6 rfl hns (by kernel_rfl) (by kernel_rfl) (by kernel_rfl) rfl (by kernel_rfl) hS_68 rfl rfl hc_69 rfl rfl (r_load_priv (a := c_14) (off := 2) (cs' := [v_5]) (v := v_5) 2 Try.pu30 Try.pi30 rfl rfl rfl rfl (by decide) rfl) ?_
        refine JA_takeg 7 rfl hns (by kernel_rfl) (by kernel_rfl) (by kernel_rfl) rfl (by kernel_rfl) hS_68 rfl rfl hc_69 rfl rfl (r_len_row (v := v_5) 3 Try.pu30 rfl rfl) ?_
        refine JA_takepg 8 rfl hns (by kernel_rfl) (by kernel_rfl) rfl (.inr hS_68) rfl rfl hc_69 rfl rfl (r_move (v := .int .i64 n_7) rfl) ?_
        refine JA_takepg 9 rfl hns (by kernel_rfl) (by kernel_rfl) rfl (.inr hS_68) rfl rfl hc_69 rfl rfl (r_eql rfl rfl) ?_
        refine JA_takep 10 rfl hns (by kernel_rfl) (by kernel_rfl) rfl (.inr hS_68) rfl rfl rfl (r_pick_t (v := .bool (decide (x_6.len = n_7))) rfl hc_69 rfl) ?_
        refine J_prune [(3, v_11), (4, .pointer (some (Addr.add c_14 0))), (6, .pointer (some (Addr.add c_16 0))), (8, .bool false), (47, .bool (decide (Cycle_3.len = 0) && decide (x_6.len = n_7)))] ⟨rfl, rfl, rfl, rfl, (by show Value.bool _ = Value.bool _; rw [hc_69]; rfl), trivial⟩ hk
      · refine JA_skip (y := some (decide (Cycle_3.len = 0))) 5 rfl hns (by kernel_rfl) (by kernel_rfl) rfl (.inr hS_68) rfl rfl (by rw [hc_69]; decide) rfl rfl ?_
        refine JA_skip (y := some (decide (Cycle_3.len = 0))) 6 rfl hns (by kernel_rfl) (by kernel_rfl) rfl (.inr hS_68) rfl rfl (by rw [hc_69]; decide) rfl rfl ?_
        refine JA_skip (y := some (decide (Cycle_3.len = 0))) 7 rfl hns (by kernel_rfl) (by kernel_rfl) rfl (.inr hS_68) rfl rfl (by rw [hc_69]; decide) rfl rfl ?_
        refine JA_skip (y := some (decide (Cycle_3.len = 0))) 8 rfl hns (by kernel_rfl) (by kernel_rfl) rfl (.inr hS_68) rfl rfl (by rw [hc_69]; decide) rfl rfl ?_
        refine JA_skip (y := some (decide (Cycle_3.len = 0))) 9 rfl hns (by kernel_rfl) (by kernel_rfl) rfl (.inr hS_68) rfl rfl (by rw [hc_69]; decide) rfl rfl ?_
        refine JA_takep 10 rfl hns (by kernel_rfl) (by kernel_rfl) rfl (.inr hS_68) rfl rfl rfl (r_pick_f (v := .bool false) rfl hc_69 rfl) ?_
        refine J_prune [(3, v_11), (4, .pointer (some (Addr.add c_14 0))), (6, .pointer (some (Addr.add c_16 0))), (8, .bool false), (47, .bool (decide (Cycle_3.len = 0) && decide (x_6.len = n_7)))] ⟨rfl, rfl, rfl, rfl, (by show Value.bool _ = Value.bool _; rw [hc_69]; rfl), trivial⟩ hk
      · refine JA_takep 11 rfl hns (by kernel_rfl) (by kernel_rfl) rfl (.inr hS_68) rfl rfl rfl (r_move (v := .bool (decide (Cycle_3.len = 0) && decide (x_6.len = n_7))) rfl) ?_
        refine J_forkAB (e := (decide (Cycle_3.len = 0) && decide (x_6.len = n_7))) 1 #[true, true, true, true, true, true, true, true, true, true, true, true, true, true, true, true, true, true, true, true, true, true, false] (fun (y : Bool) L τ PV => σ = τ ∧ L = [(8, .bool false), (58, .bool y)] ∧ PV = [.row (t_Gdiff_Leq).o 37 v_11 x_12, .cell c_16 [.int .i64 goal_9.X, .int .i64 goal_9.Y, .int .i64 goal_9.C], .cell c_14 [.bool Yes_1, v_2, v_5], .row ((tInt .i64)).o 2 v_5 x_6]) (fun hc_70 hk => ?_) (fun hc_70 hk => ?_) ?_
        · refine JA_takepg 12 rfl hns (by kernel_rfl) (by kernel_rfl) rfl (.inr hS_68) rfl rfl hc_70 rfl rfl (r_fieldAddr (r := Addr.add c_14 2) Try.pu35 (f := Try.pf35.getD 2 default) rfl Try.pi30 (by decide) rfl (Addr.add_add _ _ _)) ?_
          refine JA_takeg 13 rfl hns (by kernel_rfl) (by kernel_rfl) (by kernel_rfl) rfl (by kernel_rfl) hS_68 rfl rfl hc_70 rfl rfl (r_load_priv (a := c_14) (off := 2) (cs' := [v_5]) (v := v_5) 2 Try.pu30 Try.pi30 rfl rfl rfl rfl (by decide) rfl) ?_
          refine JA_takepg 14 rfl hns (by kernel_rfl) (by kernel_rfl) rfl (.inr hS_68) rfl rfl hc_70 rfl rfl (r_move (v := v_11) rfl) ?_
          refine JA_takeg 16 rfl hns (by kernel_rfl) (by kernel_rfl) (by kernel_rfl) rfl (by kernel_rfl) hS_68 rfl rfl hc_70 rfl rfl (r_load_priv (a := c_16) (off := 0) (cs' := [.int .i64 goal_9.X, .int .i64 goal_9.Y, .int .i64 goal_9.C]) (v := .agg #[.int .i64 goal_9.X, .int .i64 goal_9.Y, .int .i64 goal_9.C]) 1 Try.pu37 Try.pi37 rfl rfl rfl rfl (by decide) rfl) ?_
          refine J_assoc ?_
          refine JA_opg (i := 15) (by kernel_rfl) rfl rfl rfl hc_70 (op_call (f := 24) (fn := Try.f24) (args := [v_11]) (post := slices_Clone_post σ v_11 x_12) [.row (t_Gdiff_Leq).o 37 v_11 x_12] [.cell c_16 [.int .i64 goal_9.X, .int .i64 goal_9.Y, .int .i64 goal_9.C], .cell c_14 [.bool Yes_1, v_2, v_5], .row ((tInt .i64)).o 2 v_5 x_6] rfl rfl rfl Try.func24 Try.pn24 rfl rfl (fun y st hy hpre => slices_Clone_ref st σ v_11 x_12 hpre y hy) ?_)
          intro r_72 v_74 s_77 PV_75 hr_73 hle_78 hp_76
          obtain ⟨v_80, rfl, rfl, rfl⟩ := hp_76
          have hS_81 : HeldOK σ [.row (t_Gdiff_Leq).o 37 v_11 x_12, .cell c_16 [.int .i64 goal_9.X, .int .i64 goal_9.Y, .int .i64 goal_9.C], .cell c_14 [.bool Yes_1, v_2, v_5], .row ((tInt .i64)).o 2 v_5 x_6] σ [.row (t_Gdiff_Leq).o 37 v_80 r_72, .row (t_Gdiff_Leq).o 37 v_11 x_12, .cell c_16 [.int .i64 goal_9.X, .int .i64 goal_9.Y, .int .i64 goal_9.C], .cell c_14 [.bool Yes_1, v_2, v_5], .row ((tInt .i64)).o 2 v_5 x_6] := HeldOK.same [1, 2, 3, 4] (by decide) rfl
          refine ⟨.inr hS_81, ?_⟩
          refine J_assoc ?_
          refine JA_opg (i := 17) (by kernel_rfl) rfl rfl rfl hc_70 (op_call (f := 25) (fn := Try.f25) (args := [.agg #[.int .i64 goal_9.X, .int .i64 goal_9.Y, .int .i64 goal_9.C]]) (post := cert_turned_post σ (.agg #[.int .i64 goal_9.X, .int .i64 goal_9.Y, .int .i64 goal_9.C]) goal_9) [] [.row (t_Gdiff_Leq).o 37 v_80 r_72, .row (t_Gdiff_Leq).o 37 v_11 x_12, .cell c_16 [.int .i64 goal_9.X, .int .i64 goal_9.Y, .int .i64 goal_9.C], .cell c_14 [.bool Yes_1, v_2, v_5], .row ((tInt .i64)).o 2 v_5 x_6] rfl rfl rfl Try.func25 Try.pn25 rfl rfl (fun y st hy hpre => cert_turned_ref st σ (.agg #[.int .i64 goal_9.X, .int .i64 goal_9.Y, .int .i64 goal_9.C]) goal_9 (t_Gdiff_Leq_v.2 rfl) hpre y hy) ?_)
          intro r_82 v_84 s_87 PV_85 hr_83 hle_88 hp_86
          obtain ⟨rfl, rfl, rfl⟩ := hp_86
          have hS_89 : HeldOK σ [.row (t_Gdiff_Leq).o 37 v_11 x_12, .cell c_16 [.int .i64 goal_9.X, .int .i64 goal_9.Y, .int .i64 goal_9.C], .cell c_14 [.bool Yes_1, v_2, v_5], .row ((tInt .i64)).o 2 v_5 x_6] σ [.row (t_Gdiff_Leq).o 37 v_80 r_72, .row (t_Gdiff_Leq).o 37 v_11 x_12, .cell c_16 [.int .i64 goal_9.X, .int .i64 goal_9.Y, .int .i64 goal_9.C], .cell c_14 [.bool Yes_1, v_2, v_5], .row ((tInt .i64)).o 2 v_5 x_6] := HeldOK.same [1, 2, 3, 4] (by decide) rfl
          refine ⟨.inr hS_89, ?_⟩
          refine JA_opg (i := 18) (by kernel_rfl) rfl rfl rfl hc_70 (op_buildSlice (T := (t_Gdiff_Leq).o) (vs := [.agg #[.int .i64 goal_9.Y, .int .i64 goal_9.X, .int .i64 (IntKind.i64.wrap ((IntKind.i64.wrap (0 - goal_9.C)) - 1))]]) (xs := [(⟨goal_9.Y, goal_9.X, IntKind.i64.wrap ((IntKind.i64.wrap (0 - goal_9.C)) - 1)⟩ : Gdiff_Leq)]) [] [.row (t_Gdiff_Leq).o 37 v_80 r_72, .row (t_Gdiff_Leq).o 37 v_11 x_12, .cell c_16 [.int .i64 goal_9.X, .int .i64 goal_9.Y, .int .i64 goal_9.C], .cell c_14 [.bool Yes_1, v_2, v_5], .row ((tInt .i64)).o 2 v_5 x_6] rfl Try.pu23 Try.pi37 rfl rfl rfl rfl rfl rfl (relsO_cons (A := []) (B := []) (u := .agg #[.int .i64 goal_9.Y, .int .i64 goal_9.X, .int .i64 (IntKind.i64.wrap ((IntKind.i64.wrap (0 - goal_9.C)) - 1))]) (x := (⟨goal_9.Y, goal_9.X, IntKind.i64.wrap ((IntKind.i64.wrap (0 - goal_9.C)) - 1)⟩ : Gdiff_Leq)) (fix_vrel (T := (t_Gdiff_Leq).o) rfl (t_Gdiff_Leq_v.2 rfl)) relsO_nil) ?_)
          intro v_90
          have hS_92 : HeldOK σ [.row (t_Gdiff_Leq).o 37 v_11 x_12, .cell c_16 [.int .i64 goal_9.X, .int .i64 goal_9.Y, .int .i64 goal_9.C], .cell c_14 [.bool Yes_1, v_2, v_5], .row ((tInt .i64)).o 2 v_5 x_6] σ [.row (t_Gdiff_Leq).o 37 v_90 (⟨[(⟨goal_9.Y, goal_9.X, IntKind.i64.wrap ((IntKind.i64.wrap (0 - goal_9.C)) - 1)⟩ : Gdiff_Leq)], true⟩ : Sl Gdiff_Leq), .row (t_Gdiff_Leq).o 37 v_80 r_72, .row (t_Gdiff_Leq).o 37 v_11 x_12, .cell c_16 [.int .i64 goal_9.X, .int .i64 goal_9.Y, .int .i64 goal_9.C], .cell c_14 [.bool Yes_1, v_2, v_5], .row ((tInt .i64)).o 2 v_5 x_6] := HeldOK.same [2, 3, 4, 5] (by decide) rfl
          refine ⟨.inr hS_92, ?_⟩
          refine J_select (PV' := [.row (t_Gdiff_Leq).o 37 v_80 r_72, .row (t_Gdiff_Leq).o 37 v_90 (⟨[(⟨goal_9.Y, goal_9.X, IntKind.i64.wrap ((IntKind.i64.wrap (0 - goal_9.C)) - 1)⟩ : Gdiff_Leq)], true⟩ : Sl Gdiff_Leq), .row (t_Gdiff_Leq).o 37 v_11 x_12, .cell c_16 [.int .i64 goal_9.X, .int .i64 goal_9.Y, .int .i64 goal_9.C], .cell c_14 [.bool Yes_1, v_2, v_5], .row ((tInt .i64)).o 2 v_5 x_6]) [1, 0, 2, 3, 4, 5] (by decide) rfl ?_
          have hS_96 : HeldOK σ [.row (t_Gdiff_Leq).o 37 v_11 x_12, .cell c_16 [.int .i64 goal_9.X, .int .i64 goal_9.Y, .int .i64 goal_9.C], .cell c_14 [.bool Yes_1, v_2, v_5], .row ((tInt .i64)).o 2 v_5 x_6] σ [.row (t_Gdiff_Leq).o 37 v_80 r_72, .row (t_Gdiff_Leq).o 37 v_90 (⟨[(⟨goal_9.Y, goal_9.X, IntKind.i64.wrap ((IntKind.i64.wrap (0 - goal_9.C)) - 1)⟩ : Gdiff_Leq)], true⟩ : Sl Gdiff_Leq), .row (t_Gdiff_Leq).o 37 v_11 x_12, .cell c_16 [.int .i64 goal_9.X, .int .i64 goal_9.Y, .int .i64 goal_9.C], .cell c_14 [.bool Yes_1, v_2, v_5], .row ((tInt .i64)).o 2 v_5 x_6] := HeldOK.same [2, 3, 4, 5] (by decide) rfl
          refine J_assoc ?_
          refine JA_opg (i := 19) (by kernel_rfl) rfl rfl rfl hc_70 (op_append (v := v_80) (u := v_90) (T := (t_Gdiff_Leq).o) (ts := [(⟨goal_9.Y, goal_9.X, IntKind.i64.wrap ((IntKind.i64.wrap (0 - goal_9.C)) - 1)⟩ : Gdiff_Leq)]) [] [.row (t_Gdiff_Leq).o 37 v_90 (⟨[(⟨goal_9.Y, goal_9.X, IntKind.i64.wrap ((IntKind.i64.wrap (0 - goal_9.C)) - 1)⟩ : Gdiff_Leq)], true⟩ : Sl Gdiff_Leq), .row (t_Gdiff_Leq).o 37 v_11 x_12, .cell c_16 [.int .i64 goal_9.X, .int .i64 goal_9.Y, .int .i64 goal_9.C], .cell c_14 [.bool Yes_1, v_2, v_5], .row ((tInt .i64)).o 2 v_5 x_6] rfl Try.pu23 Try.pi37 rfl rfl rfl rfl rfl rfl (source_copy (s := (⟨[(⟨goal_9.Y, goal_9.X, IntKind.i64.wrap ((IntKind.i64.wrap (0 - goal_9.C)) - 1)⟩ : Gdiff_Leq)], true⟩ : Sl Gdiff_Leq)) 1 rfl) ?_)
          intro s_94 v_93 hs_95
          have hS_97 : HeldOK σ [.row (t_Gdiff_Leq).o 37 v_11 x_12, .cell c_16 [.int .i64 goal_9.X, .int .i64 goal_9.Y, .int .i64 goal_9.C], .cell c_14 [.bool Yes_1, v_2, v_5], .row ((tInt .i64)).o 2 v_5 x_6] σ [.row (t_Gdiff_Leq).o 37 v_93 s_94, .row (t_Gdiff_Leq).o 37 v_90 (⟨[(⟨goal_9.Y, goal_9.X, IntKind.i64.wrap ((IntKind.i64.wrap (0 - goal_9.C)) - 1)⟩ : Gdiff_Leq)], true⟩ : Sl Gdiff_Leq), .row (t_Gdiff_Leq).o 37 v_11 x_12, .cell c_16 [.int .i64 goal_9.X, .int .i64 goal_9.Y, .int .i64 goal_9.C], .cell c_14 [.bool Yes_1, v_2, v_5], .row ((tInt .i64)).o 2 v_5 x_6] := HeldOK.same [2, 3, 4, 5] (by decide) rfl
          refine ⟨.inr hS_97, ?_⟩
          refine J_select (PV' := [.row ((tInt .i64)).o 2 v_5 x_6, .row (t_Gdiff_Leq).o 37 v_93 s_94, .row (t_Gdiff_Leq).o 37 v_90 (⟨[(⟨goal_9.Y, goal_9.X, IntKind.i64.wrap ((IntKind.i64.wrap (0 - goal_9.C)) - 1)⟩ : Gdiff_Leq)], true⟩ : Sl Gdiff_Leq), .row (t_Gdiff_Leq).o 37 v_11 x_12, .cell c_16 [.int .i64 goal_9.X, .int .i64 goal_9.Y, .int .i64 goal_9.C], .cell c_14 [.bool Yes_1, v_2, v_5]]) [5, 0, 1, 2, 3, 4] (by decide) rfl ?_
          have hS_105 : HeldOK σ [.row (t_Gdiff_Leq).o 37 v_11 x_12, .cell c_16 [.int .i64 goal_9.X, .int .i64 goal_9.Y, .int .i64 goal_9.C], .cell c_14 [.bool Yes_1, v_2, v_5], .row ((tInt .i64)).o 2 v_5 x_6] σ [.row ((tInt .i64)).o 2 v_5 x_6, .row (t_Gdiff_Leq).o 37 v_93 s_94, .row (t_Gdiff_Leq).o 37 v_90 (⟨[(⟨goal_9.Y, goal_9.X, IntKind.i64.wrap ((IntKind.i64.wrap (0 - goal_9.C)) - 1)⟩ : Gdiff_Leq)], true⟩ : Sl Gdiff_Leq), .row (t_Gdiff_Leq).o 37 v_11 x_12, .cell c_16 [.int .i64 goal_9.X, .int .i64 goal_9.Y, .int .i64 goal_9.C], .cell c_14 [.bool Yes_1, v_2, v_5]] := HeldOK.same [3, 4, 5, 0] (by decide) rfl
          refine J_assoc ?_
          refine JA_opg (i := 20) (by kernel_rfl) rfl rfl rfl hc_70 (op_call (f := 13) (fn := Try.f13) (args := [v_5, v_93]) (post := cert_Holds_v2_post σ v_5 x_6 v_93 s_94) [.row ((tInt .i64)).o 2 v_5 x_6, .row (t_Gdiff_Leq).o 37 v_93 s_94] [.row (t_Gdiff_Leq).o 37 v_90 (⟨[(⟨goal_9.Y, goal_9.X, IntKind.i64.wrap ((IntKind.i64.wrap (0 - goal_9.C)) - 1)⟩ : Gdiff_Leq)], true⟩ : Sl Gdiff_Leq), .row (t_Gdiff_Leq).o 37 v_11 x_12, .cell c_16 [.int .i64 goal_9.X, .int .i64 goal_9.Y, .int .i64 goal_9.C], .cell c_14 [.bool Yes_1, v_2, v_5]] rfl rfl rfl Try.func13 Try.pn13 rfl rfl (fun y st hy hpre => cert_Holds_v2_ref st σ v_5 x_6 v_93 s_94 hpre y hy) ?_)
          intro r_98 v_100 s_103 PV_101 hr_99 hle_104 hp_102
          obtain ⟨rfl, rfl, rfl⟩ := hp_102
          have hS_106 : HeldOK σ [.row (t_Gdiff_Leq).o 37 v_11 x_12, .cell c_16 [.int .i64 goal_9.X, .int .i64 goal_9.Y, .int .i64 goal_9.C], .cell c_14 [.bool Yes_1, v_2, v_5], .row ((tInt .i64)).o 2 v_5 x_6] σ [.row ((tInt .i64)).o 2 v_5 x_6, .row (t_Gdiff_Leq).o 37 v_93 s_94, .row (t_Gdiff_Leq).o 37 v_90 (⟨[(⟨goal_9.Y, goal_9.X, IntKind.i64.wrap ((IntKind.i64.wrap (0 - goal_9.C)) - 1)⟩ : Gdiff_Leq)], true⟩ : Sl Gdiff_Leq), .row (t_Gdiff_Leq).o 37 v_11 x_12, .cell c_16 [.int .i64 goal_9.X, .int .i64 goal_9.Y, .int .i64 goal_9.C], .cell c_14 [.bool Yes_1, v_2, v_5]] := HeldOK.same [3, 4, 5, 0] (by decide) rfl
          refine ⟨.inr hS_106, ?_⟩
          refine JA_takep 21 rfl hns (by kernel_rfl) (by kernel_rfl) rfl (.inr hS_106) rfl rfl rfl (r_pick_t (v := .bool r_98) rfl hc_70 rfl) ?_
          refine J_select (PV' := [.row (t_Gdiff_Leq).o 37 v_11 x_12, .cell c_16 [.int .i64 goal_9.X, .int .i64 goal_9.Y, .int .i64 goal_9.C], .cell c_14 [.bool Yes_1, v_2, v_5], .row ((tInt .i64)).o 2 v_5 x_6]) [3, 4, 5, 0] (by decide) rfl ?_
          refine J_prune _ ?_ fun b => hk r_98 _ b _ _ ⟨rfl, rfl, rfl⟩
          exact ⟨rfl, rfl, trivial⟩
        · refine JA_skip (y := some (decide (Cycle_3.len = 0) && decide (x_6.len = n_7))) 12 rfl hns (by kernel_rfl) (by kernel_rfl) rfl (.inr hS_68) rfl rfl (by rw [hc_70]; decide) rfl rfl ?_
          refine JA_skip (y := some (decide (Cycle_3.len = 0) && decide (x_6.len = n_7))) 13 rfl hns (by kernel_rfl) (by kernel_rfl) rfl (.inr hS_68) rfl rfl (by rw [hc_70]; decide) rfl rfl ?_
          refine JA_skip (y := some (decide (Cycle_3.len = 0) && decide (x_6.len = n_7))) 14 rfl hns (by kernel_rfl) (by kernel_rfl) rfl (.inr hS_68) rfl rfl (by rw [hc_70]; decide) rfl rfl ?_
          refine JA_skip (y := some (decide (Cycle_3.len = 0) && decide (x_6.len = n_7))) 15 rfl hns (by kernel_rfl) (by kernel_rfl) rfl (.inr hS_68) rfl rfl (by rw [hc_70]; decide) rfl rfl ?_
          refine JA_skip (y := some (decide (Cycle_3.len = 0) && decide (x_6.len = n_7))) 16 rfl hns (by kernel_rfl) (by kernel_rfl) rfl (.inr hS_68) rfl rfl (by rw [hc_70]; decide) rfl rfl ?_
          refine JA_skip (y := some (decide (Cycle_3.len = 0) && decide (x_6.len = n_7))) 17 rfl hns (by kernel_rfl) (by kernel_rfl) rfl (.inr hS_68) rfl rfl (by rw [hc_70]; decide) rfl rfl ?_
          refine JA_skip (y := some (decide (Cycle_3.len = 0) && decide (x_6.len = n_7))) 18 rfl hns (by kernel_rfl) (by kernel_rfl) rfl (.inr hS_68) rfl rfl (by rw [hc_70]; decide) rfl rfl ?_
          refine JA_skip (y := some (decide (Cycle_3.len = 0) && decide (x_6.len = n_7))) 19 rfl hns (by kernel_rfl) (by kernel_rfl) rfl (.inr hS_68) rfl rfl (by rw [hc_70]; decide) rfl rfl ?_
          refine JA_skip (y := some (decide (Cycle_3.len = 0) && decide (x_6.len = n_7))) 20 rfl hns (by kernel_rfl) (by kernel_rfl) rfl (.inr hS_68) rfl rfl (by rw [hc_70]; decide) rfl rfl ?_
          refine JA_takep 21 rfl hns (by kernel_rfl) (by kernel_rfl) rfl (.inr hS_68) rfl rfl rfl (r_pick_f (v := .bool false) rfl hc_70 rfl) ?_
          refine J_prune _ ?_ fun b => hk false _ b _ _ ⟨rfl, rfl, rfl⟩
          exact ⟨rfl, rfl, trivial⟩
        · rintro y_71 _ b s_109 _ ⟨rfl, rfl, rfl⟩
          have hS_110 : HeldOK σ [.row (t_Gdiff_Leq).o 37 v_11 x_12, .cell c_16 [.int .i64 goal_9.X, .int .i64 goal_9.Y, .int .i64 goal_9.C], .cell c_14 [.bool Yes_1, v_2, v_5], .row ((tInt .i64)).o 2 v_5 x_6] σ [.row (t_Gdiff_Leq).o 37 v_11 x_12, .cell c_16 [.int .i64 goal_9.X, .int .i64 goal_9.Y, .int .i64 goal_9.C], .cell c_14 [.bool Yes_1, v_2, v_5], .row ((tInt .i64)).o 2 v_5 x_6] := HeldOK.same [0, 1, 2, 3] (by decide) rfl
          refine JA_takep 22 rfl hns (by kernel_rfl) (by kernel_rfl) rfl (.inr hS_110) rfl rfl rfl (r_assign (v := .bool y_71) rfl) ?_
          refine JA_done (by kernel_rfl) ?_
          refine J_then ?_
          refine J_ret ?_
          exact J_returnV1 (PV' := [.row ((tInt .i64)).o 2 v_5 x_6, .row (t_Gdiff_Leq).o 37 v_11 x_12]) rfl rv_tmp [3, 0] (by decide) rfl ⟨rfl, rfl, rfl⟩
def lychgatelaw05_wakes_post (σ0 : FS)  (r : Bool) (σ : FS) (PV : List Priv) (v : Value) : Prop :=
  σ0 = σ ∧ .bool r = v ∧ PV = []
set_option maxRecDepth 100000 in
theorem lychgatelaw05_wakes_ref (s : Start) (σ : FS)  (hs : Pre s σ []) (r : Bool) (hr : lychgatelaw05_wakes  = some r) : Does Try.prog 9 [] s σ (lychgatelaw05_wakes_post σ  r) := by
  unfold lychgatelaw05_wakes at hr
  refine does_of_J Try.func9 rfl (n := 25) rfl rfl hs hr ?_
  refine J_seq ?_
  refine J_region ?_
  refine JL_op rfl (op_read rfl rfl (r_assign (v := .bool false) rfl) ?_)
  refine JL_nil ?_
  refine J_then ?_
  refine J_seq ?_
  refine J_region ?_
  refine JL_op rfl (op_read rfl rfl (r_build (cs := [.int .i64 0, .int .i64 1, .int .i64 2]) (vs := [(0, .int .i64 0), (1, .int .i64 1), (2, .int .i64 2)]) (pcs := [(0, [.int .i64 0]), (1, [.int .i64 1]), (2, [.int .i64 2])]) (pls := [(0, 1), (1, 1), (2, 1)]) Try.pu37 Try.pi37 rfl (by kernel_rfl) rfl ⟨rfl, rfl, ⟨rfl, rfl, ⟨rfl, rfl, trivial⟩⟩⟩ rfl) ?_)
  refine JL_op rfl (op_read rfl rfl (r_build (cs := [.int .i64 1, .int .i64 2, .int .i64 3]) (vs := [(0, .int .i64 1), (1, .int .i64 2), (2, .int .i64 3)]) (pcs := [(0, [.int .i64 1]), (1, [.int .i64 2]), (2, [.int .i64 3])]) (pls := [(0, 1), (1, 1), (2, 1)]) Try.pu37 Try.pi37 rfl (by kernel_rfl) rfl ⟨rfl, rfl, ⟨rfl, rfl, ⟨rfl, rfl, trivial⟩⟩⟩ rfl) ?_)
  refine JL_op rfl (op_buildSlice (T := (t_Gdiff_Leq).o) (vs := [.agg #[.int .i64 0, .int .i64 1, .int .i64 2], .agg #[.int .i64 1, .int .i64 2, .int .i64 3]]) (xs := [(⟨0, 1, 2⟩ : Gdiff_Leq), (⟨1, 2, 3⟩ : Gdiff_Leq)]) [] [] rfl Try.pu23 Try.pi37 rfl rfl rfl rfl rfl rfl (relsO_cons (A := []) (B := []) (u := .agg #[.int .i64 0, .int .i64 1, .int .i64 2]) (x := (⟨0, 1, 2⟩ : Gdiff_Leq)) (fix_vrel (T := (t_Gdiff_Leq).o) rfl (t_Gdiff_Leq_v.2 rfl)) (relsO_cons (A := []) (B := []) (u := .agg #[.int .i64 1, .int .i64 2, .int .i64 3]) (x := (⟨1, 2, 3⟩ : Gdiff_Leq)) (fix_vrel (T := (t_Gdiff_Leq).o) rfl (t_Gdiff_Leq_v.2 rfl)) relsO_nil)) ?_)
  intro v_1
  refine JL_op rfl (op_read rfl rfl (r_assign (v := v_1) rfl) ?_)
  refine JL_nil ?_
  refine J_then ?_
  refine J_seq ?_
  refine J_region ?_
  refine JL_op rfl (op_buildSlice (T := ((tInt .i64)).o) (vs := [.int .i64 0, .int .i64 1, .int .i64 2]) (xs := [0, 1, 2]) [] [.row (t_Gdiff_Leq).o 37 v_1 (⟨[(⟨0, 1, 2⟩ : Gdiff_Leq), (⟨1, 2, 3⟩ : Gdiff_Leq)], true⟩ : Sl Gdiff_Leq)] rfl Try.pu22 Try.pi3 rfl rfl rfl rfl rfl rfl (relsO_cons (A := []) (B := []) (u := .int .i64 0) (x := 0) (fix_vrel (T := ((tInt .i64)).o) rfl (tInt_v.2 rfl)) (relsO_cons (A := []) (B := []) (u := .int .i64 1) (x := 1) (fix_vrel (T := ((tInt .i64)).o) rfl (tInt_v.2 rfl)) (relsO_cons (A := []) (B := []) (u := .int .i64 2) (x := 2) (fix_vrel (T := ((tInt .i64)).o) rfl (tInt_v.2 rfl)) relsO_nil))) ?_)
  intro v_3
  refine J_row_one 0 rfl fun h_5 => ?_
  refine JL_op rfl (op_read rfl rfl (r_build (cs := [.bool true, v_3, .slice none 0 0]) (vs := [(0, .bool true), (1, v_3)]) (pcs := [(0, [.bool true]), (1, [v_3])]) (pls := [(0, 1), (1, 1), (2, 1)]) Try.pu35 Try.pi35 rfl (by kernel_rfl) rfl ⟨rfl, rfl, ⟨rfl, (one_cells h_5), trivial⟩⟩ rfl) ?_)
  refine JL_op rfl (op_read rfl rfl (r_build (cs := [.int .i64 0, .int .i64 2, .int .i64 5]) (vs := [(0, .int .i64 0), (1, .int .i64 2), (2, .int .i64 5)]) (pcs := [(0, [.int .i64 0]), (1, [.int .i64 2]), (2, [.int .i64 5])]) (pls := [(0, 1), (1, 1), (2, 1)]) Try.pu37 Try.pi37 rfl (by kernel_rfl) rfl ⟨rfl, rfl, ⟨rfl, rfl, ⟨rfl, rfl, trivial⟩⟩⟩ rfl) ?_)
  refine JL_op rfl (op_read rfl rfl (r_move (v := v_1) rfl) ?_)
  refine JL_op rfl (op_call (f := 15) (fn := Try.f15) (args := [.agg #[.bool true, v_3, .slice none 0 0], .int .i64 3, .agg #[.int .i64 0, .int .i64 2, .int .i64 5], v_1]) (post := cert_Check_post σ true v_3 (⟨[0, 1, 2], true⟩ : Sl Int) (.slice none 0 0) (⟨[], false⟩ : Sl Int) 3 (.agg #[.int .i64 0, .int .i64 2, .int .i64 5]) (⟨0, 2, 5⟩ : Gdiff_Leq) v_1 (⟨[(⟨0, 1, 2⟩ : Gdiff_Leq), (⟨1, 2, 3⟩ : Gdiff_Leq)], true⟩ : Sl Gdiff_Leq)) [.row ((tInt .i64)).o 3 v_3 (⟨[0, 1, 2], true⟩ : Sl Int), .row (t_Gdiff_Leq).o 37 v_1 (⟨[(⟨0, 1, 2⟩ : Gdiff_Leq), (⟨1, 2, 3⟩ : Gdiff_Leq)], true⟩ : Sl Gdiff_Leq)] [] rfl rfl rfl Try.func15 Try.pn15 rfl rfl (fun y st hy hpre => cert_Check_ref st σ true v_3 (⟨[0, 1, 2], true⟩ : Sl Int) (.slice none 0 0) (⟨[], false⟩ : Sl Int) nil_vrel 3 (.agg #[.int .i64 0, .int .i64 2, .int .i64 5]) (⟨0, 2, 5⟩ : Gdiff_Leq) (t_Gdiff_Leq_v.2 rfl) v_1 (⟨[(⟨0, 1, 2⟩ : Gdiff_Leq), (⟨1, 2, 3⟩ : Gdiff_Leq)], true⟩ : Sl Gdiff_Leq) hpre y hy) ?_)
  intro r_6 v_8 s_11 PV_9 hr_7 hle_12 hp_10
  obtain ⟨rfl, rfl, rfl⟩ := hp_10
  refine JL_op rfl (op_read rfl rfl (r_move (v := .bool r_6) rfl) ?_)
  refine J_forkLB (e := r_6) 6 (fun (y : Bool) L τ PV => σ = τ ∧ L = [(1, v_1), (16, .bool y)] ∧ PV = [.row (t_Gdiff_Leq).o 37 v_1 (⟨[(⟨0, 1, 2⟩ : Gdiff_Leq), (⟨1, 2, 3⟩ : Gdiff_Leq)], true⟩ : Sl Gdiff_Leq)]) (fun hc_13 hk => ?_) (fun hc_13 hk => ?_) ?_
  · refine JL_opg rfl rfl hc_13 (op_buildSlice (T := ((tInt .i64)).o) (vs := [.int .i64 5, .int .i64 3, .int .i64 0]) (xs := [5, 3, 0]) [] [.row ((tInt .i64)).o 3 v_3 (⟨[0, 1, 2], true⟩ : Sl Int), .row (t_Gdiff_Leq).o 37 v_1 (⟨[(⟨0, 1, 2⟩ : Gdiff_Leq), (⟨1, 2, 3⟩ : Gdiff_Leq)], true⟩ : Sl Gdiff_Leq)] rfl Try.pu30 Try.pi2 rfl rfl rfl rfl rfl rfl (relsO_cons (A := []) (B := []) (u := .int .i64 5) (x := 5) (fix_vrel (T := ((tInt .i64)).o) rfl (tInt_v.2 rfl)) (relsO_cons (A := []) (B := []) (u := .int .i64 3) (x := 3) (fix_vrel (T := ((tInt .i64)).o) rfl (tInt_v.2 rfl)) (relsO_cons (A := []) (B := []) (u := .int .i64 0) (x := 0) (fix_vrel (T := ((tInt .i64)).o) rfl (tInt_v.2 rfl)) relsO_nil))) ?_)
    intro v_15
    refine J_row_one 0 rfl fun h_17 => ?_
    refine JL_opg rfl rfl hc_13 (op_read rfl rfl (r_build (cs := [.bool false, .slice none 0 0, v_15]) (vs := [(2, v_15)]) (pcs := [(2, [v_15])]) (pls := [(0, 1), (1, 1), (2, 1)]) Try.pu35 Try.pi35 rfl (by kernel_rfl) rfl ⟨rfl, (one_cells h_17), trivial⟩ rfl) ?_)
    refine JL_opg rfl rfl hc_13 (op_read rfl rfl (r_build (cs := [.int .i64 0, .int .i64 2, .int .i64 4]) (vs := [(0, .int .i64 0), (1, .int .i64 2), (2, .int .i64 4)]) (pcs := [(0, [.int .i64 0]), (1, [.int .i64 2]), (2, [.int .i64 4])]) (pls := [(0, 1), (1, 1), (2, 1)]) Try.pu37 Try.pi37 rfl (by kernel_rfl) rfl ⟨rfl, rfl, ⟨rfl, rfl, ⟨rfl, rfl, trivial⟩⟩⟩ rfl) ?_)
    refine JL_opg rfl rfl hc_13 (op_read rfl rfl (r_move (v := v_1) rfl) ?_)
    refine J_select (PV' := [.row ((tInt .i64)).o 2 v_15 (⟨[5, 3, 0], true⟩ : Sl Int), .row (t_Gdiff_Leq).o 37 v_1 (⟨[(⟨0, 1, 2⟩ : Gdiff_Leq), (⟨1, 2, 3⟩ : Gdiff_Leq)], true⟩ : Sl Gdiff_Leq), .row ((tInt .i64)).o 3 v_3 (⟨[0, 1, 2], true⟩ : Sl Int)]) [0, 2, 1] (by decide) rfl ?_
    refine J_assoc ?_
    refine JL_opg rfl rfl hc_13 (op_call (f := 15) (fn := Try.f15) (args := [.agg #[.bool false, .slice none 0 0, v_15], .int .i64 3, .agg #[.int .i64 0, .int .i64 2, .int .i64 4], v_1]) (post := cert_Check_v2_post σ false (.slice none 0 0) (⟨[], false⟩ : Sl Int) v_15 (⟨[5, 3, 0], true⟩ : Sl Int) 3 (.agg #[.int .i64 0, .int .i64 2, .int .i64 4]) (⟨0, 2, 4⟩ : Gdiff_Leq) v_1 (⟨[(⟨0, 1, 2⟩ : Gdiff_Leq), (⟨1, 2, 3⟩ : Gdiff_Leq)], true⟩ : Sl Gdiff_Leq)) [.row ((tInt .i64)).o 2 v_15 (⟨[5, 3, 0], true⟩ : Sl Int), .row (t_Gdiff_Leq).o 37 v_1 (⟨[(⟨0, 1, 2⟩ : Gdiff_Leq), (⟨1, 2, 3⟩ : Gdiff_Leq)], true⟩ : Sl Gdiff_Leq)] [.row ((tInt .i64)).o 3 v_3 (⟨[0, 1, 2], true⟩ : Sl Int)] rfl rfl rfl Try.func15 Try.pn15 rfl rfl (fun y st hy hpre => cert_Check_v2_ref st σ false (.slice none 0 0) (⟨[], false⟩ : Sl Int) nil_vrel v_15 (⟨[5, 3, 0], true⟩ : Sl Int) 3 (.agg #[.int .i64 0, .int .i64 2, .int .i64 4]) (⟨0, 2, 4⟩ : Gdiff_Leq) (t_Gdiff_Leq_v.2 rfl) v_1 (⟨[(⟨0, 1, 2⟩ : Gdiff_Leq), (⟨1, 2, 3⟩ : Gdiff_Leq)], true⟩ : Sl Gdiff_Leq) hpre y hy) ?_)
    intro r_18 v_20 s_23 PV_21 hr_19 hle_24 hp_22
    obtain ⟨rfl, rfl, rfl⟩ := hp_22
    refine JL_op rfl (op_read rfl rfl (r_pick_t (v := .bool r_18) rfl hc_13 rfl) ?_)
    refine J_select (PV' := [.row (t_Gdiff_Leq).o 37 v_1 (⟨[(⟨0, 1, 2⟩ : Gdiff_Leq), (⟨1, 2, 3⟩ : Gdiff_Leq)], true⟩ : Sl Gdiff_Leq)]) [1] (by decide) rfl ?_
    refine J_prune _ ?_ fun b => hk r_18 _ b _ _ ⟨rfl, rfl, rfl⟩
    exact ⟨rfl, rfl, trivial⟩
  · refine JL_skip rfl rfl hc_13 rfl rfl ?_
    refine JL_skip rfl rfl hc_13 rfl rfl ?_
    refine JL_skip rfl rfl hc_13 rfl rfl ?_
    refine JL_skip rfl rfl hc_13 rfl rfl ?_
    refine JL_skip rfl rfl hc_13 rfl rfl ?_
    refine JL_op rfl (op_read rfl rfl (r_pick_f (v := .bool false) rfl hc_13 rfl) ?_)
    refine J_select (PV' := [.row (t_Gdiff_Leq).o 37 v_1 (⟨[(⟨0, 1, 2⟩ : Gdiff_Leq), (⟨1, 2, 3⟩ : Gdiff_Leq)], true⟩ : Sl Gdiff_Leq)]) [1] (by decide) rfl ?_
    refine J_prune _ ?_ fun b => hk false _ b _ _ ⟨rfl, rfl, rfl⟩
    exact ⟨rfl, rfl, trivial⟩
  · rintro y_14 _ b s_27 _ ⟨rfl, rfl, rfl⟩
    refine JL_op rfl (op_read rfl rfl (r_move (v := .bool y_14) rfl) ?_)
    refine J_forkLB (e := y_14) 7 (fun (y : Bool) L τ PV => σ = τ ∧ L = [(24, .bool y)] ∧ PV = []) (fun hc_28 hk => ?_) (fun hc_28 hk => ?_) ?_
    · refine JL_opg rfl rfl hc_28 (op_buildSlice (T := ((tInt .i64)).o) (vs := [.int .i64 0, .int .i64 1, .int .i64 2]) (xs := [0, 1, 2]) [] [.row (t_Gdiff_Leq).o 37 v_1 (⟨[(⟨0, 1, 2⟩ : Gdiff_Leq), (⟨1, 2, 3⟩ : Gdiff_Leq)], true⟩ : Sl Gdiff_Leq)] rfl Try.pu22 Try.pi3 rfl rfl rfl rfl rfl rfl (relsO_cons (A := []) (B := []) (u := .int .i64 0) (x := 0) (fix_vrel (T := ((tInt .i64)).o) rfl (tInt_v.2 rfl)) (relsO_cons (A := []) (B := []) (u := .int .i64 1) (x := 1) (fix_vrel (T := ((tInt .i64)).o) rfl (tInt_v.2 rfl)) (relsO_cons (A := []) (B := []) (u := .int .i64 2) (x := 2) (fix_vrel (T := ((tInt .i64)).o) rfl (tInt_v.2 rfl)) relsO_nil))) ?_)
      intro v_30
      refine J_row_one 0 rfl fun h_32 => ?_
      refine JL_opg rfl rfl hc_28 (op_read rfl rfl (r_build (cs := [.bool true, v_30, .slice none 0 0]) (vs := [(0, .bool true), (1, v_30)]) (pcs := [(0, [.bool true]), (1, [v_30])]) (pls := [(0, 1), (1, 1), (2, 1)]) Try.pu35 Try.pi35 rfl (by kernel_rfl) rfl ⟨rfl, rfl, ⟨rfl, (one_cells h_32), trivial⟩⟩ rfl) ?_)
      refine JL_opg rfl rfl hc_28 (op_read rfl rfl (r_build (cs := [.int .i64 0, .int .i64 2, .int .i64 4]) (vs := [(0, .int .i64 0), (1, .int .i64 2), (2, .int .i64 4)]) (pcs := [(0, [.int .i64 0]), (1, [.int .i64 2]), (2, [.int .i64 4])]) (pls := [(0, 1), (1, 1), (2, 1)]) Try.pu37 Try.pi37 rfl (by kernel_rfl) rfl ⟨rfl, rfl, ⟨rfl, rfl, ⟨rfl, rfl, trivial⟩⟩⟩ rfl) ?_)
      refine JL_opg rfl rfl hc_28 (op_read rfl rfl (r_move (v := v_1) rfl) ?_)
      refine J_assoc ?_
      refine JL_opg rfl rfl hc_28 (op_call (f := 15) (fn := Try.f15) (args := [.agg #[.bool true, v_30, .slice none 0 0], .int .i64 3, .agg #[.int .i64 0, .int .i64 2, .int .i64 4], v_1]) (post := cert_Check_post σ true v_30 (⟨[0, 1, 2], true⟩ : Sl Int) (.slice none 0 0) (⟨[], false⟩ : Sl Int) 3 (.agg #[.int .i64 0, .int .i64 2, .int .i64 4]) (⟨0, 2, 4⟩ : Gdiff_Leq) v_1 (⟨[(⟨0, 1, 2⟩ : Gdiff_Leq), (⟨1, 2, 3⟩ : Gdiff_Leq)], true⟩ : Sl Gdiff_Leq)) [.row ((tInt .i64)).o 3 v_30 (⟨[0, 1, 2], true⟩ : Sl Int), .row (t_Gdiff_Leq).o 37 v_1 (⟨[(⟨0, 1, 2⟩ : Gdiff_Leq), (⟨1, 2, 3⟩ : Gdiff_Leq)], true⟩ : Sl Gdiff_Leq)] [] rfl rfl rfl Try.func15 Try.pn15 rfl rfl (fun y st hy hpre => cert_Check_ref st σ true v_30 (⟨[0, 1, 2], true⟩ : Sl Int) (.slice none 0 0) (⟨[], false⟩ : Sl Int) nil_vrel 3 (.agg #[.int .i64 0, .int .i64 2, .int .i64 4]) (⟨0, 2, 4⟩ : Gdiff_Leq) (t_Gdiff_Leq_v.2 rfl) v_1 (⟨[(⟨0, 1, 2⟩ : Gdiff_Leq), (⟨1, 2, 3⟩ : Gdiff_Leq)], true⟩ : Sl Gdiff_Leq) hpre y hy) ?_)
      intro r_33 v_35 s_38 PV_36 hr_34 hle_39 hp_37
      obtain ⟨rfl, rfl, rfl⟩ := hp_37
      refine JL_opg rfl rfl hc_28 (op_read rfl rfl (r_not rfl) ?_)
      refine JL_op rfl (op_read rfl rfl (r_pick_t (v := .bool (!r_33)) rfl hc_28 rfl) ?_)
      refine J_select (PV' := []) [] (by decide) rfl ?_
      refine J_prune _ ?_ fun b => hk (!r_33) _ b _ _ ⟨rfl, rfl, rfl⟩
      exact ⟨rfl, trivial⟩
    · refine JL_skip rfl rfl hc_28 rfl rfl ?_
      refine JL_skip rfl rfl hc_28 rfl rfl ?_
      refine JL_skip rfl rfl hc_28 rfl rfl ?_
      refine JL_skip rfl rfl hc_28 rfl rfl ?_
      refine JL_skip rfl rfl hc_28 rfl rfl ?_
      refine JL_skip rfl rfl hc_28 rfl rfl ?_
      refine JL_op rfl (op_read rfl rfl (r_pick_f (v := .bool false) rfl hc_28 rfl) ?_)
      refine J_select (PV' := []) [] (by decide) rfl ?_
      refine J_prune _ ?_ fun b => hk false _ b _ _ ⟨rfl, rfl, rfl⟩
      exact ⟨rfl, trivial⟩
    · rintro y_29 _ b s_42 _ ⟨rfl, rfl, rfl⟩
      refine JL_op rfl (op_read rfl rfl (r_assign (v := .bool y_29) rfl) ?_)
      refine JL_nil ?_
      refine J_then ?_
      refine J_ret ?_
      exact J_returnV1 (PV' := []) rfl rv_tmp [] (by decide) rfl ⟨rfl, rfl, rfl⟩
def cert_Circle_1_v2_post (σ0 : FS) (k_1 : Int) (a_2 : Addr) (v_3 : Value) (f_4 : Sl Gdiff_Leq) (r : Bool) (σ : FS) (PV : List Priv) (v : Value) : Prop :=
  σ0 = σ ∧ .bool r = v ∧ PV = [.cell a_2 [v_3]]
set_option maxRecDepth 100000 in
theorem cert_Circle_1_v2_ref (s : Start) (σ : FS) (k_1 : Int) (a_2 : Addr) (v_3 : Value) (f_4 : Sl Gdiff_Leq) (h_5 : (tSl t_Gdiff_Leq).vrel σ v_3 f_4) (hs : Pre s σ [.cell a_2 [v_3]]) (r : Bool) (hr : cert_Circle_1_v2 k_1 f_4 = some r) : Does Try.prog 20 [.int .i64 k_1, .pointer (some (Addr.add a_2 0))] s σ (cert_Circle_1_v2_post σ k_1 a_2 v_3 f_4 r) := by
  unfold cert_Circle_1_v2 at hr
  refine does_of_J Try.func20 rfl (n := 21) rfl rfl hs hr ?_
  refine J_seq ?_
  refine J_region ?_
  refine JL_op rfl (op_read rfl rfl (r_assign (v := .bool false) rfl) ?_)
  refine JL_nil ?_
  refine J_then ?_
  refine J_seq ?_
  refine J_region ?_
  refine JL_op rfl (op_read rfl rfl (r_move (v := .int .i64 k_1) rfl) ?_)
  refine JL_op rfl (op_read rfl rfl (r_lss rfl rfl) ?_)
  refine JL_op rfl (op_read rfl rfl (r_move (v := .bool (decide (k_1 < 0))) rfl) ?_)
  refine J_forkL (e := (decide (k_1 < 0))) 5 [(0, .int .i64 k_1), (1, .pointer (some (Addr.add a_2 0))), (11, .bool (decide (k_1 < 0) || decide (f_4.len ≤ k_1)))] (fun hc_6 hk => ?_) (fun hc_6 hk => ?_) (fun b => ?_)
  · refine JL_skip rfl rfl hc_6 rfl rfl ?_
    refine JL_skip rfl rfl hc_6 rfl rfl ?_
    refine JL_skip rfl rfl hc_6 rfl rfl ?_
    refine JL_skip rfl rfl hc_6 rfl rfl ?_
    refine JL_op rfl (op_read rfl rfl (r_pick_t (v := .bool true) rfl hc_6 rfl) ?_)
    refine J_prune [(0, .int .i64 k_1), (1, .pointer (some (Addr.add a_2 0))), (11, .bool (decide (k_1 < 0) || decide (f_4.len ≤ k_1)))] ⟨rfl, rfl, (by show Value.bool _ = Value.bool _; rw [hc_6]; rfl), trivial⟩ hk
  · refine JL_opg rfl rfl hc_6 (op_read rfl rfl (r_move (v := .int .i64 k_1) rfl) ?_)
    refine JL_opg rfl rfl hc_6 (op_read rfl rfl (r_load_priv (a := a_2) (off := 0) (cs' := [v_3]) (v := v_3) 0 Try.pu23 Try.pi23 rfl rfl rfl rfl (by decide) rfl) ?_)
    refine JL_opg rfl rfl hc_6 (op_read rfl rfl (r_len_frozen (v := v_3) Try.pu23 rfl h_5) ?_)
    refine JL_opg rfl rfl hc_6 (op_read rfl rfl (r_geq rfl rfl) ?_)
    refine JL_op rfl (op_read rfl rfl (r_pick_f (v := .bool (decide (f_4.len ≤ k_1))) rfl hc_6 rfl) ?_)
    refine J_prune [(0, .int .i64 k_1), (1, .pointer (some (Addr.add a_2 0))), (11, .bool (decide (k_1 < 0) || decide (f_4.len ≤ k_1)))] ⟨rfl, rfl, (by show Value.bool _ = Value.bool _; rw [hc_6]; rfl), trivial⟩ hk
  · refine JL_op rfl (op_read rfl rfl (r_move (v := .bool (decide (k_1 < 0) || decide (f_4.len ≤ k_1))) rfl) ?_)
    refine J_forkLB (e := (decide (k_1 < 0) || decide (f_4.len ≤ k_1))) 8 (fun (y : Bool) L τ PV => σ = τ ∧ L = [(20, .bool y)] ∧ PV = [.cell a_2 [v_3]]) (fun hc_7 hk => ?_) (fun hc_7 hk => ?_) ?_
    · refine JL_skip rfl rfl hc_7 rfl rfl ?_
      refine JL_skip rfl rfl hc_7 rfl rfl ?_
      refine JL_skip rfl rfl hc_7 rfl rfl ?_
      refine JL_skip rfl rfl hc_7 rfl rfl ?_
      refine JL_skip rfl rfl hc_7 rfl rfl ?_
      refine JL_skip rfl rfl hc_7 rfl rfl ?_
      refine JL_skip rfl rfl hc_7 rfl rfl ?_
      refine JL_op rfl (op_read rfl rfl (r_pick_t (v := .bool true) rfl hc_7 rfl) ?_)
      refine J_prune _ ?_ fun b => hk true _ b _ _ ⟨rfl, rfl, rfl⟩
      exact ⟨rfl, trivial⟩
    · refine JL_opg rfl rfl hc_7 (op_read rfl rfl (r_load_priv (a := a_2) (off := 0) (cs' := [v_3]) (v := v_3) 0 Try.pu23 Try.pi23 rfl rfl rfl rfl (by decide) rfl) ?_)
      refine JL_opg rfl rfl hc_7 (op_read rfl rfl (r_move (v := .int .i64 k_1) rfl) ?_)
      refine J_assoc ?_
      refine J_bind fun x_9 hx_10 => ?_
      refine JL_opg rfl rfl hc_7 (op_read rfl rfl (r_index_frozen (v := v_3) (T := t_Gdiff_Leq) (q := x_9) Try.pu23 Try.pi37 rfl rfl rfl h_5 hx_10) ?_)
      refine JL_opg rfl rfl hc_7 (op_read rfl rfl (r_fieldAddr (r := elemAddr v_3 ((k_1).toNat * (t_Gdiff_Leq).size + 2)) Try.pu37 (f := Try.pf37.getD 2 default) rfl Try.pi2 (by decide) rfl (elemAddr_add _ _ _)) ?_)
      refine JL_opg rfl rfl hc_7 (op_reads rfl rfl (l_elem_frozen (v := v_3) (T := t_Gdiff_Leq) (Tf := (tInt .i64)) (q := x_9) (i := k_1) (off := 2) Try.pu2 Try.pi2 rfl rfl rfl h_5 hx_10 f_Gdiff_Leq_C (by decide)) ?_)
      intro v_11 h_12
      obtain rfl := tInt_v.1 h_12
      refine J_assoc ?_
      refine JL_opg rfl rfl hc_7 (op_call (f := 21) (fn := Try.f21) (args := [.int .i64 x_9.C, .int .i64 17592186044416]) (post := cert_within_post σ x_9.C 17592186044416) [] [.cell a_2 [v_3]] rfl rfl rfl Try.func21 Try.pn21 rfl rfl (fun y st hy hpre => cert_within_ref st σ x_9.C 17592186044416 hpre y hy) ?_)
      intro r_13 v_15 s_18 PV_16 hr_14 hle_19 hp_17
      obtain ⟨rfl, rfl, rfl⟩ := hp_17
      refine JL_opg rfl rfl hc_7 (op_read rfl rfl (r_not rfl) ?_)
      refine JL_op rfl (op_read rfl rfl (r_pick_f (v := .bool (!(decide (x_9.C ≤ 17592186044416) && decide ((IntKind.i64.wrap (0 - 17592186044416)) ≤ x_9.C)))) rfl hc_7 rfl) ?_)
      refine J_prune _ ?_ fun b => hk (!(decide (x_9.C ≤ 17592186044416) && decide ((IntKind.i64.wrap (0 - 17592186044416)) ≤ x_9.C))) _ b _ _ ⟨rfl, rfl, rfl⟩
      exact ⟨rfl, trivial⟩
    · rintro y_8 _ b s_22 _ ⟨rfl, rfl, rfl⟩
      refine JL_op rfl (op_read rfl rfl (r_assign (v := .bool y_8) rfl) ?_)
      refine JL_nil ?_
      refine J_then ?_
      refine J_ret ?_
      exact J_returnV1 (PV' := [.cell a_2 [v_3]]) rfl rv_tmp [0] (by decide) rfl ⟨rfl, rfl, rfl⟩
def slices_IndexFunc_v6_post (σ0 : FS) (v_1 : Value) (s_2 : Sl Int) (a_4 : Addr) (v_5 : Value) (f_6 : Sl Gdiff_Leq) (r : Int) (σ : FS) (PV : List Priv) (v : Value) : Prop :=
  σ0 = σ ∧ .int .i64 r = v ∧ PV = [.cell a_4 [v_5]]
set_option maxRecDepth 100000 in
theorem slices_IndexFunc_v6_ref (s : Start) (σ : FS) (v_1 : Value) (s_2 : Sl Int) (h_3 : (tSl (tInt .i64)).vrel σ v_1 s_2) (a_4 : Addr) (v_5 : Value) (f_6 : Sl Gdiff_Leq) (h_7 : (tSl t_Gdiff_Leq).vrel σ v_5 f_6) (hs : Pre s σ [.cell a_4 [v_5]]) (r : Int) (hr : slices_IndexFunc_v6 s_2 f_6 = some r) : Does Try.prog 30 [v_1, .func (.func 20) #[] #[.pointer (some (Addr.add a_4 0))]] s σ (slices_IndexFunc_v6_post σ v_1 s_2 a_4 v_5 f_6 r) := by
  unfold slices_IndexFunc_v6 at hr
  refine does_of_J Try.func30 rfl (n := 19) rfl rfl hs hr ?_
  refine J_seq ?_
  refine J_region ?_
  refine JL_op rfl (op_read rfl rfl (r_assign (v := .int .i64 0) rfl) ?_)
  refine JL_nil ?_
  refine J_then ?_
  refine J_seq ?_
  refine J_seq ?_
  refine J_region ?_
  refine JL_op rfl (op_read rfl rfl (r_move (v := v_1) rfl) ?_)
  refine JL_op rfl (op_read rfl rfl (r_len_frozen (v := v_1) Try.pu22 rfl h_3) ?_)
  refine JL_op rfl (op_read rfl rfl (r_move (v := .int .i64 0) rfl) ?_)
  refine JL_nil ?_
  refine J_then ?_
  refine J_block ?_
  refine J_loop (fun (y : Int) L τ PV => σ = τ ∧ L = [(0, v_1), (1, .func (.func 20) #[] #[.pointer (some (Addr.add a_4 0))]), (7, .int .i64 s_2.len), (8, .int .i64 y)] ∧ PV = [.cell a_4 [v_5]]) (fun (y : W2 Unit Int) e L τ PV => match y, e with | .a y, e => e = .exit 0 ∧ (σ = τ ∧ L = [] ∧ PV = [.cell a_4 [v_5]]) | .b y, e => e = .ret ∧ (σ = τ ∧ L = [(4, .int .i64 y)] ∧ PV = [.cell a_4 [v_5]])) _ ?_ ⟨rfl, rfl, rfl⟩ ?_ ?_
  · exact ⟨rfl, rfl, rfl, rfl, trivial⟩
  · rintro x_8 _ b s_11 _ ⟨rfl, rfl, rfl⟩
    unfold slices_IndexFunc_v6_L1
    refine J_seq ?_
    refine J_region ?_
    refine JL_op rfl (op_read rfl rfl (r_lss rfl rfl) ?_)
    refine JL_nil ?_
    refine J_then ?_
    refine J_seq ?_
    refine J_cond rfl (fun hc_12 => ?_) (fun hc_12 => ?_)
    · refine J_skip ?_
      refine J_then ?_
      refine J_seq ?_
      refine J_block ?_
      refine J_seq ?_
      refine J_region ?_
      refine JL_op rfl (op_read rfl rfl (r_move (v := .int .i64 x_8) rfl) ?_)
      refine JL_op rfl (op_read rfl rfl (r_assign (v := .int .i64 x_8) rfl) ?_)
      refine JL_nil ?_
      refine J_then ?_
      refine J_seq ?_
      refine J_region ?_
      refine JL_op rfl (op_read rfl rfl (r_move (v := .func (.func 20) #[] #[.pointer (some (Addr.add a_4 0))]) rfl) ?_)
      refine JL_op rfl (op_read rfl rfl (r_move (v := v_1) rfl) ?_)
      refine JL_op rfl (op_read rfl rfl (r_move (v := .int .i64 x_8) rfl) ?_)
      refine J_bind fun x_13 hx_14 => ?_
      refine JL_op rfl (op_read rfl rfl (r_index_frozen (v := v_1) (T := (tInt .i64)) (q := x_13) Try.pu22 Try.pi3 rfl rfl rfl h_3 hx_14) ?_)
      refine JL_op rfl (op_reads rfl rfl (l_elem_frozen (v := v_1) (T := (tInt .i64)) (Tf := (tInt .i64)) (q := x_13) (i := x_8) (off := 0) Try.pu3 Try.pi3 rfl rfl rfl h_3 hx_14 (FieldAt.self _) (by decide)) ?_)
      intro v_15 h_16
      obtain rfl := tInt_v.1 h_16
      refine JL_op rfl (op_call (f := 20) (fn := Try.f20) (args := [.int .i64 x_13, .pointer (some (Addr.add a_4 0))]) (post := cert_Circle_1_v2_post σ x_13 a_4 v_5 f_6) [.cell a_4 [v_5]] [] rfl rfl rfl Try.func20 Try.pn20 rfl rfl (fun y st hy hpre => cert_Circle_1_v2_ref st σ x_13 a_4 v_5 f_6 h_7 hpre y hy) ?_)
      intro r_17 v_19 s_22 PV_20 hr_18 hle_23 hp_21
      obtain ⟨rfl, rfl, rfl⟩ := hp_21
      refine JL_nil ?_
      refine J_then ?_
      refine J_cond rfl (fun hc_24 => ?_) (fun hc_24 => ?_)
      · refine J_seq ?_
        refine J_region ?_
        refine JL_op rfl (op_read rfl rfl (r_move (v := .int .i64 x_8) rfl) ?_)
        refine JL_op rfl (op_read rfl rfl (r_assign (v := .int .i64 x_8) rfl) ?_)
        refine JL_nil ?_
        refine J_then ?_
        refine J_ret ?_
        refine J_in_ret ?_
        refine J_then_ret ?_
        refine J_done trivial _ ?_ ⟨rfl, rfl, rfl, rfl⟩
        exact ⟨rfl, trivial⟩
      · refine J_skip ?_
        refine J_in_normal ?_
        refine J_then ?_
        refine J_region ?_
        refine JL_op rfl (op_read rfl rfl (r_add rfl rfl) ?_)
        refine JL_op rfl (op_read rfl rfl (r_move (v := .int .i64 (IntKind.i64.wrap (x_8 + 1))) rfl) ?_)
        refine JL_nil ?_
        refine J_next _ ?_ ⟨rfl, rfl, rfl⟩
        exact ⟨rfl, rfl, rfl, rfl, trivial⟩
    · refine J_exit ?_
      refine J_then_exit ?_
      refine J_done trivial _ ?_ ⟨rfl, rfl, rfl, rfl⟩
      exact trivial
  · rintro (y_26 | y_30) e L b τ PV ht
    · obtain ⟨rfl, ht⟩ := ht
      revert ht; revert PV; revert τ; revert b; revert L
      rintro _ b s_29 _ ⟨rfl, rfl, rfl⟩
      refine J_in_exit ?_
      refine J_then ?_
      refine J_seq ?_
      refine J_region ?_
      refine JL_op rfl (op_read rfl rfl (r_assign (v := .int .i64 (-1)) rfl) ?_)
      refine JL_nil ?_
      refine J_then ?_
      refine J_ret ?_
      exact J_returnV1 (PV' := [.cell a_4 [v_5]]) rfl rv_tmp [0] (by decide) rfl ⟨rfl, rfl, rfl⟩
    · obtain ⟨rfl, ht⟩ := ht
      revert ht; revert PV; revert τ; revert b; revert L
      rintro _ b s_33 _ ⟨rfl, rfl, rfl⟩
      refine J_in_ret ?_
      refine J_then_ret ?_
      exact J_returnV1 (PV' := [.cell a_4 [v_5]]) rfl rv_tmp [0] (by decide) rfl ⟨rfl, rfl, rfl⟩
def slices_ContainsFunc_v6_post (σ0 : FS) (v_1 : Value) (s_2 : Sl Int) (a_4 : Addr) (v_5 : Value) (f_6 : Sl Gdiff_Leq) (r : Bool) (σ : FS) (PV : List Priv) (v : Value) : Prop :=
  σ0 = σ ∧ .bool r = v ∧ PV = [.cell a_4 [v_5]]
set_option maxRecDepth 100000 in
theorem slices_ContainsFunc_v6_ref (s : Start) (σ : FS) (v_1 : Value) (s_2 : Sl Int) (h_3 : (tSl (tInt .i64)).vrel σ v_1 s_2) (a_4 : Addr) (v_5 : Value) (f_6 : Sl Gdiff_Leq) (h_7 : (tSl t_Gdiff_Leq).vrel σ v_5 f_6) (hs : Pre s σ [.cell a_4 [v_5]]) (r : Bool) (hr : slices_ContainsFunc_v6 s_2 f_6 = some r) : Does Try.prog 19 [v_1, .func (.func 20) #[] #[.pointer (some (Addr.add a_4 0))]] s σ (slices_ContainsFunc_v6_post σ v_1 s_2 a_4 v_5 f_6 r) := by
  unfold slices_ContainsFunc_v6 at hr
  refine does_of_J Try.func19 rfl (n := 9) rfl rfl hs hr ?_
  refine J_seq ?_
  refine J_region ?_
  refine JL_op rfl (op_read rfl rfl (r_assign (v := .bool false) rfl) ?_)
  refine JL_nil ?_
  refine J_then ?_
  refine J_seq ?_
  refine J_region ?_
  refine JL_op rfl (op_read rfl rfl (r_move (v := v_1) rfl) ?_)
  refine JL_op rfl (op_read rfl rfl (r_move (v := .func (.func 20) #[] #[.pointer (some (Addr.add a_4 0))]) rfl) ?_)
  refine JL_op rfl (op_call (f := 30) (fn := Try.f30) (args := [v_1, .func (.func 20) #[] #[.pointer (some (Addr.add a_4 0))]]) (post := slices_IndexFunc_v6_post σ v_1 s_2 a_4 v_5 f_6) [.cell a_4 [v_5]] [] rfl rfl rfl Try.func30 Try.pn30 rfl rfl (fun y st hy hpre => slices_IndexFunc_v6_ref st σ v_1 s_2 h_3 a_4 v_5 f_6 h_7 hpre y hy) ?_)
  intro r_8 v_10 s_13 PV_11 hr_9 hle_14 hp_12
  obtain ⟨rfl, rfl, rfl⟩ := hp_12
  refine JL_op rfl (op_read rfl rfl (r_geq rfl rfl) ?_)
  refine JL_op rfl (op_read rfl rfl (r_assign (v := .bool (decide (0 ≤ r_8))) rfl) ?_)
  refine JL_nil ?_
  refine J_then ?_
  refine J_ret ?_
  exact J_returnV1 (PV' := [.cell a_4 [v_5]]) rfl rv_tmp [0] (by decide) rfl ⟨rfl, rfl, rfl⟩
def cert_Circle_v3_post (σ0 : FS) (v_1 : Value) (cycle_2 : Sl Int) (v_4 : Value) (facts_5 : Sl Gdiff_Leq) (r : Bool) (σ : FS) (PV : List Priv) (v : Value) : Prop :=
  σ0 = σ ∧ .bool r = v ∧ PV = []
set_option maxRecDepth 100000 in
theorem cert_Circle_v3_ref (s : Start) (σ : FS) (v_1 : Value) (cycle_2 : Sl Int) (h_3 : (tSl (tInt .i64)).vrel σ v_1 cycle_2) (v_4 : Value) (facts_5 : Sl Gdiff_Leq) (h_6 : (tSl t_Gdiff_Leq).vrel σ v_4 facts_5) (hs : Pre s σ []) (r : Bool) (hr : cert_Circle_v3 cycle_2 facts_5 = some r) : Does Try.prog 10 [v_1, v_4] s σ (cert_Circle_v3_post σ v_1 cycle_2 v_4 facts_5 r) := by
  unfold cert_Circle_v3 at hr
  refine does_of_J Try.func10 rfl (n := 68) rfl rfl hs hr ?_
  refine J_seq ?_
  refine J_region ?_
  refine JL_op rfl (op_box (cs := [v_4]) rfl (sl_cells h_6) ?_)
  intro c_7
  refine JL_op rfl (op_read rfl rfl (r_assign (v := .bool false) rfl) ?_)
  refine JL_nil ?_
  refine J_then ?_
  refine J_seq ?_
  refine J_seq ?_
  refine J_region ?_
  refine JL_op rfl (op_read rfl rfl (r_move (v := v_1) rfl) ?_)
  refine JL_op rfl (op_read rfl rfl (r_len_frozen (v := v_1) Try.pu22 rfl h_3) ?_)
  refine JL_op rfl (op_read rfl rfl (r_eql rfl rfl) ?_)
  refine JL_op rfl (op_read rfl rfl (r_move (v := .bool (decide (cycle_2.len = 0))) rfl) ?_)
  refine J_forkL (e := (decide (cycle_2.len = 0))) 4 [(0, v_1), (3, .pointer (some (Addr.add c_7 0))), (16, .bool (decide (cycle_2.len = 0) || decide (65536 < cycle_2.len)))] (fun hc_9 hk => ?_) (fun hc_9 hk => ?_) (fun b => ?_)
  · refine JL_skip rfl rfl hc_9 rfl rfl ?_
    refine JL_skip rfl rfl hc_9 rfl rfl ?_
    refine JL_skip rfl rfl hc_9 rfl rfl ?_
    refine JL_op rfl (op_read rfl rfl (r_pick_t (v := .bool true) rfl hc_9 rfl) ?_)
    refine J_prune [(0, v_1), (3, .pointer (some (Addr.add c_7 0))), (16, .bool (decide (cycle_2.len = 0) || decide (65536 < cycle_2.len)))] ⟨rfl, rfl, (by show Value.bool _ = Value.bool _; rw [hc_9]; rfl), trivial⟩ hk
  · refine JL_opg rfl rfl hc_9 (op_read rfl rfl (r_move (v := v_1) rfl) ?_)
    refine JL_opg rfl rfl hc_9 (op_read rfl rfl (r_len_frozen (v := v_1) Try.pu22 rfl h_3) ?_)
    refine JL_opg rfl rfl hc_9 (op_read rfl rfl (r_gtr rfl rfl) ?_)
    refine JL_op rfl (op_read rfl rfl (r_pick_f (v := .bool (decide (65536 < cycle_2.len))) rfl hc_9 rfl) ?_)
    refine J_prune [(0, v_1), (3, .pointer (some (Addr.add c_7 0))), (16, .bool (decide (cycle_2.len = 0) || decide (65536 < cycle_2.len)))] ⟨rfl, rfl, (by show Value.bool _ = Value.bool _; rw [hc_9]; rfl), trivial⟩ hk
  · refine JL_op rfl (op_read rfl rfl (r_move (v := .bool (decide (cycle_2.len = 0) || decide (65536 < cycle_2.len))) rfl) ?_)
    refine J_forkLB (e := (decide (cycle_2.len = 0) || decide (65536 < cycle_2.len))) 4 (fun (y : Bool) L τ PV => σ = τ ∧ L = [(0, v_1), (3, .pointer (some (Addr.add c_7 0))), (21, .bool y)] ∧ PV = [.cell c_7 [v_4]]) (fun hc_10 hk => ?_) (fun hc_10 hk => ?_) ?_
    · refine JL_skip rfl rfl hc_10 rfl rfl ?_
      refine JL_skip rfl rfl hc_10 rfl rfl ?_
      refine JL_skip rfl rfl hc_10 rfl rfl ?_
      refine JL_op rfl (op_read rfl rfl (r_pick_t (v := .bool true) rfl hc_10 rfl) ?_)
      refine J_prune _ ?_ fun b => hk true _ b _ _ ⟨rfl, rfl, rfl⟩
      exact ⟨rfl, rfl, rfl, trivial⟩
    · refine JL_opg rfl rfl hc_10 (op_read rfl rfl (r_move (v := v_1) rfl) ?_)
      refine JL_opg rfl rfl hc_10 (op_read rfl rfl (r_makeFunc (fs := []) (cs := [.pointer (some (Addr.add c_7 0))]) rfl rfl) ?_)
      refine J_assoc ?_
      refine JL_opg rfl rfl hc_10 (op_call (f := 19) (fn := Try.f19) (args := [v_1, .func (.func 20) #[] #[.pointer (some (Addr.add c_7 0))]]) (post := slices_ContainsFunc_v6_post σ v_1 cycle_2 c_7 v_4 facts_5) [.cell c_7 [v_4]] [] rfl rfl rfl Try.func19 Try.pn19 rfl rfl (fun y st hy hpre => slices_ContainsFunc_v6_ref st σ v_1 cycle_2 h_3 c_7 v_4 facts_5 h_6 hpre y hy) ?_)
      intro r_12 v_14 s_17 PV_15 hr_13 hle_18 hp_16
      obtain ⟨rfl, rfl, rfl⟩ := hp_16
      refine JL_op rfl (op_read rfl rfl (r_pick_f (v := .bool r_12) rfl hc_10 rfl) ?_)
      refine J_prune _ ?_ fun b => hk r_12 _ b _ _ ⟨rfl, rfl, rfl⟩
      exact ⟨rfl, rfl, rfl, trivial⟩
    · rintro y_11 _ b s_21 _ ⟨rfl, rfl, rfl⟩
      refine JL_nil ?_
      refine J_then ?_
      refine J_cond rfl (fun hc_22 => ?_) (fun hc_22 => ?_)
      · refine J_seq ?_
        refine J_region ?_
        refine JL_op rfl (op_read rfl rfl (r_assign (v := .bool false) rfl) ?_)
        refine JL_nil ?_
        refine J_then ?_
        refine J_ret ?_
        refine J_then_ret ?_
        exact J_returnV1 (PV' := []) rfl rv_tmp [] (by decide) rfl ⟨rfl, rfl, rfl⟩
      · refine J_skip ?_
        refine J_then ?_
        refine J_seq ?_
        refine J_region ?_
        refine JL_op rfl (op_read rfl rfl (r_assign (v := .int .i64 0) rfl) ?_)
        refine JL_nil ?_
        refine J_then ?_
        refine J_seq ?_
        refine J_region_any 8 [.cell c_7 [v_4]] Try.mixed (by kernel_rfl) fun hns => ?_
        have hS_23 : HeldOK σ [.cell c_7 [v_4]] σ [.cell c_7 [v_4]] := HeldOK.same [0] (by decide) rfl
        refine JA_take 0 rfl hns (by kernel_rfl) (by kernel_rfl) (by kernel_rfl) rfl (by kernel_rfl) hS_23 rfl rfl rfl (r_load_priv (a := c_7) (off := 0) (cs' := [v_4]) (v := v_4) 0 Try.pu23 Try.pi23 rfl rfl rfl rfl (by decide) rfl) ?_
        refine JA_takep 1 rfl hns (by kernel_rfl) (by kernel_rfl) rfl (.inr hS_23) rfl rfl rfl (r_move (v := v_1) rfl) ?_
        refine J_bind fun x_24 hx_25 => ?_
        refine JA_takep 2 rfl hns (by kernel_rfl) (by kernel_rfl) rfl (.inr hS_23) rfl rfl rfl (r_index_frozen (v := v_1) (T := (tInt .i64)) (q := x_24) Try.pu22 Try.pi3 rfl rfl rfl h_3 hx_25) ?_
        refine JA_takes 3 rfl hns (by kernel_rfl) (by kernel_rfl) (by kernel_rfl) rfl (by kernel_rfl) hS_23 rfl rfl rfl (l_elem_frozen (v := v_1) (T := (tInt .i64)) (Tf := (tInt .i64)) (q := x_24) (i := 0) (off := 0) Try.pu3 Try.pi3 rfl rfl rfl h_3 hx_25 (FieldAt.self _) (by decide)) ?_
        intro v_26 h_27
        obtain rfl := tInt_v.1 h_27
        refine J_bind fun x_28 hx_29 => ?_
        refine JA_takep 4 rfl hns (by kernel_rfl) (by kernel_rfl) rfl (.inr hS_23) rfl rfl rfl (r_index_frozen (v := v_4) (T := t_Gdiff_Leq) (q := x_28) Try.pu23 Try.pi37 rfl rfl rfl h_6 hx_29) ?_
        refine JA_takep 5 rfl hns (by kernel_rfl) (by kernel_rfl) rfl (.inr hS_23) rfl rfl rfl (r_fieldAddr (r := elemAddr v_4 ((x_24).toNat * (t_Gdiff_Leq).size + 0)) Try.pu37 (f := Try.pf37.getD 0 default) rfl Try.pi3 (by decide) rfl (elemAddr_add _ _ _)) ?_
        refine JA_takes 6 rfl hns (by kernel_rfl) (by kernel_rfl) (by kernel_rfl) rfl (by kernel_rfl) hS_23 rfl rfl rfl (l_elem_frozen (v := v_4) (T := t_Gdiff_Leq) (Tf := (tInt .i64)) (q := x_28) (i := x_24) (off := 0) Try.pu3 Try.pi3 rfl rfl rfl h_6 hx_29 f_Gdiff_Leq_X (by decide)) ?_
        intro v_30 h_31
        obtain rfl := tInt_v.1 h_31
        refine JA_takep 7 rfl hns (by kernel_rfl) (by kernel_rfl) rfl (.inr hS_23) rfl rfl rfl (r_assign (v := .int .i64 x_28.X) rfl) ?_
        refine JA_done (by kernel_rfl) ?_
        refine J_then ?_
        refine J_seq ?_
        refine J_seq ?_
        refine J_region ?_
        refine JL_op rfl (op_read rfl rfl (r_move (v := v_1) rfl) ?_)
        refine JL_op rfl (op_read rfl rfl (r_len_frozen (v := v_1) Try.pu22 rfl h_3) ?_)
        refine JL_op rfl (op_read rfl rfl (r_move (v := .int .i64 0) rfl) ?_)
        refine JL_nil ?_
        refine J_then ?_
        refine J_block ?_
        refine J_loop (fun (y : Int × Int × Int) L τ PV => σ = τ ∧ L = [(0, v_1), (3, .pointer (some (Addr.add c_7 0))), (5, .int .i64 y.1), (6, .int .i64 y.2.1), (29, v_1), (30, .int .i64 cycle_2.len), (31, .int .i64 y.2.2)] ∧ PV = [.cell c_7 [v_4]]) (fun (y : W2 (Int × Int) Unit) e L τ PV => match y, e with | .a y, e => e = .exit 0 ∧ (σ = τ ∧ L = [(0, v_1), (3, .pointer (some (Addr.add c_7 0))), (5, .int .i64 y.1), (6, .int .i64 y.2)] ∧ PV = [.cell c_7 [v_4]]) | .b y, e => e = .ret ∧ (σ = τ ∧ L = [(4, .bool false)] ∧ PV = [])) _ ?_ ⟨rfl, rfl, rfl⟩ ?_ ?_
        · exact ⟨rfl, rfl, rfl, rfl, rfl, rfl, rfl, trivial⟩
        · rintro x_32 _ b s_35 _ ⟨rfl, rfl, rfl⟩
          unfold cert_Circle_v3_L1
          refine J_seq ?_
          refine J_region ?_
          refine JL_op rfl (op_read rfl rfl (r_lss rfl rfl) ?_)
          refine JL_nil ?_
          refine J_then ?_
          refine J_seq ?_
          refine J_cond rfl (fun hc_36 => ?_) (fun hc_36 => ?_)
          · refine J_skip ?_
            refine J_then ?_
            refine J_seq ?_
            refine J_block ?_
            refine J_seq ?_
            refine J_region ?_
            refine J_bind fun x_37 hx_38 => ?_
            refine JL_op rfl (op_read rfl rfl (r_index_frozen (v := v_1) (T := (tInt .i64)) (q := x_37) Try.pu22 Try.pi3 rfl rfl rfl h_3 hx_38) ?_)
            refine JL_op rfl (op_reads rfl rfl (l_elem_frozen (v := v_1) (T := (tInt .i64)) (Tf := (tInt .i64)) (q := x_37) (i := x_32.2.2) (off := 0) Try.pu3 Try.pi3 rfl rfl rfl h_3 hx_38 (FieldAt.self _) (by decide)) ?_)
            intro v_39 h_40
            obtain rfl := tInt_v.1 h_40
            refine JL_op rfl (op_read rfl rfl (r_assign (v := .int .i64 x_37) rfl) ?_)
            refine JL_nil ?_
            refine J_then ?_
            refine J_seq ?_
            refine J_seq ?_
            refine J_region ?_
            refine JL_op rfl (op_read rfl rfl (r_load_priv (a := c_7) (off := 0) (cs' := [v_4]) (v := v_4) 0 Try.pu23 Try.pi23 rfl rfl rfl rfl (by decide) rfl) ?_)
            refine JL_op rfl (op_read rfl rfl (r_move (v := .int .i64 x_37) rfl) ?_)
            refine J_bind fun x_41 hx_42 => ?_
            refine JL_op rfl (op_read rfl rfl (r_index_frozen (v := v_4) (T := t_Gdiff_Leq) (q := x_41) Try.pu23 Try.pi37 rfl rfl rfl h_6 hx_42) ?_)
            refine JL_op rfl (op_read rfl rfl (r_fieldAddr (r := elemAddr v_4 ((x_37).toNat * (t_Gdiff_Leq).size + 0)) Try.pu37 (f := Try.pf37.getD 0 default) rfl Try.pi3 (by decide) rfl (elemAddr_add _ _ _)) ?_)
            refine JL_op rfl (op_reads rfl rfl (l_elem_frozen (v := v_4) (T := t_Gdiff_Leq) (Tf := (tInt .i64)) (q := x_41) (i := x_37) (off := 0) Try.pu3 Try.pi3 rfl rfl rfl h_6 hx_42 f_Gdiff_Leq_X (by decide)) ?_)
            intro v_43 h_44
            obtain rfl := tInt_v.1 h_44
            refine JL_op rfl (op_read rfl rfl (r_move (v := .int .i64 x_32.2.1) rfl) ?_)
            refine JL_op rfl (op_read rfl rfl (r_neq rfl rfl) ?_)
            refine JL_nil ?_
            refine J_then ?_
            refine J_cond rfl (fun hc_45 => ?_) (fun hc_45 => ?_)
            · refine J_seq ?_
              refine J_region ?_
              refine JL_op rfl (op_read rfl rfl (r_assign (v := .bool false) rfl) ?_)
              refine JL_nil ?_
              refine J_then ?_
              refine J_ret ?_
              refine J_then_ret ?_
              refine J_in_ret ?_
              refine J_then_ret ?_
              refine J_select (PV' := []) [] (by decide) rfl ?_
              refine J_done trivial _ ?_ ⟨rfl, rfl, rfl, rfl⟩
              exact ⟨rfl, trivial⟩
            · refine J_skip ?_
              refine J_then ?_
              refine J_seq ?_
              refine J_region ?_
              refine JL_op rfl (op_read rfl rfl (r_load_priv (a := c_7) (off := 0) (cs' := [v_4]) (v := v_4) 0 Try.pu23 Try.pi23 rfl rfl rfl rfl (by decide) rfl) ?_)
              refine JL_op rfl (op_read rfl rfl (r_move (v := .int .i64 x_37) rfl) ?_)
              refine JL_op rfl (op_read rfl rfl (r_index_frozen (v := v_4) (T := t_Gdiff_Leq) (q := x_41) Try.pu23 Try.pi37 rfl rfl rfl h_6 hx_42) ?_)
              refine JL_op rfl (op_read rfl rfl (r_fieldAddr (r := elemAddr v_4 ((x_37).toNat * (t_Gdiff_Leq).size + 1)) Try.pu37 (f := Try.pf37.getD 1 default) rfl Try.pi3 (by decide) rfl (elemAddr_add _ _ _)) ?_)
              refine JL_op rfl (op_reads rfl rfl (l_elem_frozen (v := v_4) (T := t_Gdiff_Leq) (Tf := (tInt .i64)) (q := x_41) (i := x_37) (off := 1) Try.pu3 Try.pi3 rfl rfl rfl h_6 hx_42 f_Gdiff_Leq_Y (by decide)) ?_)
              intro v_46 h_47
              obtain rfl := tInt_v.1 h_47
              refine JL_op rfl (op_read rfl rfl (r_assign (v := .int .i64 x_41.Y) rfl) ?_)
              refine JL_nil ?_
              refine J_then ?_
              refine J_region ?_
              refine JL_op rfl (op_read rfl rfl (r_move (v := .int .i64 x_32.1) rfl) ?_)
              refine JL_op rfl (op_read rfl rfl (r_load_priv (a := c_7) (off := 0) (cs' := [v_4]) (v := v_4) 0 Try.pu23 Try.pi23 rfl rfl rfl rfl (by decide) rfl) ?_)
              refine JL_op rfl (op_read rfl rfl (r_move (v := .int .i64 x_37) rfl) ?_)
              refine JL_op rfl (op_read rfl rfl (r_index_frozen (v := v_4) (T := t_Gdiff_Leq) (q := x_41) Try.pu23 Try.pi37 rfl rfl rfl h_6 hx_42) ?_)
              refine JL_op rfl (op_read rfl rfl (r_fieldAddr (r := elemAddr v_4 ((x_37).toNat * (t_Gdiff_Leq).size + 2)) Try.pu37 (f := Try.pf37.getD 2 default) rfl Try.pi2 (by decide) rfl (elemAddr_add _ _ _)) ?_)
              refine JL_op rfl (op_reads rfl rfl (l_elem_frozen (v := v_4) (T := t_Gdiff_Leq) (Tf := (tInt .i64)) (q := x_41) (i := x_37) (off := 2) Try.pu2 Try.pi2 rfl rfl rfl h_6 hx_42 f_Gdiff_Leq_C (by decide)) ?_)
              intro v_48 h_49
              obtain rfl := tInt_v.1 h_49
              refine JL_op rfl (op_read rfl rfl (r_add rfl rfl) ?_)
              refine JL_op rfl (op_read rfl rfl (r_assign (v := .int .i64 (IntKind.i64.wrap (x_32.1 + x_41.C))) rfl) ?_)
              refine JL_nil ?_
              refine J_in_normal ?_
              refine J_then ?_
              refine J_region ?_
              refine JL_op rfl (op_read rfl rfl (r_add rfl rfl) ?_)
              refine JL_op rfl (op_read rfl rfl (r_move (v := .int .i64 (IntKind.i64.wrap (x_32.2.2 + 1))) rfl) ?_)
              refine JL_nil ?_
              refine J_next _ ?_ ⟨rfl, rfl, rfl⟩
              exact ⟨rfl, rfl, rfl, rfl, rfl, rfl, rfl, trivial⟩
          · refine J_exit ?_
            refine J_then_exit ?_
            refine J_done trivial _ ?_ ⟨rfl, rfl, rfl, rfl⟩
            exact ⟨rfl, rfl, rfl, rfl, trivial⟩
        · rintro (y_51 | y_61) e L b τ PV ht
          · obtain ⟨rfl, ht⟩ := ht
            revert ht; revert PV; revert τ; revert b; revert L
            rintro _ b s_54 _ ⟨rfl, rfl, rfl⟩
            refine J_in_exit ?_
            refine J_then ?_
            refine J_seq ?_
            refine J_region_any 14 [.cell c_7 [v_4]] Try.mixed (by kernel_rfl) fun hns => ?_
            have hS_55 : HeldOK σ [.cell c_7 [v_4]] σ [.cell c_7 [v_4]] := HeldOK.same [0] (by decide) rfl
            refine JA_takep 0 rfl hns (by kernel_rfl) (by kernel_rfl) rfl (.inr hS_55) rfl rfl rfl (r_move (v := .int .i64 y_51.2) rfl) ?_
            refine JA_take 1 rfl hns (by kernel_rfl) (by kernel_rfl) (by kernel_rfl) rfl (by kernel_rfl) hS_55 rfl rfl rfl (r_load_priv (a := c_7) (off := 0) (cs' := [v_4]) (v := v_4) 0 Try.pu23 Try.pi23 rfl rfl rfl rfl (by decide) rfl) ?_
            refine JA_takep 2 rfl hns (by kernel_rfl) (by kernel_rfl) rfl (.inr hS_55) rfl rfl rfl (r_move (v := v_1) rfl) ?_
            refine JA_takep 3 rfl hns (by kernel_rfl) (by kernel_rfl) rfl (.inr hS_55) rfl rfl rfl (r_index_frozen (v := v_1) (T := (tInt .i64)) (q := x_24) Try.pu22 Try.pi3 rfl rfl rfl h_3 hx_25) ?_
            refine JA_takes 4 rfl hns (by kernel_rfl) (by kernel_rfl) (by kernel_rfl) rfl (by kernel_rfl) hS_55 rfl rfl rfl (l_elem_frozen (v := v_1) (T := (tInt .i64)) (Tf := (tInt .i64)) (q := x_24) (i := 0) (off := 0) Try.pu3 Try.pi3 rfl rfl rfl h_3 hx_25 (FieldAt.self _) (by decide)) ?_
            intro v_56 h_57
            obtain rfl := tInt_v.1 h_57
            refine JA_takep 5 rfl hns (by kernel_rfl) (by kernel_rfl) rfl (.inr hS_55) rfl rfl rfl (r_index_frozen (v := v_4) (T := t_Gdiff_Leq) (q := x_28) Try.pu23 Try.pi37 rfl rfl rfl h_6 hx_29) ?_
            refine JA_takep 6 rfl hns (by kernel_rfl) (by kernel_rfl) rfl (.inr hS_55) rfl rfl rfl (r_fieldAddr (r := elemAddr v_4 ((x_24).toNat * (t_Gdiff_Leq).size + 0)) Try.pu37 (f := Try.pf37.getD 0 default) rfl Try.pi3 (by decide) rfl (elemAddr_add _ _ _)) ?_
            refine JA_takes 7 rfl hns (by kernel_rfl) (by kernel_rfl) (by kernel_rfl) rfl (by kernel_rfl) hS_55 rfl rfl rfl (l_elem_frozen (v := v_4) (T := t_Gdiff_Leq) (Tf := (tInt .i64)) (q := x_28) (i := x_24) (off := 0) Try.pu3 Try.pi3 rfl rfl rfl h_6 hx_29 f_Gdiff_Leq_X (by decide)) ?_
            intro v_58 h_59
            obtain rfl := tInt_v.1 h_59
            refine JA_takep 8 rfl hns (by kernel_rfl) (by kernel_rfl) rfl (.inr hS_55) rfl rfl rfl (r_eql rfl rfl) ?_
            refine JA_takep 9 rfl hns (by kernel_rfl) (by kernel_rfl) rfl (.inr hS_55) rfl rfl rfl (r_move (v := .bool (decide (y_51.2 = x_28.X))) rfl) ?_
            refine J_forkA (e := (decide (y_51.2 = x_28.X))) 1 #[true, true, true, true, true, true, true, true, true, true, true, true, true, false] [(67, .bool (decide (y_51.2 = x_28.X) && decide (y_51.1 < 0)))] (fun hc_60 hk => ?_) (fun hc_60 hk => ?_) (fun b => ?_)
            · refine JA_takepg 10 rfl hns (by kernel_rfl) (by kernel_rfl) rfl (.inr hS_55) rfl rfl hc_60 rfl rfl (r_move (v := .int .i64 y_51.1) rfl) ?_
              refine JA_takepg 11 rfl hns (by kernel_rfl) (by kernel_rfl) rfl (.inr hS_55) rfl rfl hc_60 rfl rfl (r_lss rfl rfl) ?_
              refine JA_takep 12 rfl hns (by kernel_rfl) (by kernel_rfl) rfl (.inr hS_55) rfl rfl rfl (r_pick_t (v := .bool (decide (y_51.1 < 0))) rfl hc_60 rfl) ?_
              refine J_prune [(67, .bool (decide (y_51.2 = x_28.X) && decide (y_51.1 < 0)))] ⟨(by show Value.bool _ = Value.bool _; rw [hc_60]; rfl), trivial⟩ hk
            · refine JA_skip (y := some (decide (y_51.2 = x_28.X))) 10 rfl hns (by kernel_rfl) (by kernel_rfl) rfl (.inr hS_55) rfl rfl (by rw [hc_60]; decide) rfl rfl ?_
              refine JA_skip (y := some (decide (y_51.2 = x_28.X))) 11 rfl hns (by kernel_rfl) (by kernel_rfl) rfl (.inr hS_55) rfl rfl (by rw [hc_60]; decide) rfl rfl ?_
              refine JA_takep 12 rfl hns (by kernel_rfl) (by kernel_rfl) rfl (.inr hS_55) rfl rfl rfl (r_pick_f (v := .bool false) rfl hc_60 rfl) ?_
              refine J_prune [(67, .bool (decide (y_51.2 = x_28.X) && decide (y_51.1 < 0)))] ⟨(by show Value.bool _ = Value.bool _; rw [hc_60]; rfl), trivial⟩ hk
            · refine JA_takep 13 rfl hns (by kernel_rfl) (by kernel_rfl) rfl (.inr hS_55) rfl rfl rfl (r_assign (v := .bool (decide (y_51.2 = x_28.X) && decide (y_51.1 < 0))) rfl) ?_
              refine JA_done (by kernel_rfl) ?_
              refine J_then ?_
              refine J_ret ?_
              exact J_returnV1 (PV' := []) rfl rv_tmp [] (by decide) rfl ⟨rfl, rfl, rfl⟩
          · obtain ⟨rfl, ht⟩ := ht
            revert ht; revert PV; revert τ; revert b; revert L
            rintro _ b s_64 _ ⟨rfl, rfl, rfl⟩
            refine J_in_ret ?_
            refine J_then_ret ?_
            exact J_returnV1 (PV' := []) rfl rv_tmp [] (by decide) rfl ⟨rfl, rfl, rfl⟩
def lychgatelaw05_CertTurned_post (σ0 : FS) (v_1 : Value) (steps_2 : Sl Int) (by_4 : Int) (r : Bool) (σ : FS) (PV : List Priv) (v : Value) : Prop :=
  σ0 = σ ∧ .bool r = v ∧ PV = []
set_option maxRecDepth 100000 in
theorem lychgatelaw05_CertTurned_ref (s : Start) (σ : FS) (v_1 : Value) (steps_2 : Sl Int) (h_3 : (tSl (tInt .i64)).vrel σ v_1 steps_2) (by_4 : Int) (hs : Pre s σ []) (r : Bool) (hr : lychgatelaw05_CertTurned steps_2 by_4 = some r) : Does Try.prog 6 [v_1, .int .i64 by_4] s σ (lychgatelaw05_CertTurned_post σ v_1 steps_2 by_4 r) := by
  unfold lychgatelaw05_CertTurned at hr
  refine does_of_J Try.func6 rfl (n := 83) rfl rfl hs hr ?_
  refine J_seq ?_
  refine J_region ?_
  refine JL_op rfl (op_read rfl rfl (r_assign (v := .bool false) rfl) ?_)
  refine JL_nil ?_
  refine J_then ?_
  refine J_seq ?_
  refine J_seq ?_
  refine J_region ?_
  refine JL_op rfl (op_call (f := 9) (fn := Try.f9) (args := []) (post := lychgatelaw05_wakes_post σ) [] [] rfl rfl rfl Try.func9 Try.pn9 rfl rfl (fun y st hy hpre => lychgatelaw05_wakes_ref st σ  hpre y hy) ?_)
  intro r_5 v_7 s_10 PV_8 hr_6 hle_11 hp_9
  obtain ⟨rfl, rfl, rfl⟩ := hp_9
  refine JL_op rfl (op_read rfl rfl (r_not rfl) ?_)
  refine JL_nil ?_
  refine J_then ?_
  refine J_cond rfl (fun hc_12 => ?_) (fun hc_12 => ?_)
  · refine J_seq ?_
    refine J_region ?_
    refine JL_op rfl (op_read rfl rfl (r_assign (v := .bool false) rfl) ?_)
    refine JL_nil ?_
    refine J_then ?_
    refine J_ret ?_
    refine J_then_ret ?_
    exact J_returnV1 (PV' := []) rfl rv_tmp [] (by decide) rfl ⟨rfl, rfl, rfl⟩
  · refine J_skip ?_
    refine J_then ?_
    refine J_seq ?_
    refine J_region ?_
    refine JL_op rfl (op_read rfl rfl (r_move (v := v_1) rfl) ?_)
    refine JL_op rfl (op_read rfl rfl (r_len_frozen (v := v_1) Try.pu30 rfl h_3) ?_)
    refine JL_op rfl (op_read rfl rfl (r_min rfl rfl) ?_)
    refine JL_op rfl (op_read rfl rfl (r_assign (v := .int .i64 (if 50 < steps_2.len then 50 else steps_2.len)) rfl) ?_)
    refine JL_nil ?_
    refine J_then ?_
    refine J_seq ?_
    refine J_seq ?_
    refine J_region ?_
    refine JL_op rfl (op_read rfl rfl (r_move (v := .int .i64 (if 50 < steps_2.len then 50 else steps_2.len)) rfl) ?_)
    refine JL_op rfl (op_read rfl rfl (r_lss rfl rfl) ?_)
    refine JL_nil ?_
    refine J_then ?_
    refine J_cond rfl (fun hc_13 => ?_) (fun hc_13 => ?_)
    · refine J_seq ?_
      refine J_region ?_
      refine JL_op rfl (op_read rfl rfl (r_assign (v := .bool true) rfl) ?_)
      refine JL_nil ?_
      refine J_then ?_
      refine J_ret ?_
      refine J_then_ret ?_
      exact J_returnV1 (PV' := []) rfl rv_tmp [] (by decide) rfl ⟨rfl, rfl, rfl⟩
    · refine J_skip ?_
      refine J_then ?_
      refine J_seq ?_
      refine J_region ?_
      refine JL_op rfl (op_read rfl rfl (r_assign (v := .slice none 0 0) rfl) ?_)
      refine JL_nil ?_
      refine J_then ?_
      refine J_seq ?_
      refine J_region ?_
      refine JL_op rfl (op_read rfl rfl (r_assign (v := .slice none 0 0) rfl) ?_)
      refine JL_nil ?_
      refine J_then ?_
      refine J_seq ?_
      refine J_region ?_
      refine JL_op rfl (op_read rfl rfl (r_assign (v := .int .i64 0) rfl) ?_)
      refine JL_nil ?_
      refine J_then ?_
      refine J_seq ?_
      refine J_seq ?_
      refine J_region ?_
      refine JL_op rfl (op_read rfl rfl (r_move (v := .int .i64 (if 50 < steps_2.len then 50 else steps_2.len)) rfl) ?_)
      refine JL_op rfl (op_read rfl rfl (r_move (v := .int .i64 0) rfl) ?_)
      refine JL_nil ?_
      refine J_then ?_
      refine J_block ?_
      refine J_nil_row (t_Gdiff_Leq).o 37 ?_
      refine J_loop (fun (y : (Sl Gdiff_Leq) × Int × Int) L τ PV => ∃ (w0 : Value), σ = τ ∧ L = [(0, v_1), (1, .int .i64 by_4), (5, .int .i64 (if 50 < steps_2.len then 50 else steps_2.len)), (6, w0), (7, .slice none 0 0), (8, .int .i64 y.2.1), (19, .int .i64 (if 50 < steps_2.len then 50 else steps_2.len)), (20, .int .i64 y.2.2)] ∧ PV = [.row (t_Gdiff_Leq).o 37 w0 y.1]) (fun (y : (Sl Gdiff_Leq) × Int) e L τ PV => e = .exit 0 ∧ (∃ (w0 : Value), σ = τ ∧ L = [(1, .int .i64 by_4), (5, .int .i64 (if 50 < steps_2.len then 50 else steps_2.len)), (6, w0), (7, .slice none 0 0), (8, .int .i64 y.2)] ∧ PV = [.row (t_Gdiff_Leq).o 37 w0 y.1])) _ ?_ ⟨(.slice none 0 0), rfl, rfl, rfl⟩ ?_ ?_
      · exact ⟨rfl, rfl, rfl, rfl, rfl, rfl, rfl, rfl, trivial⟩
      · rintro x_15 _ b s_20 _ ⟨v_19, rfl, rfl, rfl⟩
        unfold lychgatelaw05_CertTurned_L1
        refine J_seq ?_
        refine J_region ?_
        refine JL_op rfl (op_read rfl rfl (r_lss rfl rfl) ?_)
        refine JL_nil ?_
        refine J_then ?_
        refine J_seq ?_
        refine J_cond rfl (fun hc_21 => ?_) (fun hc_21 => ?_)
        · refine J_skip ?_
          refine J_then ?_
          refine J_seq ?_
          refine J_block ?_
          refine J_seq ?_
          refine J_region ?_
          refine JL_op rfl (op_read rfl rfl (r_move (v := .int .i64 x_15.2.2) rfl) ?_)
          refine JL_op rfl (op_read rfl rfl (r_assign (v := .int .i64 x_15.2.2) rfl) ?_)
          refine JL_nil ?_
          refine J_then ?_
          refine J_seq ?_
          refine J_region ?_
          refine JL_op rfl (op_read rfl rfl (r_move (v := v_1) rfl) ?_)
          refine JL_op rfl (op_read rfl rfl (r_move (v := .int .i64 x_15.2.2) rfl) ?_)
          refine J_bind fun x_22 hx_23 => ?_
          refine JL_op rfl (op_read rfl rfl (r_index_frozen (v := v_1) (T := (tInt .i64)) (q := x_22) Try.pu30 Try.pi2 rfl rfl rfl h_3 hx_23) ?_)
          refine JL_op rfl (op_reads rfl rfl (l_elem_frozen (v := v_1) (T := (tInt .i64)) (Tf := (tInt .i64)) (q := x_22) (i := x_15.2.2) (off := 0) Try.pu2 Try.pi2 rfl rfl rfl h_3 hx_23 (FieldAt.self _) (by decide)) ?_)
          intro v_24 h_25
          obtain rfl := tInt_v.1 h_25
          refine JL_op rfl (op_read rfl rfl (r_min rfl rfl) ?_)
          refine JL_op rfl (op_read rfl rfl (r_max rfl rfl) ?_)
          refine JL_op rfl (op_read rfl rfl (r_assign (v := .int .i64 (if (-1099511627776) < (if 1099511627776 < x_22 then 1099511627776 else x_22) then (if 1099511627776 < x_22 then 1099511627776 else x_22) else (-1099511627776))) rfl) ?_)
          refine JL_nil ?_
          refine J_then ?_
          refine J_seq ?_
          refine J_region ?_
          refine JL_op rfl (op_read rfl rfl (r_move (v := v_19) rfl) ?_)
          refine JL_op rfl (op_read rfl rfl (r_move (v := .int .i64 x_15.2.2) rfl) ?_)
          refine JL_op rfl (op_read rfl rfl (r_move (v := .int .i64 x_15.2.2) rfl) ?_)
          refine JL_op rfl (op_read rfl rfl (r_add rfl rfl) ?_)
          refine JL_op rfl (op_read rfl rfl (r_move (v := .int .i64 (if 50 < steps_2.len then 50 else steps_2.len)) rfl) ?_)
          refine J_bind fun q_26 hq_27 => ?_
          refine JL_op rfl (op_read rfl rfl (r_rem rfl rfl hq_27) ?_)
          refine JL_op rfl (op_read rfl rfl (r_move (v := .int .i64 (if (-1099511627776) < (if 1099511627776 < x_22 then 1099511627776 else x_22) then (if 1099511627776 < x_22 then 1099511627776 else x_22) else (-1099511627776))) rfl) ?_)
          refine JL_op rfl (op_read rfl rfl (r_build (cs := [.int .i64 x_15.2.2, .int .i64 q_26, .int .i64 (if (-1099511627776) < (if 1099511627776 < x_22 then 1099511627776 else x_22) then (if 1099511627776 < x_22 then 1099511627776 else x_22) else (-1099511627776))]) (vs := [(0, .int .i64 x_15.2.2), (1, .int .i64 q_26), (2, .int .i64 (if (-1099511627776) < (if 1099511627776 < x_22 then 1099511627776 else x_22) then (if 1099511627776 < x_22 then 1099511627776 else x_22) else (-1099511627776)))]) (pcs := [(0, [.int .i64 x_15.2.2]), (1, [.int .i64 q_26]), (2, [.int .i64 (if (-1099511627776) < (if 1099511627776 < x_22 then 1099511627776 else x_22) then (if 1099511627776 < x_22 then 1099511627776 else x_22) else (-1099511627776))])]) (pls := [(0, 1), (1, 1), (2, 1)]) Try.pu37 Try.pi37 rfl (by kernel_rfl) rfl ⟨rfl, rfl, ⟨rfl, rfl, ⟨rfl, rfl, trivial⟩⟩⟩ rfl) ?_)
          refine JL_op rfl (op_buildSlice (T := (t_Gdiff_Leq).o) (vs := [.agg #[.int .i64 x_15.2.2, .int .i64 q_26, .int .i64 (if (-1099511627776) < (if 1099511627776 < x_22 then 1099511627776 else x_22) then (if 1099511627776 < x_22 then 1099511627776 else x_22) else (-1099511627776))]]) (xs := [(⟨x_15.2.2, q_26, (if (-1099511627776) < (if 1099511627776 < x_22 then 1099511627776 else x_22) then (if 1099511627776 < x_22 then 1099511627776 else x_22) else (-1099511627776))⟩ : Gdiff_Leq)]) [] [.row (t_Gdiff_Leq).o 37 v_19 x_15.1] rfl Try.pu23 Try.pi37 rfl rfl rfl rfl rfl rfl (relsO_cons (A := []) (B := []) (u := .agg #[.int .i64 x_15.2.2, .int .i64 q_26, .int .i64 (if (-1099511627776) < (if 1099511627776 < x_22 then 1099511627776 else x_22) then (if 1099511627776 < x_22 then 1099511627776 else x_22) else (-1099511627776))]) (x := (⟨x_15.2.2, q_26, (if (-1099511627776) < (if 1099511627776 < x_22 then 1099511627776 else x_22) then (if 1099511627776 < x_22 then 1099511627776 else x_22) else (-1099511627776))⟩ : Gdiff_Leq)) (fix_vrel (T := (t_Gdiff_Leq).o) rfl (t_Gdiff_Leq_v.2 rfl)) relsO_nil) ?_)
          intro v_28
          refine J_select (PV' := [.row (t_Gdiff_Leq).o 37 v_19 x_15.1, .row (t_Gdiff_Leq).o 37 v_28 (⟨[(⟨x_15.2.2, q_26, (if (-1099511627776) < (if 1099511627776 < x_22 then 1099511627776 else x_22) then (if 1099511627776 < x_22 then 1099511627776 else x_22) else (-1099511627776))⟩ : Gdiff_Leq)], true⟩ : Sl Gdiff_Leq)]) [1, 0] (by decide) rfl ?_
          refine JL_op rfl (op_append (v := v_19) (u := v_28) (T := (t_Gdiff_Leq).o) (ts := [(⟨x_15.2.2, q_26, (if (-1099511627776) < (if 1099511627776 < x_22 then 1099511627776 else x_22) then (if 1099511627776 < x_22 then 1099511627776 else x_22) else (-1099511627776))⟩ : Gdiff_Leq)]) [] [.row (t_Gdiff_Leq).o 37 v_28 (⟨[(⟨x_15.2.2, q_26, (if (-1099511627776) < (if 1099511627776 < x_22 then 1099511627776 else x_22) then (if 1099511627776 < x_22 then 1099511627776 else x_22) else (-1099511627776))⟩ : Gdiff_Leq)], true⟩ : Sl Gdiff_Leq)] rfl Try.pu23 Try.pi37 rfl rfl rfl rfl rfl rfl (source_copy (s := (⟨[(⟨x_15.2.2, q_26, (if (-1099511627776) < (if 1099511627776 < x_22 then 1099511627776 else x_22) then (if 1099511627776 < x_22 then 1099511627776 else x_22) else (-1099511627776))⟩ : Gdiff_Leq)], true⟩ : Sl Gdiff_Leq)) 1 rfl) ?_)
          intro s_31 v_30 hs_32
          refine JL_op rfl (op_read rfl rfl (r_assign (v := v_30) rfl) ?_)
          refine JL_nil ?_
          refine J_then ?_
          refine J_region ?_
          refine JL_op rfl (op_read rfl rfl (r_move (v := .int .i64 x_15.2.1) rfl) ?_)
          refine JL_op rfl (op_read rfl rfl (r_move (v := .int .i64 (if (-1099511627776) < (if 1099511627776 < x_22 then 1099511627776 else x_22) then (if 1099511627776 < x_22 then 1099511627776 else x_22) else (-1099511627776))) rfl) ?_)
          refine JL_op rfl (op_read rfl rfl (r_add rfl rfl) ?_)
          refine JL_op rfl (op_read rfl rfl (r_assign (v := .int .i64 (IntKind.i64.wrap (x_15.2.1 + (if (-1099511627776) < (if 1099511627776 < x_22 then 1099511627776 else x_22) then (if 1099511627776 < x_22 then 1099511627776 else x_22) else (-1099511627776))))) rfl) ?_)
          refine JL_nil ?_
          refine J_in_normal ?_
          refine J_then ?_
          refine J_region ?_
          refine JL_op rfl (op_read rfl rfl (r_add rfl rfl) ?_)
          refine JL_op rfl (op_read rfl rfl (r_move (v := .int .i64 (IntKind.i64.wrap (x_15.2.2 + 1))) rfl) ?_)
          refine JL_nil ?_
          refine J_select (PV' := [.row (t_Gdiff_Leq).o 37 v_30 s_31]) [0] (by decide) rfl ?_
          refine J_next _ ?_ ⟨v_30, rfl, rfl, rfl⟩
          exact ⟨rfl, rfl, rfl, rfl, rfl, rfl, rfl, rfl, trivial⟩
        · refine J_exit ?_
          refine J_then_exit ?_
          refine J_done trivial _ ?_ ⟨rfl, v_19, rfl, rfl, rfl⟩
          exact ⟨rfl, rfl, rfl, rfl, rfl, trivial⟩
      · rintro y_33 _ _ b s_38 _ ⟨rfl, ⟨v_37, rfl, rfl, rfl⟩⟩
        refine J_in_exit ?_
        refine J_then ?_
        refine J_seq ?_
        refine J_region ?_
        refine JL_op rfl (op_read rfl rfl (r_move (v := .int .i64 by_4) rfl) ?_)
        refine JL_op rfl (op_read rfl rfl (r_max rfl rfl) ?_)
        refine JL_op rfl (op_read rfl rfl (r_move (v := .int .i64 (if 50 < steps_2.len then 50 else steps_2.len)) rfl) ?_)
        refine J_bind fun q_39 hq_40 => ?_
        refine JL_op rfl (op_read rfl rfl (r_rem rfl rfl hq_40) ?_)
        refine JL_op rfl (op_read rfl rfl (r_assign (v := .int .i64 q_39) rfl) ?_)
        refine JL_nil ?_
        refine J_then ?_
        refine J_seq ?_
        refine J_seq ?_
        refine J_region ?_
        refine JL_op rfl (op_read rfl rfl (r_move (v := .int .i64 (if 50 < steps_2.len then 50 else steps_2.len)) rfl) ?_)
        refine JL_op rfl (op_read rfl rfl (r_move (v := .int .i64 0) rfl) ?_)
        refine JL_nil ?_
        refine J_then ?_
        refine J_block ?_
        refine J_nil_row ((tInt .i64)).o 3 ?_
        refine J_select (PV' := [.row (t_Gdiff_Leq).o 37 v_37 y_33.1, .row ((tInt .i64)).o 3 (.slice none 0 0) (⟨[], false⟩ : Sl Int)]) [1, 0] (by decide) rfl ?_
        refine J_loop (fun (y : (Sl Int) × Int) L τ PV => ∃ (w0 : Value), σ = τ ∧ L = [(1, .int .i64 q_39), (5, .int .i64 (if 50 < steps_2.len then 50 else steps_2.len)), (6, v_37), (7, w0), (8, .int .i64 y_33.2), (47, .int .i64 (if 50 < steps_2.len then 50 else steps_2.len)), (48, .int .i64 y.2)] ∧ PV = [.row (t_Gdiff_Leq).o 37 v_37 y_33.1, .row ((tInt .i64)).o 3 w0 y.1]) (fun (y : (Sl Int)) e L τ PV => e = .exit 2 ∧ (∃ (w0 : Value), σ = τ ∧ L = [(6, v_37), (7, w0), (8, .int .i64 y_33.2)] ∧ PV = [.row (t_Gdiff_Leq).o 37 v_37 y_33.1, .row ((tInt .i64)).o 3 w0 y])) _ ?_ ⟨(.slice none 0 0), rfl, rfl, rfl⟩ ?_ ?_
        · exact ⟨rfl, rfl, rfl, rfl, rfl, rfl, rfl, trivial⟩
        · rintro x_42 _ b s_47 _ ⟨v_46, rfl, rfl, rfl⟩
          unfold lychgatelaw05_CertTurned_L2
          refine J_seq ?_
          refine J_region ?_
          refine JL_op rfl (op_read rfl rfl (r_lss rfl rfl) ?_)
          refine JL_nil ?_
          refine J_then ?_
          refine J_seq ?_
          refine J_cond rfl (fun hc_48 => ?_) (fun hc_48 => ?_)
          · refine J_skip ?_
            refine J_then ?_
            refine J_seq ?_
            refine J_block ?_
            refine J_seq ?_
            refine J_region ?_
            refine JL_op rfl (op_read rfl rfl (r_move (v := .int .i64 x_42.2) rfl) ?_)
            refine JL_op rfl (op_read rfl rfl (r_assign (v := .int .i64 x_42.2) rfl) ?_)
            refine JL_nil ?_
            refine J_then ?_
            refine J_region ?_
            refine JL_op rfl (op_read rfl rfl (r_move (v := v_46) rfl) ?_)
            refine JL_op rfl (op_read rfl rfl (r_move (v := .int .i64 x_42.2) rfl) ?_)
            refine JL_op rfl (op_read rfl rfl (r_move (v := .int .i64 q_39) rfl) ?_)
            refine JL_op rfl (op_read rfl rfl (r_add rfl rfl) ?_)
            refine JL_op rfl (op_read rfl rfl (r_move (v := .int .i64 (if 50 < steps_2.len then 50 else steps_2.len)) rfl) ?_)
            refine J_bind fun q_49 hq_50 => ?_
            refine JL_op rfl (op_read rfl rfl (r_rem rfl rfl hq_50) ?_)
            refine JL_op rfl (op_buildSlice (T := ((tInt .i64)).o) (vs := [.int .i64 q_49]) (xs := [q_49]) [] [.row (t_Gdiff_Leq).o 37 v_37 y_33.1, .row ((tInt .i64)).o 3 v_46 x_42.1] rfl Try.pu22 Try.pi3 rfl rfl rfl rfl rfl rfl (relsO_cons (A := []) (B := []) (u := .int .i64 q_49) (x := q_49) (fix_vrel (T := ((tInt .i64)).o) rfl (tInt_v.2 rfl)) relsO_nil) ?_)
            intro v_51
            refine J_select (PV' := [.row ((tInt .i64)).o 3 v_46 x_42.1, .row ((tInt .i64)).o 3 v_51 (⟨[q_49], true⟩ : Sl Int), .row (t_Gdiff_Leq).o 37 v_37 y_33.1]) [2, 0, 1] (by decide) rfl ?_
            refine JL_op rfl (op_append (v := v_46) (u := v_51) (T := ((tInt .i64)).o) (ts := [q_49]) [] [.row ((tInt .i64)).o 3 v_51 (⟨[q_49], true⟩ : Sl Int), .row (t_Gdiff_Leq).o 37 v_37 y_33.1] rfl Try.pu22 Try.pi3 rfl rfl rfl rfl rfl rfl (source_copy (s := (⟨[q_49], true⟩ : Sl Int)) 1 rfl) ?_)
            intro s_54 v_53 hs_55
            refine JL_op rfl (op_read rfl rfl (r_assign (v := v_53) rfl) ?_)
            refine JL_nil ?_
            refine J_in_normal ?_
            refine J_then ?_
            refine J_region ?_
            refine JL_op rfl (op_read rfl rfl (r_add rfl rfl) ?_)
            refine JL_op rfl (op_read rfl rfl (r_move (v := .int .i64 (IntKind.i64.wrap (x_42.2 + 1))) rfl) ?_)
            refine JL_nil ?_
            refine J_select (PV' := [.row (t_Gdiff_Leq).o 37 v_37 y_33.1, .row ((tInt .i64)).o 3 v_53 s_54]) [2, 0] (by decide) rfl ?_
            refine J_next _ ?_ ⟨v_53, rfl, rfl, rfl⟩
            exact ⟨rfl, rfl, rfl, rfl, rfl, rfl, rfl, trivial⟩
          · refine J_exit ?_
            refine J_then_exit ?_
            refine J_done trivial _ ?_ ⟨rfl, v_46, rfl, rfl, rfl⟩
            exact ⟨rfl, rfl, rfl, trivial⟩
        · rintro y_56 _ _ b s_61 _ ⟨rfl, ⟨v_60, rfl, rfl, rfl⟩⟩
          refine J_in_exit ?_
          refine J_then ?_
          refine J_seq ?_
          refine J_region ?_
          refine JL_op rfl (op_read rfl rfl (r_move (v := v_60) rfl) ?_)
          refine JL_op rfl (op_read rfl rfl (r_move (v := v_37) rfl) ?_)
          refine JL_op rfl (op_call_view (f := 10) (fn := Try.f10) (args := [v_60, v_37]) (F := fun τ => (tSl (tInt .i64)).vrel τ v_60 y_56 ∧ (tSl t_Gdiff_Leq).vrel τ v_37 y_33.1 ∧ True) (post := fun τ => cert_Circle_v3_post τ v_60 y_56 v_37 y_33.1) rfl rfl rfl Try.func10 Try.pn10 rfl rfl (view_cons 1 rfl rfl fun t_62 l_64 f_66 => (view_cons 0 rfl rfl fun t_63 l_65 f_67 => (view_nil ⟨(Ty.vmono _ l_65 f_66), f_67, trivial⟩))) (fun y st τ hy hF_68 hl hpre => cert_Circle_v3_ref st τ v_60 y_56 hF_68.1 v_37 y_33.1 hF_68.2.1 hpre y hy) ?_)
          intro r_69 v_71 t_76 s_74 PV_72 hr_70 hF_68 hl_77 hp_73
          obtain ⟨rfl, rfl, rfl⟩ := hp_73
          refine JL_op rfl (op_read rfl rfl (r_move (v := .int .i64 y_33.2) rfl) ?_)
          refine JL_op rfl (op_read rfl rfl (r_lss rfl rfl) ?_)
          refine JL_op rfl (op_read rfl rfl (r_beql Try.pu4 rfl rfl) ?_)
          refine JL_op rfl (op_read rfl rfl (r_move (v := .bool (r_69 == (decide (y_33.2 < 0)))) rfl) ?_)
          refine J_forkLB (e := (r_69 == (decide (y_33.2 < 0)))) 6 (fun (y : Bool) L τ PV => σ = τ ∧ L = [(6, v_37), (7, v_60), (8, .int .i64 y_33.2), (72, .bool y)] ∧ PV = [.row (t_Gdiff_Leq).o 37 v_37 y_33.1, .row ((tInt .i64)).o 3 v_60 y_56]) (fun hc_78 hk => ?_) (fun hc_78 hk => ?_) ?_
          · refine JL_opg rfl rfl hc_78 (op_read rfl rfl (r_move (v := v_60) rfl) ?_)
            refine J_assoc ?_
            refine J_bind fun s_80 hs_81 => ?_
            refine JL_opg rfl rfl hc_78 (op_read rfl rfl (r_slice_view (v := v_60) (T := ((tInt .i64)).o) (s' := s_80) (i := 1) (j := y_56.len) 1 Try.pu22 Try.pi3 rfl rfl rfl ⟨_, rfl⟩ rfl hs_81) ?_)
            refine JL_opg rfl rfl hc_78 (op_read rfl rfl (r_move (v := v_37) rfl) ?_)
            refine J_assoc ?_
            refine JL_opg rfl rfl hc_78 (op_call_view (f := 10) (fn := Try.f10) (args := [sliceV v_60 1 y_56.len (((tInt .i64)).o).size, v_37]) (F := fun τ => (tSl (tInt .i64)).vrel τ (sliceV v_60 1 y_56.len (((tInt .i64)).o).size) s_80 ∧ (tSl t_Gdiff_Leq).vrel τ v_37 y_33.1 ∧ True) (post := fun τ => cert_Circle_v3_post τ (sliceV v_60 1 y_56.len (((tInt .i64)).o).size) s_80 v_37 y_33.1) rfl rfl rfl Try.func10 Try.pn10 rfl rfl (view_cons 1 rfl rfl fun t_82 l_84 f_86 => (view_cons 0 rfl rfl fun t_83 l_85 f_87 => (view_nil ⟨(vrel_slice rfl (Ty.vmono _ l_85 f_86) hs_81), f_87, trivial⟩))) (fun y st τ hy hF_88 hl hpre => cert_Circle_v3_ref st τ (sliceV v_60 1 y_56.len (((tInt .i64)).o).size) s_80 hF_88.1 v_37 y_33.1 hF_88.2.1 hpre y hy) ?_)
            intro r_89 v_91 t_96 s_94 PV_92 hr_90 hF_88 hl_97 hp_93
            obtain ⟨rfl, rfl, rfl⟩ := hp_93
            refine JL_opg rfl rfl hc_78 (op_read rfl rfl (r_not rfl) ?_)
            refine JL_op rfl (op_read rfl rfl (r_pick_t (v := .bool (!r_89)) rfl hc_78 rfl) ?_)
            refine J_prune _ ?_ fun b => hk (!r_89) _ b _ _ ⟨rfl, rfl, rfl⟩
            exact ⟨rfl, rfl, rfl, rfl, trivial⟩
          · refine JL_skip rfl rfl hc_78 rfl rfl ?_
            refine JL_skip rfl rfl hc_78 rfl rfl ?_
            refine JL_skip rfl rfl hc_78 rfl rfl ?_
            refine JL_skip rfl rfl hc_78 rfl rfl ?_
            refine JL_skip rfl rfl hc_78 rfl rfl ?_
            refine JL_op rfl (op_read rfl rfl (r_pick_f (v := .bool false) rfl hc_78 rfl) ?_)
            refine J_prune _ ?_ fun b => hk false _ b _ _ ⟨rfl, rfl, rfl⟩
            exact ⟨rfl, rfl, rfl, rfl, trivial⟩
          · rintro y_79 _ b s_100 _ ⟨rfl, rfl, rfl⟩
            refine JL_op rfl (op_read rfl rfl (r_move (v := .bool y_79) rfl) ?_)
            refine J_forkLB (e := y_79) 9 (fun (y : Bool) L τ PV => σ = τ ∧ L = [(82, .bool y)] ∧ PV = []) (fun hc_101 hk => ?_) (fun hc_101 hk => ?_) ?_
            · refine JL_opg rfl rfl hc_101 (op_read rfl rfl (r_move (v := v_60) rfl) ?_)
              refine JL_opg rfl rfl hc_101 (op_read rfl rfl (r_move (v := v_60) rfl) ?_)
              refine J_select (PV' := [.row ((tInt .i64)).o 3 v_60 y_56, .row (t_Gdiff_Leq).o 37 v_37 y_33.1]) [1, 0] (by decide) rfl ?_
              refine J_assoc ?_
              refine JL_opg rfl rfl hc_101 (op_append (v := v_60) (u := v_60) (T := ((tInt .i64)).o) (ts := y_56.xs) [] [.row (t_Gdiff_Leq).o 37 v_37 y_33.1] rfl Try.pu22 Try.pi3 rfl rfl rfl rfl rfl rfl (source_copy (s := y_56) 0 rfl) ?_)
              intro s_104 v_103 hs_105
              refine JL_opg rfl rfl hc_101 (op_read rfl rfl (r_move (v := v_37) rfl) ?_)
              refine J_assoc ?_
              refine JL_opg rfl rfl hc_101 (op_call_view (f := 10) (fn := Try.f10) (args := [v_103, v_37]) (F := fun τ => (tSl (tInt .i64)).vrel τ v_103 s_104 ∧ (tSl t_Gdiff_Leq).vrel τ v_37 y_33.1 ∧ True) (post := fun τ => cert_Circle_v3_post τ v_103 s_104 v_37 y_33.1) rfl rfl rfl Try.func10 Try.pn10 rfl rfl (view_cons 0 rfl rfl fun t_106 l_108 f_110 => (view_cons 0 rfl rfl fun t_107 l_109 f_111 => (view_nil ⟨(Ty.vmono _ l_109 f_110), f_111, trivial⟩))) (fun y st τ hy hF_112 hl hpre => cert_Circle_v3_ref st τ v_103 s_104 hF_112.1 v_37 y_33.1 hF_112.2.1 hpre y hy) ?_)
              intro r_113 v_115 t_120 s_118 PV_116 hr_114 hF_112 hl_121 hp_117
              obtain ⟨rfl, rfl, rfl⟩ := hp_117
              refine JL_opg rfl rfl hc_101 (op_read rfl rfl (r_move (v := .int .i64 y_33.2) rfl) ?_)
              refine JL_opg rfl rfl hc_101 (op_read rfl rfl (r_lss rfl rfl) ?_)
              refine JL_opg rfl rfl hc_101 (op_read rfl rfl (r_beql Try.pu4 rfl rfl) ?_)
              refine JL_op rfl (op_read rfl rfl (r_pick_t (v := .bool (r_113 == (decide (y_33.2 < 0)))) rfl hc_101 rfl) ?_)
              refine J_select (PV' := []) [] (by decide) rfl ?_
              refine J_prune _ ?_ fun b => hk (r_113 == (decide (y_33.2 < 0))) _ b _ _ ⟨rfl, rfl, rfl⟩
              exact ⟨rfl, trivial⟩
            · refine JL_skip rfl rfl hc_101 rfl rfl ?_
              refine JL_skip rfl rfl hc_101 rfl rfl ?_
              refine JL_skip rfl rfl hc_101 rfl rfl ?_
              refine JL_skip rfl rfl hc_101 rfl rfl ?_
              refine JL_skip rfl rfl hc_101 rfl rfl ?_
              refine JL_skip rfl rfl hc_101 rfl rfl ?_
              refine JL_skip rfl rfl hc_101 rfl rfl ?_
              refine JL_skip rfl rfl hc_101 rfl rfl ?_
              refine JL_op rfl (op_read rfl rfl (r_pick_f (v := .bool false) rfl hc_101 rfl) ?_)
              refine J_select (PV' := []) [] (by decide) rfl ?_
              refine J_prune _ ?_ fun b => hk false _ b _ _ ⟨rfl, rfl, rfl⟩
              exact ⟨rfl, trivial⟩
            · rintro y_102 _ b s_124 _ ⟨rfl, rfl, rfl⟩
              refine JL_op rfl (op_read rfl rfl (r_assign (v := .bool y_102) rfl) ?_)
              refine JL_nil ?_
              refine J_then ?_
              refine J_ret ?_
              exact J_returnV1 (PV' := []) rfl rv_tmp [] (by decide) rfl ⟨rfl, rfl, rfl⟩
end Go.Px
