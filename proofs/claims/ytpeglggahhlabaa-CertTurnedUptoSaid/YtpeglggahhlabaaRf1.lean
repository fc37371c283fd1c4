/- The calls do what the models say, part 1. -/
import Derived.Test.YtpeglggahhlabaaMd
namespace Go.Px
open Go.Proofs
set_option linter.unusedVariables false
def slices_Clone_post (σ0 : FS) (v_1 : Value) (x_2 : Sl Gdiff_Leq) (r : (Sl Gdiff_Leq)) (σ : FS) (PV : List Priv) (v : Value) : Prop :=
  ∃ (w0 : Value), σ0 = σ ∧ w0 = v ∧ PV = [.row (t_Gdiff_Leq).o 37 w0 r, .row (t_Gdiff_Leq).o 37 v_1 x_2]
set_option maxRecDepth 100000 in
theorem slices_Clone_ref (s : Start) (σ : FS) (v_1 : Value) (x_2 : Sl Gdiff_Leq) (hs : Pre s σ [.row (t_Gdiff_Leq).o 37 v_1 x_2]) (r : (Sl Gdiff_Leq)) (hr : slices_Clone x_2 = some r) : Does Try.prog 24 [v_1] s σ (slices_Clone_post σ v_1 x_2 r) := by
  unfold slices_Clone at hr
  refine does_of_J Try.func24 rfl (n := 8) rfl rfl hs hr ?_
  refine J_seq ?_
  refine J_region ?_
  refine JL_op rfl (op_read rfl rfl (r_assign (v := .slice none 0 0) rfl) ?_)
  refine JL_nil ?_
  refine J_then ?_
  refine J_seq ?_
  refine J_seq ?_
  refine J_region ?_
  refine JL_op rfl (op_read rfl rfl (r_move (v := v_1) rfl) ?_)
  refine JL_op rfl (op_read rfl rfl (r_eqnil_row (v := v_1) 0 Try.pu23 rfl rfl rfl) ?_)
  refine JL_nil ?_
  refine J_then ?_
  refine J_cond rfl (fun hc_3 => ?_) (fun hc_3 => ?_)
  · refine J_seq ?_
    refine J_region ?_
    refine JL_op rfl (op_read rfl rfl (r_assign (v := .slice none 0 0) rfl) ?_)
    refine JL_nil ?_
    refine J_then ?_
    refine J_ret ?_
    refine J_then_ret ?_
    refine J_nil_row (t_Gdiff_Leq).o 37 ?_
    exact J_returnV1 (PV' := [.row (t_Gdiff_Leq).o 37 (.slice none 0 0) (⟨[], false⟩ : Sl Gdiff_Leq), .row (t_Gdiff_Leq).o 37 v_1 x_2]) rfl rv_tmp [0, 1] (by decide) rfl ⟨(.slice none 0 0), rfl, rfl, rfl⟩
  · refine J_skip ?_
    refine J_then ?_
    refine J_seq ?_
    refine J_region ?_
    refine JL_op rfl (op_buildSlice (T := (t_Gdiff_Leq).o) (vs := []) (xs := []) [] [.row (t_Gdiff_Leq).o 37 v_1 x_2] rfl Try.pu23 Try.pi37 rfl rfl rfl rfl rfl rfl relsO_nil ?_)
    intro v_5
    refine JL_op rfl (op_read rfl rfl (r_move (v := v_1) rfl) ?_)
    refine JL_op rfl (op_append (v := v_5) (u := v_1) (T := (t_Gdiff_Leq).o) (ts := x_2.xs) [] [.row (t_Gdiff_Leq).o 37 v_1 x_2] rfl Try.pu23 Try.pi37 rfl rfl rfl rfl rfl rfl (source_copy (s := x_2) 1 rfl) ?_)
    intro s_8 v_7 hs_9
    refine JL_op rfl (op_read rfl rfl (r_assign (v := v_7) rfl) ?_)
    refine JL_nil ?_
    refine J_then ?_
    refine J_ret ?_
    exact J_returnV1 (PV' := [.row (t_Gdiff_Leq).o 37 v_7 s_8, .row (t_Gdiff_Leq).o 37 v_1 x_2]) rfl rv_tmp [0, 1] (by decide) rfl ⟨v_7, rfl, rfl, rfl⟩
def diff_fit_1_post (σ0 : FS) (v_1 : Value) (f_2 : Gdiff_Leq) (a_4 : Addr) (f_5 : Int) (r : Unit) (σ : FS) (PV : List Priv) (v : Value) : Prop :=
  σ0 = σ ∧ .bool (((((decide (f_2.X < 0) || decide (f_5 ≤ f_2.X)) || decide (f_2.Y < 0)) || decide (f_5 ≤ f_2.Y)) || decide (8796093022208 < f_2.C)) || decide (f_2.C < (-8796093022208))) = v ∧ PV = [.cell a_4 [.int .i64 f_5]]
set_option maxRecDepth 100000 in
theorem diff_fit_1_ref (s : Start) (σ : FS) (v_1 : Value) (f_2 : Gdiff_Leq) (h_3 : t_Gdiff_Leq.vrel σ v_1 f_2) (a_4 : Addr) (f_5 : Int) (hs : Pre s σ [.cell a_4 [.int .i64 f_5]]) (r : Unit) (hr : diff_fit_1 f_2 f_5 = some r) : Does Try.prog 32 [v_1, .pointer (some (Addr.add a_4 0))] s σ (diff_fit_1_post σ v_1 f_2 a_4 f_5 r) := by
  unfold diff_fit_1 at hr
  obtain rfl := t_Gdiff_Leq_v.1 h_3
  refine does_of_J Try.func32 rfl (n := 34) rfl rfl hs hr ?_
  refine J_seq ?_
  refine J_region ?_
  refine JL_op rfl (op_box (cs := [.int .i64 f_2.X, .int .i64 f_2.Y, .int .i64 f_2.C]) rfl rfl ?_)
  intro c_6
  refine JL_op rfl (op_read rfl rfl (r_assign (v := .bool false) rfl) ?_)
  refine JL_nil ?_
  refine J_then ?_
  refine J_seq ?_
  refine J_region ?_
  refine JL_op rfl (op_read rfl rfl (r_fieldAddr (r := Addr.add c_6 0) Try.pu37 (f := Try.pf37.getD 0 default) rfl Try.pi3 (by decide) rfl (Addr.add_add _ _ _)) ?_)
  refine JL_op rfl (op_read rfl rfl (r_load_priv (a := c_6) (off := 0) (cs' := [.int .i64 f_2.X]) (v := .int .i64 f_2.X) 0 Try.pu3 Try.pi3 rfl rfl rfl rfl (by decide) rfl) ?_)
  refine JL_op rfl (op_read rfl rfl (r_lss rfl rfl) ?_)
  refine JL_op rfl (op_read rfl rfl (r_move (v := .bool (decide (f_2.X < 0))) rfl) ?_)
  refine J_forkL (e := (decide (f_2.X < 0))) 5 [(1, .pointer (some (Addr.add a_4 0))), (2, .pointer (some (Addr.add c_6 0))), (12, .bool (decide (f_2.X < 0) || decide (f_5 ≤ f_2.X)))] (fun hc_8 hk => ?_) (fun hc_8 hk => ?_) (fun b => ?_)
  · refine JL_skip rfl rfl hc_8 rfl rfl ?_
    refine JL_skip rfl rfl hc_8 rfl rfl ?_
    refine JL_skip rfl rfl hc_8 rfl rfl ?_
    refine JL_skip rfl rfl hc_8 rfl rfl ?_
    refine JL_op rfl (op_read rfl rfl (r_pick_t (v := .bool true) rfl hc_8 rfl) ?_)
    refine J_prune [(1, .pointer (some (Addr.add a_4 0))), (2, .pointer (some (Addr.add c_6 0))), (12, .bool (decide (f_2.X < 0) || decide (f_5 ≤ f_2.X)))] ⟨rfl, rfl, (by show Value.bool _ = Value.bool _; rw [hc_8]; rfl), trivial⟩ hk
  · refine JL_opg rfl rfl hc_8 (op_read rfl rfl (r_fieldAddr (r := Addr.add c_6 0) Try.pu37 (f := Try.pf37.getD 0 default) rfl Try.pi3 (by decide) rfl (Addr.add_add _ _ _)) ?_)
    refine JL_opg rfl rfl hc_8 (op_read rfl rfl (r_load_priv (a := c_6) (off := 0) (cs' := [.int .i64 f_2.X]) (v := .int .i64 f_2.X) 0 Try.pu3 Try.pi3 rfl rfl rfl rfl (by decide) rfl) ?_)
    refine JL_opg rfl rfl hc_8 (op_read rfl rfl (r_load_priv (a := a_4) (off := 0) (cs' := [.int .i64 f_5]) (v := .int .i64 f_5) 1 Try.pu3 Try.pi3 rfl rfl rfl rfl (by decide) rfl) ?_)
    refine JL_opg rfl rfl hc_8 (op_read rfl rfl (r_geq rfl rfl) ?_)
    refine JL_op rfl (op_read rfl rfl (r_pick_f (v := .bool (decide (f_5 ≤ f_2.X))) rfl hc_8 rfl) ?_)
    refine J_prune [(1, .pointer (some (Addr.add a_4 0))), (2, .pointer (some (Addr.add c_6 0))), (12, .bool (decide (f_2.X < 0) || decide (f_5 ≤ f_2.X)))] ⟨rfl, rfl, (by show Value.bool _ = Value.bool _; rw [hc_8]; rfl), trivial⟩ hk
  · refine JL_op rfl (op_read rfl rfl (r_move (v := .bool (decide (f_2.X < 0) || decide (f_5 ≤ f_2.X))) rfl) ?_)
    refine J_forkL (e := (decide (f_2.X < 0) || decide (f_5 ≤ f_2.X))) 4 [(1, .pointer (some (Addr.add a_4 0))), (2, .pointer (some (Addr.add c_6 0))), (17, .bool ((decide (f_2.X < 0) || decide (f_5 ≤ f_2.X)) || decide (f_2.Y < 0)))] (fun hc_9 hk => ?_) (fun hc_9 hk => ?_) (fun b => ?_)
    · refine JL_skip rfl rfl hc_9 rfl rfl ?_
      refine JL_skip rfl rfl hc_9 rfl rfl ?_
      refine JL_skip rfl rfl hc_9 rfl rfl ?_
      refine JL_op rfl (op_read rfl rfl (r_pick_t (v := .bool true) rfl hc_9 rfl) ?_)
      refine J_prune [(1, .pointer (some (Addr.add a_4 0))), (2, .pointer (some (Addr.add c_6 0))), (17, .bool ((decide (f_2.X < 0) || decide (f_5 ≤ f_2.X)) || decide (f_2.Y < 0)))] ⟨rfl, rfl, (by show Value.bool _ = Value.bool _; rw [hc_9]; rfl), trivial⟩ hk
    · refine JL_opg rfl rfl hc_9 (op_read rfl rfl (r_fieldAddr (r := Addr.add c_6 1) Try.pu37 (f := Try.pf37.getD 1 default) rfl Try.pi3 (by decide) rfl (Addr.add_add _ _ _)) ?_)
      refine JL_opg rfl rfl hc_9 (op_read rfl rfl (r_load_priv (a := c_6) (off := 1) (cs' := [.int .i64 f_2.Y]) (v := .int .i64 f_2.Y) 0 Try.pu3 Try.pi3 rfl rfl rfl rfl (by decide) rfl) ?_)
      refine JL_opg rfl rfl hc_9 (op_read rfl rfl (r_lss rfl rfl) ?_)
      refine JL_op rfl (op_read rfl rfl (r_pick_f (v := .bool (decide (f_2.Y < 0))) rfl hc_9 rfl) ?_)
      refine J_prune [(1, .pointer (some (Addr.add a_4 0))), (2, .pointer (some (Addr.add c_6 0))), (17, .bool ((decide (f_2.X < 0) || decide (f_5 ≤ f_2.X)) || decide (f_2.Y < 0)))] ⟨rfl, rfl, (by show Value.bool _ = Value.bool _; rw [hc_9]; rfl), trivial⟩ hk
    · refine JL_op rfl (op_read rfl rfl (r_move (v := .bool ((decide (f_2.X < 0) || decide (f_5 ≤ f_2.X)) || decide (f_2.Y < 0))) rfl) ?_)
      refine J_forkL (e := ((decide (f_2.X < 0) || decide (f_5 ≤ f_2.X)) || decide (f_2.Y < 0))) 5 [(2, .pointer (some (Addr.add c_6 0))), (23, .bool (((decide (f_2.X < 0) || decide (f_5 ≤ f_2.X)) || decide (f_2.Y < 0)) || decide (f_5 ≤ f_2.Y)))] (fun hc_10 hk => ?_) (fun hc_10 hk => ?_) (fun b => ?_)
      · refine JL_skip rfl rfl hc_10 rfl rfl ?_
        refine JL_skip rfl rfl hc_10 rfl rfl ?_
        refine JL_skip rfl rfl hc_10 rfl rfl ?_
        refine JL_skip rfl rfl hc_10 rfl rfl ?_
        refine JL_op rfl (op_read rfl rfl (r_pick_t (v := .bool true) rfl hc_10 rfl) ?_)
        refine J_prune [(2, .pointer (some (Addr.add c_6 0))), (23, .bool (((decide (f_2.X < 0) || decide (f_5 ≤ f_2.X)) || decide (f_2.Y < 0)) || decide (f_5 ≤ f_2.Y)))] ⟨rfl, (by show Value.bool _ = Value.bool _; rw [hc_10]; rfl), trivial⟩ hk
      · refine JL_opg rfl rfl hc_10 (op_read rfl rfl (r_fieldAddr (r := Addr.add c_6 1) Try.pu37 (f := Try.pf37.getD 1 default) rfl Try.pi3 (by decide) rfl (Addr.add_add _ _ _)) ?_)
        refine JL_opg rfl rfl hc_10 (op_read rfl rfl (r_load_priv (a := c_6) (off := 1) (cs' := [.int .i64 f_2.Y]) (v := .int .i64 f_2.Y) 0 Try.pu3 Try.pi3 rfl rfl rfl rfl (by decide) rfl) ?_)
        refine JL_opg rfl rfl hc_10 (op_read rfl rfl (r_load_priv (a := a_4) (off := 0) (cs' := [.int .i64 f_5]) (v := .int .i64 f_5) 1 Try.pu3 Try.pi3 rfl rfl rfl rfl (by decide) rfl) ?_)
        refine JL_opg rfl rfl hc_10 (op_read rfl rfl (r_geq rfl rfl) ?_)
        refine JL_op rfl (op_read rfl rfl (r_pick_f (v := .bool (decide (f_5 ≤ f_2.Y))) rfl hc_10 rfl) ?_)
        refine J_prune [(2, .pointer (some (Addr.add c_6 0))), (23, .bool (((decide (f_2.X < 0) || decide (f_5 ≤ f_2.X)) || decide (f_2.Y < 0)) || decide (f_5 ≤ f_2.Y)))] ⟨rfl, (by show Value.bool _ = Value.bool _; rw [hc_10]; rfl), trivial⟩ hk
      · refine JL_op rfl (op_read rfl rfl (r_move (v := .bool (((decide (f_2.X < 0) || decide (f_5 ≤ f_2.X)) || decide (f_2.Y < 0)) || decide (f_5 ≤ f_2.Y))) rfl) ?_)
        refine J_forkL (e := (((decide (f_2.X < 0) || decide (f_5 ≤ f_2.X)) || decide (f_2.Y < 0)) || decide (f_5 ≤ f_2.Y))) 4 [(2, .pointer (some (Addr.add c_6 0))), (28, .bool ((((decide (f_2.X < 0) || decide (f_5 ≤ f_2.X)) || decide (f_2.Y < 0)) || decide (f_5 ≤ f_2.Y)) || decide (8796093022208 < f_2.C)))] (fun hc_11 hk => ?_) (fun hc_11 hk => ?_) (fun b => ?_)
        · refine JL_skip rfl rfl hc_11 rfl rfl ?_
          refine JL_skip rfl rfl hc_11 rfl rfl ?_
          refine JL_skip rfl rfl hc_11 rfl rfl ?_
          refine JL_op rfl (op_read rfl rfl (r_pick_t (v := .bool true) rfl hc_11 rfl) ?_)
          refine J_prune [(2, .pointer (some (Addr.add c_6 0))), (28, .bool ((((decide (f_2.X < 0) || decide (f_5 ≤ f_2.X)) || decide (f_2.Y < 0)) || decide (f_5 ≤ f_2.Y)) || decide (8796093022208 < f_2.C)))] ⟨rfl, (by show Value.bool _ = Value.bool _; rw [hc_11]; rfl), trivial⟩ hk
        · refine JL_opg rfl rfl hc_11 (op_read rfl rfl (r_fieldAddr (r := Addr.add c_6 2) Try.pu37 (f := Try.pf37.getD 2 default) rfl Try.pi2 (by decide) rfl (Addr.add_add _ _ _)) ?_)
          refine JL_opg rfl rfl hc_11 (op_read rfl rfl (r_load_priv (a := c_6) (off := 2) (cs' := [.int .i64 f_2.C]) (v := .int .i64 f_2.C) 0 Try.pu2 Try.pi2 rfl rfl rfl rfl (by decide) rfl) ?_)
          refine JL_opg rfl rfl hc_11 (op_read rfl rfl (r_gtr rfl rfl) ?_)
          refine JL_op rfl (op_read rfl rfl (r_pick_f (v := .bool (decide (8796093022208 < f_2.C))) rfl hc_11 rfl) ?_)
          refine J_prune [(2, .pointer (some (Addr.add c_6 0))), (28, .bool ((((decide (f_2.X < 0) || decide (f_5 ≤ f_2.X)) || decide (f_2.Y < 0)) || decide (f_5 ≤ f_2.Y)) || decide (8796093022208 < f_2.C)))] ⟨rfl, (by show Value.bool _ = Value.bool _; rw [hc_11]; rfl), trivial⟩ hk
        · refine JL_op rfl (op_read rfl rfl (r_move (v := .bool ((((decide (f_2.X < 0) || decide (f_5 ≤ f_2.X)) || decide (f_2.Y < 0)) || decide (f_5 ≤ f_2.Y)) || decide (8796093022208 < f_2.C))) rfl) ?_)
          refine J_forkL (e := ((((decide (f_2.X < 0) || decide (f_5 ≤ f_2.X)) || decide (f_2.Y < 0)) || decide (f_5 ≤ f_2.Y)) || decide (8796093022208 < f_2.C))) 4 [(33, .bool (((((decide (f_2.X < 0) || decide (f_5 ≤ f_2.X)) || decide (f_2.Y < 0)) || decide (f_5 ≤ f_2.Y)) || decide (8796093022208 < f_2.C)) || decide (f_2.C < (-8796093022208))))] (fun hc_12 hk => ?_) (fun hc_12 hk => ?_) (fun b => ?_)
          · refine JL_skip rfl rfl hc_12 rfl rfl ?_
            refine JL_skip rfl rfl hc_12 rfl rfl ?_
            refine JL_skip rfl rfl hc_12 rfl rfl ?_
            refine JL_op rfl (op_read rfl rfl (r_pick_t (v := .bool true) rfl hc_12 rfl) ?_)
            refine J_prune [(33, .bool (((((decide (f_2.X < 0) || decide (f_5 ≤ f_2.X)) || decide (f_2.Y < 0)) || decide (f_5 ≤ f_2.Y)) || decide (8796093022208 < f_2.C)) || decide (f_2.C < (-8796093022208))))] ⟨(by show Value.bool _ = Value.bool _; rw [hc_12]; rfl), trivial⟩ hk
          · refine JL_opg rfl rfl hc_12 (op_read rfl rfl (r_fieldAddr (r := Addr.add c_6 2) Try.pu37 (f := Try.pf37.getD 2 default) rfl Try.pi2 (by decide) rfl (Addr.add_add _ _ _)) ?_)
            refine JL_opg rfl rfl hc_12 (op_read rfl rfl (r_load_priv (a := c_6) (off := 2) (cs' := [.int .i64 f_2.C]) (v := .int .i64 f_2.C) 0 Try.pu2 Try.pi2 rfl rfl rfl rfl (by decide) rfl) ?_)
            refine JL_opg rfl rfl hc_12 (op_read rfl rfl (r_lss rfl rfl) ?_)
            refine JL_op rfl (op_read rfl rfl (r_pick_f (v := .bool (decide (f_2.C < (-8796093022208)))) rfl hc_12 rfl) ?_)
            refine J_prune [(33, .bool (((((decide (f_2.X < 0) || decide (f_5 ≤ f_2.X)) || decide (f_2.Y < 0)) || decide (f_5 ≤ f_2.Y)) || decide (8796093022208 < f_2.C)) || decide (f_2.C < (-8796093022208))))] ⟨(by show Value.bool _ = Value.bool _; rw [hc_12]; rfl), trivial⟩ hk
          · refine JL_op rfl (op_read rfl rfl (r_assign (v := .bool (((((decide (f_2.X < 0) || decide (f_5 ≤ f_2.X)) || decide (f_2.Y < 0)) || decide (f_5 ≤ f_2.Y)) || decide (8796093022208 < f_2.C)) || decide (f_2.C < (-8796093022208)))) rfl) ?_)
            refine JL_nil ?_
            refine J_then ?_
            refine J_ret ?_
            exact J_returnV1 (PV' := [.cell a_4 [.int .i64 f_5]]) rfl rv_tmp [1] (by decide) rfl ⟨rfl, rfl, rfl⟩
def slices_IndexFunc_post (σ0 : FS) (v_1 : Value) (x_2 : Sl Gdiff_Leq) (a_3 : Addr) (f_4 : Int) (r : Int) (σ : FS) (PV : List Priv) (v : Value) : Prop :=
  σ0 = σ ∧ .int .i64 r = v ∧ PV = [.row (t_Gdiff_Leq).o 37 v_1 x_2, .cell a_3 [.int .i64 f_4]]
set_option maxRecDepth 100000 in
theorem slices_IndexFunc_ref (s : Start) (σ : FS) (v_1 : Value) (x_2 : Sl Gdiff_Leq) (a_3 : Addr) (f_4 : Int) (hs : Pre s σ [.row (t_Gdiff_Leq).o 37 v_1 x_2, .cell a_3 [.int .i64 f_4]]) (r : Int) (hr : slices_IndexFunc x_2 f_4 = some r) : Does Try.prog 31 [v_1, .func (.func 32) #[] #[.pointer (some (Addr.add a_3 0))]] s σ (slices_IndexFunc_post σ v_1 x_2 a_3 f_4 r) := by
  unfold slices_IndexFunc at hr
  refine does_of_J Try.func31 rfl (n := 19) rfl rfl hs hr ?_
  refine J_seq ?_
  refine J_region ?_
  refine JL_op rfl (op_read rfl rfl (r_assign (v := .int .i64 0) rfl) ?_)
  refine JL_nil ?_
  refine J_then ?_
  refine J_seq ?_
  refine J_seq ?_
  refine J_region ?_
  refine JL_op rfl (op_read rfl rfl (r_move (v := v_1) rfl) ?_)
  refine JL_op rfl (op_read rfl rfl (r_len_row (v := v_1) 0 Try.pu23 rfl rfl) ?_)
  refine JL_op rfl (op_read rfl rfl (r_move (v := .int .i64 0) rfl) ?_)
  refine JL_nil ?_
  refine J_then ?_
  refine J_block ?_
  refine J_loop (fun (y : Int) L τ PV => σ = τ ∧ L = [(0, v_1), (1, .func (.func 32) #[] #[.pointer (some (Addr.add a_3 0))]), (7, .int .i64 x_2.len), (8, .int .i64 y)] ∧ PV = [.row (t_Gdiff_Leq).o 37 v_1 x_2, .cell a_3 [.int .i64 f_4]]) (fun (y : W2 Unit Int) e L τ PV => match y, e with | .a y, e => e = .exit 0 ∧ (σ = τ ∧ L = [] ∧ PV = [.row (t_Gdiff_Leq).o 37 v_1 x_2, .cell a_3 [.int .i64 f_4]]) | .b y, e => e = .ret ∧ (σ = τ ∧ L = [(4, .int .i64 y)] ∧ PV = [.row (t_Gdiff_Leq).o 37 v_1 x_2, .cell a_3 [.int .i64 f_4]])) _ ?_ ⟨rfl, rfl, rfl⟩ ?_ ?_
  · exact ⟨rfl, rfl, rfl, rfl, trivial⟩
  · rintro x_5 _ b s_8 _ ⟨rfl, rfl, rfl⟩
    unfold slices_IndexFunc_L1
    refine J_seq ?_
    refine J_region ?_
    refine JL_op rfl (op_read rfl rfl (r_lss rfl rfl) ?_)
    refine JL_nil ?_
    refine J_then ?_
    refine J_seq ?_
    refine J_cond rfl (fun hc_9 => ?_) (fun hc_9 => ?_)
    · refine J_skip ?_
      refine J_then ?_
      refine J_seq ?_
      refine J_block ?_
      refine J_seq ?_
      refine J_region ?_
      refine JL_op rfl (op_read rfl rfl (r_move (v := .int .i64 x_5) rfl) ?_)
      refine JL_op rfl (op_read rfl rfl (r_assign (v := .int .i64 x_5) rfl) ?_)
      refine JL_nil ?_
      refine J_then ?_
      refine J_seq ?_
      refine J_region ?_
      refine JL_op rfl (op_read rfl rfl (r_move (v := .func (.func 32) #[] #[.pointer (some (Addr.add a_3 0))]) rfl) ?_)
      refine JL_op rfl (op_read rfl rfl (r_move (v := v_1) rfl) ?_)
      refine JL_op rfl (op_read rfl rfl (r_move (v := .int .i64 x_5) rfl) ?_)
      refine J_bind fun x_10 hx_11 => ?_
      refine JL_op rfl (op_read rfl rfl (r_index_row (v := v_1) (T := (t_Gdiff_Leq).o) (q := x_10) 0 Try.pu23 Try.pi37 rfl rfl rfl rfl hx_11) ?_)
      refine JL_op rfl (op_reads rfl rfl (l_elem_orow (v := v_1) (T := (t_Gdiff_Leq).o) (Tf := t_Gdiff_Leq) (q := x_10) (i := x_5) (off := 0) 0 Try.pu37 Try.pi37 rfl rfl rfl rfl hx_11 (OFieldAt.self (T := (t_Gdiff_Leq).o)) (by decide)) ?_)
      intro v_12 h_13
      obtain rfl := t_Gdiff_Leq_v.1 h_13
      refine J_select (PV' := [.cell a_3 [.int .i64 f_4], .row (t_Gdiff_Leq).o 37 v_1 x_2]) [1, 0] (by decide) rfl ?_
      refine JL_op rfl (op_call (f := 32) (fn := Try.f32) (args := [.agg #[.int .i64 x_10.X, .int .i64 x_10.Y, .int .i64 x_10.C], .pointer (some (Addr.add a_3 0))]) (post := diff_fit_1_post σ (.agg #[.int .i64 x_10.X, .int .i64 x_10.Y, .int .i64 x_10.C]) x_10 a_3 f_4) [.cell a_3 [.int .i64 f_4]] [.row (t_Gdiff_Leq).o 37 v_1 x_2] rfl rfl rfl Try.func32 Try.pn32 rfl rfl (fun y st hy hpre => diff_fit_1_ref st σ (.agg #[.int .i64 x_10.X, .int .i64 x_10.Y, .int .i64 x_10.C]) x_10 (t_Gdiff_Leq_v.2 rfl) a_3 f_4 hpre y hy) ?_)
      intro r_14 v_16 s_19 PV_17 hr_15 hle_20 hp_18
      obtain ⟨rfl, rfl, rfl⟩ := hp_18
      refine JL_nil ?_
      refine J_then ?_
      refine J_cond rfl (fun hc_21 => ?_) (fun hc_21 => ?_)
      · refine J_seq ?_
        refine J_region ?_
        refine JL_op rfl (op_read rfl rfl (r_move (v := .int .i64 x_5) rfl) ?_)
        refine JL_op rfl (op_read rfl rfl (r_assign (v := .int .i64 x_5) rfl) ?_)
        refine JL_nil ?_
        refine J_then ?_
        refine J_ret ?_
        refine J_in_ret ?_
        refine J_then_ret ?_
        refine J_select (PV' := [.row (t_Gdiff_Leq).o 37 v_1 x_2, .cell a_3 [.int .i64 f_4]]) [1, 0] (by decide) rfl ?_
        refine J_done trivial _ ?_ ⟨rfl, rfl, rfl, rfl⟩
        exact ⟨rfl, trivial⟩
      · refine J_skip ?_
        refine J_in_normal ?_
        refine J_then ?_
        refine J_region ?_
        refine JL_op rfl (op_read rfl rfl (r_add rfl rfl) ?_)
        refine JL_op rfl (op_read rfl rfl (r_move (v := .int .i64 (IntKind.i64.wrap (x_5 + 1))) rfl) ?_)
        refine JL_nil ?_
        refine J_select (PV' := [.row (t_Gdiff_Leq).o 37 v_1 x_2, .cell a_3 [.int .i64 f_4]]) [1, 0] (by decide) rfl ?_
        refine J_next _ ?_ ⟨rfl, rfl, rfl⟩
        exact ⟨rfl, rfl, rfl, rfl, trivial⟩
    · refine J_exit ?_
      refine J_then_exit ?_
      refine J_done trivial _ ?_ ⟨rfl, rfl, rfl, rfl⟩
      exact trivial
  · rintro (y_23 | y_27) e L b τ PV ht
    · obtain ⟨rfl, ht⟩ := ht
      revert ht; revert PV; revert τ; revert b; revert L
      rintro _ b s_26 _ ⟨rfl, rfl, rfl⟩
      refine J_in_exit ?_
      refine J_then ?_
      refine J_seq ?_
      refine J_region ?_
      refine JL_op rfl (op_read rfl rfl (r_assign (v := .int .i64 (-1)) rfl) ?_)
      refine JL_nil ?_
      refine J_then ?_
      refine J_ret ?_
      exact J_returnV1 (PV' := [.row (t_Gdiff_Leq).o 37 v_1 x_2, .cell a_3 [.int .i64 f_4]]) rfl rv_tmp [0, 1] (by decide) rfl ⟨rfl, rfl, rfl⟩
    · obtain ⟨rfl, ht⟩ := ht
      revert ht; revert PV; revert τ; revert b; revert L
      rintro _ b s_30 _ ⟨rfl, rfl, rfl⟩
      refine J_in_ret ?_
      refine J_then_ret ?_
      exact J_returnV1 (PV' := [.row (t_Gdiff_Leq).o 37 v_1 x_2, .cell a_3 [.int .i64 f_4]]) rfl rv_tmp [0, 1] (by decide) rfl ⟨rfl, rfl, rfl⟩
def slices_ContainsFunc_post (σ0 : FS) (v_1 : Value) (x_2 : Sl Gdiff_Leq) (a_3 : Addr) (f_4 : Int) (r : Bool) (σ : FS) (PV : List Priv) (v : Value) : Prop :=
  σ0 = σ ∧ .bool r = v ∧ PV = [.row (t_Gdiff_Leq).o 37 v_1 x_2, .cell a_3 [.int .i64 f_4]]
set_option maxRecDepth 100000 in
theorem slices_ContainsFunc_ref (s : Start) (σ : FS) (v_1 : Value) (x_2 : Sl Gdiff_Leq) (a_3 : Addr) (f_4 : Int) (hs : Pre s σ [.row (t_Gdiff_Leq).o 37 v_1 x_2, .cell a_3 [.int .i64 f_4]]) (r : Bool) (hr : slices_ContainsFunc x_2 f_4 = some r) : Does Try.prog 22 [v_1, .func (.func 32) #[] #[.pointer (some (Addr.add a_3 0))]] s σ (slices_ContainsFunc_post σ v_1 x_2 a_3 f_4 r) := by
  unfold slices_ContainsFunc at hr
  refine does_of_J Try.func22 rfl (n := 9) rfl rfl hs hr ?_
  refine J_seq ?_
  refine J_region ?_
  refine JL_op rfl (op_read rfl rfl (r_assign (v := .bool false) rfl) ?_)
  refine JL_nil ?_
  refine J_then ?_
  refine J_seq ?_
  refine J_region ?_
  refine JL_op rfl (op_read rfl rfl (r_move (v := v_1) rfl) ?_)
  refine JL_op rfl (op_read rfl rfl (r_move (v := .func (.func 32) #[] #[.pointer (some (Addr.add a_3 0))]) rfl) ?_)
  refine JL_op rfl (op_call (f := 31) (fn := Try.f31) (args := [v_1, .func (.func 32) #[] #[.pointer (some (Addr.add a_3 0))]]) (post := slices_IndexFunc_post σ v_1 x_2 a_3 f_4) [.row (t_Gdiff_Leq).o 37 v_1 x_2, .cell a_3 [.int .i64 f_4]] [] rfl rfl rfl Try.func31 Try.pn31 rfl rfl (fun y st hy hpre => slices_IndexFunc_ref st σ v_1 x_2 a_3 f_4 hpre y hy) ?_)
  intro r_5 v_7 s_10 PV_8 hr_6 hle_11 hp_9
  obtain ⟨rfl, rfl, rfl⟩ := hp_9
  refine JL_op rfl (op_read rfl rfl (r_geq rfl rfl) ?_)
  refine JL_op rfl (op_read rfl rfl (r_assign (v := .bool (decide (0 ≤ r_5))) rfl) ?_)
  refine JL_nil ?_
  refine J_then ?_
  refine J_ret ?_
  exact J_returnV1 (PV' := [.row (t_Gdiff_Leq).o 37 v_1 x_2, .cell a_3 [.int .i64 f_4]]) rfl rv_tmp [0, 1] (by decide) rfl ⟨rfl, rfl, rfl⟩
def diff_fit_post (σ0 : FS) (n_1 : Int) (v_2 : Value) (x_3 : Sl Gdiff_Leq) (r : Int) (σ : FS) (PV : List Priv) (v : Value) : Prop :=
  σ0 = σ ∧ .int .i64 r = v ∧ PV = [.row (t_Gdiff_Leq).o 37 v_2 x_3]
set_option maxRecDepth 100000 in
theorem diff_fit_ref (s : Start) (σ : FS) (n_1 : Int) (v_2 : Value) (x_3 : Sl Gdiff_Leq) (hs : Pre s σ [.row (t_Gdiff_Leq).o 37 v_2 x_3]) (r : Int) (hr : diff_fit n_1 x_3 = some r) : Does Try.prog 28 [.int .i64 n_1, v_2] s σ (diff_fit_post σ n_1 v_2 x_3 r) := by
  unfold diff_fit at hr
  refine does_of_J Try.func28 rfl (n := 19) rfl rfl hs hr ?_
  refine J_seq ?_
  refine J_region ?_
  refine JL_op rfl (op_box (cs := [.int .i64 n_1]) rfl rfl ?_)
  intro c_4
  refine JL_op rfl (op_read rfl rfl (r_assign (v := .int .i64 0) rfl) ?_)
  refine JL_nil ?_
  refine J_then ?_
  refine J_seq ?_
  refine J_seq ?_
  refine J_region ?_
  refine JL_op rfl (op_read rfl rfl (r_move (v := v_2) rfl) ?_)
  refine JL_op rfl (op_read rfl rfl (r_len_row (v := v_2) 1 Try.pu23 rfl rfl) ?_)
  refine JL_op rfl (op_read rfl rfl (r_gtr rfl rfl) ?_)
  refine JL_nil ?_
  refine J_then ?_
  refine J_cond rfl (fun hc_6 => ?_) (fun hc_6 => ?_)
  · refine J_seq ?_
    refine J_region ?_
    refine JL_op rfl (op_read rfl rfl (r_assign (v := .int .i64 22) rfl) ?_)
    refine JL_nil ?_
    refine J_then ?_
    refine J_ret ?_
    refine J_then_ret ?_
    exact J_returnV1 (PV' := [.row (t_Gdiff_Leq).o 37 v_2 x_3]) rfl rv_tmp [1] (by decide) rfl ⟨rfl, rfl, rfl⟩
  · refine J_skip ?_
    refine J_then ?_
    refine J_seq ?_
    refine J_seq ?_
    refine J_region ?_
    refine JL_op rfl (op_read rfl rfl (r_load_priv (a := c_4) (off := 0) (cs' := [.int .i64 n_1]) (v := .int .i64 n_1) 0 Try.pu3 Try.pi3 rfl rfl rfl rfl (by decide) rfl) ?_)
    refine JL_op rfl (op_read rfl rfl (r_lss rfl rfl) ?_)
    refine JL_op rfl (op_read rfl rfl (r_move (v := .bool (decide (n_1 < 1))) rfl) ?_)
    refine J_forkL (e := (decide (n_1 < 1))) 3 [(1, v_2), (2, .pointer (some (Addr.add c_4 0))), (14, .bool (decide (n_1 < 1) || decide (96 < n_1)))] (fun hc_7 hk => ?_) (fun hc_7 hk => ?_) (fun b => ?_)
    · refine JL_skip rfl rfl hc_7 rfl rfl ?_
      refine JL_skip rfl rfl hc_7 rfl rfl ?_
      refine JL_op rfl (op_read rfl rfl (r_pick_t (v := .bool true) rfl hc_7 rfl) ?_)
      refine J_prune [(1, v_2), (2, .pointer (some (Addr.add c_4 0))), (14, .bool (decide (n_1 < 1) || decide (96 < n_1)))] ⟨rfl, rfl, (by show Value.bool _ = Value.bool _; rw [hc_7]; rfl), trivial⟩ hk
    · refine JL_opg rfl rfl hc_7 (op_read rfl rfl (r_load_priv (a := c_4) (off := 0) (cs' := [.int .i64 n_1]) (v := .int .i64 n_1) 0 Try.pu3 Try.pi3 rfl rfl rfl rfl (by decide) rfl) ?_)
      refine JL_opg rfl rfl hc_7 (op_read rfl rfl (r_gtr rfl rfl) ?_)
      refine JL_op rfl (op_read rfl rfl (r_pick_f (v := .bool (decide (96 < n_1))) rfl hc_7 rfl) ?_)
      refine J_prune [(1, v_2), (2, .pointer (some (Addr.add c_4 0))), (14, .bool (decide (n_1 < 1) || decide (96 < n_1)))] ⟨rfl, rfl, (by show Value.bool _ = Value.bool _; rw [hc_7]; rfl), trivial⟩ hk
    · refine JL_nil ?_
      refine J_then ?_
      refine J_cond rfl (fun hc_8 => ?_) (fun hc_8 => ?_)
      · refine J_seq ?_
        refine J_region ?_
        refine JL_op rfl (op_read rfl rfl (r_assign (v := .int .i64 2) rfl) ?_)
        refine JL_nil ?_
        refine J_then ?_
        refine J_ret ?_
        refine J_then_ret ?_
        exact J_returnV1 (PV' := [.row (t_Gdiff_Leq).o 37 v_2 x_3]) rfl rv_tmp [1] (by decide) rfl ⟨rfl, rfl, rfl⟩
      · refine J_skip ?_
        refine J_then ?_
        refine J_seq ?_
        refine J_region ?_
        refine JL_op rfl (op_read rfl rfl (r_makeFunc (fs := []) (cs := [.pointer (some (Addr.add c_4 0))]) rfl rfl) ?_)
        refine JL_op rfl (op_read rfl rfl (r_assign (v := .func (.func 32) #[] #[.pointer (some (Addr.add c_4 0))]) rfl) ?_)
        refine JL_nil ?_
        refine J_then ?_
        refine J_seq ?_
        refine J_seq ?_
        refine J_region ?_
        refine JL_op rfl (op_read rfl rfl (r_move (v := v_2) rfl) ?_)
        refine JL_op rfl (op_read rfl rfl (r_move (v := .func (.func 32) #[] #[.pointer (some (Addr.add c_4 0))]) rfl) ?_)
        refine J_select (PV' := [.row (t_Gdiff_Leq).o 37 v_2 x_3, .cell c_4 [.int .i64 n_1]]) [1, 0] (by decide) rfl ?_
        refine JL_op rfl (op_call (f := 22) (fn := Try.f22) (args := [v_2, .func (.func 32) #[] #[.pointer (some (Addr.add c_4 0))]]) (post := slices_ContainsFunc_post σ v_2 x_3 c_4 n_1) [.row (t_Gdiff_Leq).o 37 v_2 x_3, .cell c_4 [.int .i64 n_1]] [] rfl rfl rfl Try.func22 Try.pn22 rfl rfl (fun y st hy hpre => slices_ContainsFunc_ref st σ v_2 x_3 c_4 n_1 hpre y hy) ?_)
        intro r_9 v_11 s_14 PV_12 hr_10 hle_15 hp_13
        obtain ⟨rfl, rfl, rfl⟩ := hp_13
        refine JL_nil ?_
        refine J_then ?_
        refine J_cond rfl (fun hc_16 => ?_) (fun hc_16 => ?_)
        · refine J_seq ?_
          refine J_region ?_
          refine JL_op rfl (op_read rfl rfl (r_assign (v := .int .i64 2) rfl) ?_)
          refine JL_nil ?_
          refine J_then ?_
          refine J_ret ?_
          refine J_then_ret ?_
          exact J_returnV1 (PV' := [.row (t_Gdiff_Leq).o 37 v_2 x_3]) rfl rv_tmp [0] (by decide) rfl ⟨rfl, rfl, rfl⟩
        · refine J_skip ?_
          refine J_then ?_
          refine J_seq ?_
          refine J_region ?_
          refine JL_op rfl (op_read rfl rfl (r_assign (v := .int .i64 0) rfl) ?_)
          refine JL_nil ?_
          refine J_then ?_
          refine J_ret ?_
          exact J_returnV1 (PV' := [.row (t_Gdiff_Leq).o 37 v_2 x_3]) rfl rv_tmp [0] (by decide) rfl ⟨rfl, rfl, rfl⟩
def diff_solve_post (σ0 : FS) (n_1 : Int) (v_2 : Value) (x_3 : Sl Gdiff_Leq) (r : (Sl Int) × (Sl Int)) (σ : FS) (PV : List Priv) (v : Value) : Prop :=
  ∃ (w0 : Value) (w1 : Value), σ0 = σ ∧ .tuple #[w0, w1] = v ∧ PV = [.row ((tInt .i64)).o 2 w0 r.1, .row ((tInt .i64)).o 3 w1 r.2, .row (t_Gdiff_Leq).o 37 v_2 x_3]
set_option maxRecDepth 100000 in
theorem diff_solve_ref (s : Start) (σ : FS) (n_1 : Int) (v_2 : Value) (x_3 : Sl Gdiff_Leq) (hs : Pre s σ [.row (t_Gdiff_Leq).o 37 v_2 x_3]) (r : (Sl Int) × (Sl Int)) (hr : diff_solve n_1 x_3 = some r) : Does Try.prog 29 [.int .i64 n_1, v_2] s σ (diff_solve_post σ n_1 v_2 x_3 r) := by
  unfold diff_solve at hr
  refine does_of_J Try.func29 rfl (n := 96) rfl rfl hs hr ?_
  refine J_seq ?_
  refine J_region ?_
  refine JL_op rfl (op_read rfl rfl (r_assign (v := .slice none 0 0) rfl) ?_)
  refine JL_op rfl (op_read rfl rfl (r_assign (v := .slice none 0 0) rfl) ?_)
  refine JL_nil ?_
  refine J_then ?_
  refine J_seq ?_
  refine J_region ?_
  refine JL_op rfl (op_read rfl rfl (r_move (v := .int .i64 n_1) rfl) ?_)
  refine JL_op rfl (op_make (ti := Try.t2) (T := ((tInt .i64)).o) (q := 0) rfl Try.pu30 Try.pi2 rfl rfl rfl rfl rfl (fun σ => rfl) ?_)
  intro s_6 v_4 hs_7
  refine JL_op rfl (op_read rfl rfl (r_assign (v := v_4) rfl) ?_)
  refine JL_nil ?_
  refine J_then ?_
  refine J_seq ?_
  refine J_region ?_
  refine JL_op rfl (op_read rfl rfl (r_move (v := .int .i64 n_1) rfl) ?_)
  refine JL_op rfl (op_known hs_7 (op_make (ti := Try.t3) (T := ((tInt .i64)).o) (q := 0) rfl Try.pu22 Try.pi3 rfl rfl rfl rfl rfl (fun σ => rfl) ?_))
  intro z_10 v_8 hz_11
  obtain rfl := Option.some.inj (hs_7.symm.trans hz_11)
  refine JL_op rfl (op_read rfl rfl (r_assign (v := v_8) rfl) ?_)
  refine JL_nil ?_
  refine J_then ?_
  refine J_seq ?_
  refine J_region ?_
  refine JL_op rfl (op_read rfl rfl (r_assign (v := .int .i64 (-1)) rfl) ?_)
  refine JL_nil ?_
  refine J_then ?_
  refine J_seq ?_
  refine J_seq ?_
  refine J_region ?_
  refine JL_op rfl (op_read rfl rfl (r_move (v := .int .i64 n_1) rfl) ?_)
  refine JL_op rfl (op_read rfl rfl (r_move (v := .int .i64 0) rfl) ?_)
  refine JL_nil ?_
  refine J_then ?_
  refine J_block ?_
  refine J_select (PV' := [.row (t_Gdiff_Leq).o 37 v_2 x_3, .row ((tInt .i64)).o 2 v_4 s_6, .row ((tInt .i64)).o 3 v_8 s_6]) [2, 1, 0] (by decide) rfl ?_
  refine J_loop (fun (y : (Sl Int) × (Sl Int) × Int × Int) L τ PV => σ = τ ∧ L = [(0, .int .i64 n_1), (1, v_2), (6, v_4), (7, v_8), (8, .int .i64 y.2.2.1), (20, .int .i64 n_1), (21, .int .i64 y.2.2.2)] ∧ PV = [.row (t_Gdiff_Leq).o 37 v_2 x_3, .row ((tInt .i64)).o 2 v_4 y.1, .row ((tInt .i64)).o 3 v_8 y.2.1]) (fun (y : W2 ((Sl Int) × Int) ((Sl Int))) e L τ PV => match y, e with | .a y, e => e = .exit 0 ∧ (σ = τ ∧ L = [(0, .int .i64 n_1), (1, v_2), (7, v_8), (8, .int .i64 y.2)] ∧ PV = [.row (t_Gdiff_Leq).o 37 v_2 x_3, .row ((tInt .i64)).o 3 v_8 y.1]) | .b y, e => e = .ret ∧ (σ = τ ∧ L = [(4, v_4), (5, .slice none 0 0)] ∧ PV = [.row ((tInt .i64)).o 2 v_4 y, .row (t_Gdiff_Leq).o 37 v_2 x_3])) _ ?_ ⟨rfl, rfl, rfl⟩ ?_ ?_
  · exact ⟨rfl, rfl, rfl, rfl, rfl, rfl, rfl, trivial⟩
  · rintro x_12 _ b s_15 _ ⟨rfl, rfl, rfl⟩
    unfold diff_solve_L2
    refine J_seq ?_
    refine J_region ?_
    refine JL_op rfl (op_read rfl rfl (r_lss rfl rfl) ?_)
    refine JL_nil ?_
    refine J_then ?_
    refine J_seq ?_
    refine J_cond rfl (fun hc_16 => ?_) (fun hc_16 => ?_)
    · refine J_skip ?_
      refine J_then ?_
      refine J_seq ?_
      refine J_block ?_
      refine J_seq ?_
      refine J_region ?_
      refine JL_op rfl (op_read rfl rfl (r_assign (v := .int .i64 (-1)) rfl) ?_)
      refine JL_nil ?_
      refine J_then ?_
      refine J_seq ?_
      refine J_seq ?_
      refine J_region ?_
      refine JL_op rfl (op_read rfl rfl (r_move (v := v_2) rfl) ?_)
      refine JL_op rfl (op_read rfl rfl (r_len_row (v := v_2) 0 Try.pu23 rfl rfl) ?_)
      refine JL_op rfl (op_read rfl rfl (r_move (v := .int .i64 0) rfl) ?_)
      refine JL_nil ?_
      refine J_then ?_
      refine J_block ?_
      refine J_loop (fun (y : (Sl Int) × (Sl Int) × Int × Int) L τ PV => σ = τ ∧ L = [(0, .int .i64 n_1), (1, v_2), (6, v_4), (7, v_8), (8, .int .i64 y.2.2.1), (20, .int .i64 n_1), (21, .int .i64 x_12.2.2.2), (23, v_2), (24, .int .i64 x_3.len), (25, .int .i64 y.2.2.2)] ∧ PV = [.row (t_Gdiff_Leq).o 37 v_2 x_3, .row ((tInt .i64)).o 2 v_4 y.1, .row ((tInt .i64)).o 3 v_8 y.2.1]) (fun (y : (Sl Int) × (Sl Int) × Int) e L τ PV => e = .exit 2 ∧ (σ = τ ∧ L = [(0, .int .i64 n_1), (1, v_2), (6, v_4), (7, v_8), (8, .int .i64 y.2.2), (20, .int .i64 n_1), (21, .int .i64 x_12.2.2.2)] ∧ PV = [.row (t_Gdiff_Leq).o 37 v_2 x_3, .row ((tInt .i64)).o 2 v_4 y.1, .row ((tInt .i64)).o 3 v_8 y.2.1])) _ ?_ ⟨rfl, rfl, rfl⟩ ?_ ?_
      · exact ⟨rfl, rfl, rfl, rfl, rfl, rfl, rfl, rfl, rfl, rfl, trivial⟩
      · rintro x_17 _ b s_20 _ ⟨rfl, rfl, rfl⟩
        unfold diff_solve_L1
        refine J_seq ?_
        refine J_region ?_
        refine JL_op rfl (op_read rfl rfl (r_lss rfl rfl) ?_)
        refine JL_nil ?_
        refine J_then ?_
        refine J_seq ?_
        refine J_cond rfl (fun hc_21 => ?_) (fun hc_21 => ?_)
        · refine J_skip ?_
          refine J_then ?_
          refine J_seq ?_
          refine J_cut (fun (y : (Sl Int) × (Sl Int) × Int) e L τ PV => e = .normal ∧ (σ = τ ∧ L = [(0, .int .i64 n_1), (1, v_2), (6, v_4), (7, v_8), (8, .int .i64 y.2.2), (20, .int .i64 n_1), (21, .int .i64 x_12.2.2.2), (23, v_2), (24, .int .i64 x_3.len), (25, .int .i64 x_17.2.2.2)] ∧ PV = [.row (t_Gdiff_Leq).o 37 v_2 x_3, .row ((tInt .i64)).o 2 v_4 y.1, .row ((tInt .i64)).o 3 v_8 y.2.1])) ?_ ?_
          · refine J_block ?_
            refine J_seq ?_
            refine J_region ?_
            refine JL_op rfl (op_read rfl rfl (r_move (v := .int .i64 x_17.2.2.2) rfl) ?_)
            refine J_bind fun x_22 hx_23 => ?_
            refine JL_op rfl (op_read rfl rfl (r_index_row (v := v_2) (T := (t_Gdiff_Leq).o) (q := x_22) 0 Try.pu23 Try.pi37 rfl rfl rfl rfl hx_23) ?_)
            refine JL_op rfl (op_reads rfl rfl (l_elem_orow (v := v_2) (T := (t_Gdiff_Leq).o) (Tf := t_Gdiff_Leq) (q := x_22) (i := x_17.2.2.2) (off := 0) 0 Try.pu37 Try.pi37 rfl rfl rfl rfl hx_23 (OFieldAt.self (T := (t_Gdiff_Leq).o)) (by decide)) ?_)
            intro v_24 h_25
            obtain rfl := t_Gdiff_Leq_v.1 h_25
            refine JL_op rfl (op_alloc (cs := [.int .i64 0, .int .i64 0, .int .i64 0]) rfl Try.pi37 rfl rfl ?_)
            intro c_26
            refine JL_op rfl (op_read rfl rfl (r_assign (v := .int .i64 x_17.2.2.2) rfl) ?_)
            refine JL_op rfl (op_store_priv (a := c_26) (off := 0) (vs := [.int .i64 x_22.X, .int .i64 x_22.Y, .int .i64 x_22.C]) (cs' := [.int .i64 x_22.X, .int .i64 x_22.Y, .int .i64 x_22.C]) (PV' := [.cell c_26 [.int .i64 x_22.X, .int .i64 x_22.Y, .int .i64 x_22.C], .row (t_Gdiff_Leq).o 37 v_2 x_3, .row ((tInt .i64)).o 2 v_4 x_17.1, .row ((tInt .i64)).o 3 v_8 x_17.2.1]) 0 Try.pi37 rfl rfl rfl ⟨rfl, rfl, rfl, trivial⟩ rfl rfl rfl rfl rfl ?_)
            refine JL_nil ?_
            refine J_then ?_
            refine J_seq ?_
            refine J_region_any 9 [.cell c_26 [.int .i64 x_22.X, .int .i64 x_22.Y, .int .i64 x_22.C], .row (t_Gdiff_Leq).o 37 v_2 x_3, .row ((tInt .i64)).o 2 v_4 x_17.1, .row ((tInt .i64)).o 3 v_8 x_17.2.1] Try.mixed (by kernel_rfl) fun hns => ?_
            have hS_28 : HeldOK σ [.cell c_26 [.int .i64 x_22.X, .int .i64 x_22.Y, .int .i64 x_22.C], .row (t_Gdiff_Leq).o 37 v_2 x_3, .row ((tInt .i64)).o 2 v_4 x_17.1, .row ((tInt .i64)).o 3 v_8 x_17.2.1] σ [.cell c_26 [.int .i64 x_22.X, .int .i64 x_22.Y, .int .i64 x_22.C], .row (t_Gdiff_Leq).o 37 v_2 x_3, .row ((tInt .i64)).o 2 v_4 x_17.1, .row ((tInt .i64)).o 3 v_8 x_17.2.1] := HeldOK.same [0, 1, 2, 3] (by decide) rfl
            refine JA_takep 0 rfl hns (by kernel_rfl) (by kernel_rfl) rfl (.inr hS_28) rfl rfl rfl (r_move (v := v_4) rfl) ?_
            refine JA_takep 1 rfl hns (by kernel_rfl) (by kernel_rfl) rfl (.inr hS_28) rfl rfl rfl (r_fieldAddr (r := Addr.add c_26 1) Try.pu37 (f := Try.pf37.getD 1 default) rfl Try.pi3 (by decide) rfl (Addr.add_add _ _ _)) ?_
            refine JA_take 2 rfl hns (by kernel_rfl) (by kernel_rfl) (by kernel_rfl) rfl (by kernel_rfl) hS_28 rfl rfl rfl (r_load_priv (a := c_26) (off := 1) (cs' := [.int .i64 x_22.Y]) (v := .int .i64 x_22.Y) 0 Try.pu3 Try.pi3 rfl rfl rfl rfl (by decide) rfl) ?_
            refine J_bind fun x_29 hx_30 => ?_
            refine JA_take 3 rfl hns (by kernel_rfl) (by kernel_rfl) (by kernel_rfl) rfl (by kernel_rfl) hS_28 rfl rfl rfl (r_index_row (v := v_4) (T := ((tInt .i64)).o) (q := x_29) 2 Try.pu30 Try.pi2 rfl rfl rfl rfl hx_30) ?_
            refine JA_takes 4 rfl hns (by kernel_rfl) (by kernel_rfl) (by kernel_rfl) rfl (by kernel_rfl) hS_28 rfl rfl rfl (l_elem_orow (v := v_4) (T := ((tInt .i64)).o) (Tf := (tInt .i64)) (q := x_29) (i := x_22.Y) (off := 0) 2 Try.pu2 Try.pi2 rfl rfl rfl rfl hx_30 (OFieldAt.self (T := ((tInt .i64)).o)) (by decide)) ?_
            intro v_31 h_32
            obtain rfl := tInt_v.1 h_32
            refine JA_takep 5 rfl hns (by kernel_rfl) (by kernel_rfl) rfl (.inr hS_28) rfl rfl rfl (r_fieldAddr (r := Addr.add c_26 2) Try.pu37 (f := Try.pf37.getD 2 default) rfl Try.pi2 (by decide) rfl (Addr.add_add _ _ _)) ?_
            refine JA_take 6 rfl hns (by kernel_rfl) (by kernel_rfl) (by kernel_rfl) rfl (by kernel_rfl) hS_28 rfl rfl rfl (r_load_priv (a := c_26) (off := 2) (cs' := [.int .i64 x_22.C]) (v := .int .i64 x_22.C) 0 Try.pu2 Try.pi2 rfl rfl rfl rfl (by decide) rfl) ?_
            refine JA_takep 7 rfl hns (by kernel_rfl) (by kernel_rfl) rfl (.inr hS_28) rfl rfl rfl (r_add rfl rfl) ?_
            refine JA_takep 8 rfl hns (by kernel_rfl) (by kernel_rfl) rfl (.inr hS_28) rfl rfl rfl (r_assign (v := .int .i64 (IntKind.i64.wrap (x_29 + x_22.C))) rfl) ?_
            refine JA_done (by kernel_rfl) ?_
            refine J_then ?_
            refine J_seq ?_
            refine J_region ?_
            refine JL_op rfl (op_read rfl rfl (r_move (v := .int .i64 (IntKind.i64.wrap (x_29 + x_22.C))) rfl) ?_)
            refine JL_op rfl (op_read rfl rfl (r_move (v := v_4) rfl) ?_)
            refine JL_op rfl (op_read rfl rfl (r_fieldAddr (r := Addr.add c_26 0) Try.pu37 (f := Try.pf37.getD 0 default) rfl Try.pi3 (by decide) rfl (Addr.add_add _ _ _)) ?_)
            refine JL_op rfl (op_read rfl rfl (r_load_priv (a := c_26) (off := 0) (cs' := [.int .i64 x_22.X]) (v := .int .i64 x_22.X) 0 Try.pu3 Try.pi3 rfl rfl rfl rfl (by decide) rfl) ?_)
            refine J_bind fun x_33 hx_34 => ?_
            refine JL_op rfl (op_read rfl rfl (r_index_row (v := v_4) (T := ((tInt .i64)).o) (q := x_33) 2 Try.pu30 Try.pi2 rfl rfl rfl rfl hx_34) ?_)
            refine JL_op rfl (op_reads rfl rfl (l_elem_orow (v := v_4) (T := ((tInt .i64)).o) (Tf := (tInt .i64)) (q := x_33) (i := x_22.X) (off := 0) 2 Try.pu2 Try.pi2 rfl rfl rfl rfl hx_34 (OFieldAt.self (T := ((tInt .i64)).o)) (by decide)) ?_)
            intro v_35 h_36
            obtain rfl := tInt_v.1 h_36
            refine JL_op rfl (op_read rfl rfl (r_lss rfl rfl) ?_)
            refine JL_nil ?_
            refine J_then ?_
            refine J_cut (fun (y : (Sl Int) × (Sl Int) × Int) e L τ PV => e = .normal ∧ (σ = τ ∧ L = [(0, .int .i64 n_1), (1, v_2), (6, v_4), (7, v_8), (8, .int .i64 y.2.2), (20, .int .i64 n_1), (21, .int .i64 x_12.2.2.2), (23, v_2), (24, .int .i64 x_3.len), (25, .int .i64 x_17.2.2.2)] ∧ PV = [.row (t_Gdiff_Leq).o 37 v_2 x_3, .row ((tInt .i64)).o 2 v_4 y.1, .row ((tInt .i64)).o 3 v_8 y.2.1])) ?_ ?_
            · refine J_cond rfl (fun hc_37 => ?_) (fun hc_37 => ?_)
              · refine J_region_any 10 [.cell c_26 [.int .i64 x_22.X, .int .i64 x_22.Y, .int .i64 x_22.C], .row (t_Gdiff_Leq).o 37 v_2 x_3, .row ((tInt .i64)).o 2 v_4 x_17.1, .row ((tInt .i64)).o 3 v_8 x_17.2.1] Try.mixed (by kernel_rfl) fun hns => ?_
                have hS_38 : HeldOK σ [.cell c_26 [.int .i64 x_22.X, .int .i64 x_22.Y, .int .i64 x_22.C], .row (t_Gdiff_Leq).o 37 v_2 x_3, .row ((tInt .i64)).o 2 v_4 x_17.1, .row ((tInt .i64)).o 3 v_8 x_17.2.1] σ [.cell c_26 [.int .i64 x_22.X, .int .i64 x_22.Y, .int .i64 x_22.C], .row (t_Gdiff_Leq).o 37 v_2 x_3, .row ((tInt .i64)).o 2 v_4 x_17.1, .row ((tInt .i64)).o 3 v_8 x_17.2.1] := HeldOK.same [0, 1, 2, 3] (by decide) rfl
                refine JA_takep 0 rfl hns (by kernel_rfl) (by kernel_rfl) rfl (.inr hS_38) rfl rfl rfl (r_move (v := v_4) rfl) ?_
                refine JA_takep 1 rfl hns (by kernel_rfl) (by kernel_rfl) rfl (.inr hS_38) rfl rfl rfl (r_fieldAddr (r := Addr.add c_26 0) Try.pu37 (f := Try.pf37.getD 0 default) rfl Try.pi3 (by decide) rfl (Addr.add_add _ _ _)) ?_
                refine JA_take 2 rfl hns (by kernel_rfl) (by kernel_rfl) (by kernel_rfl) rfl (by kernel_rfl) hS_38 rfl rfl rfl (r_load_priv (a := c_26) (off := 0) (cs' := [.int .i64 x_22.X]) (v := .int .i64 x_22.X) 0 Try.pu3 Try.pi3 rfl rfl rfl rfl (by decide) rfl) ?_
                refine JA_takep 3 rfl hns (by kernel_rfl) (by kernel_rfl) rfl (.inr hS_38) rfl rfl rfl (r_move (v := v_8) rfl) ?_
                refine JA_takep 4 rfl hns (by kernel_rfl) (by kernel_rfl) rfl (.inr hS_38) rfl rfl rfl (r_fieldAddr (r := Addr.add c_26 0) Try.pu37 (f := Try.pf37.getD 0 default) rfl Try.pi3 (by decide) rfl (Addr.add_add _ _ _)) ?_
                refine JA_takep 6 rfl hns (by kernel_rfl) (by kernel_rfl) rfl (.inr hS_38) rfl rfl rfl (r_move (v := .int .i64 (IntKind.i64.wrap (x_29 + x_22.C))) rfl) ?_
                refine JA_takep 7 rfl hns (by kernel_rfl) (by kernel_rfl) rfl (.inr hS_38) rfl rfl rfl (r_move (v := .int .i64 x_17.2.2.2) rfl) ?_
                refine JA_takep 8 rfl hns (by kernel_rfl) (by kernel_rfl) rfl (.inr hS_38) rfl rfl rfl (r_move (v := .int .i64 x_17.2.2.2) rfl) ?_
                refine JA_take 9 rfl hns (by kernel_rfl) (by kernel_rfl) (by kernel_rfl) rfl (by kernel_rfl) hS_38 rfl rfl rfl (r_index_row (v := v_4) (T := ((tInt .i64)).o) (q := x_33) 2 Try.pu30 Try.pi2 rfl rfl rfl rfl hx_34) ?_
                refine J_bind fun k_39 hk_40 => ?_
                refine J_bind fun k_41 hk_42 => ?_
                refine J_bind fun k_43 hk_44 => ?_
                refine J_meetD (fun y => diff_solve_K1 k_39 k_43 x_17 y) 0 #[true, true, true, true, true, true, true, true, true, true, true, true, true, true] (fun (y : Unit) L τ PV => σ = τ ∧ L = [(0, .int .i64 n_1), (1, v_2), (6, v_4), (7, v_8), (8, .int .i64 x_17.2.2.2), (20, .int .i64 n_1), (21, .int .i64 x_12.2.2.2), (23, v_2), (24, .int .i64 x_3.len), (25, .int .i64 x_17.2.2.2)] ∧ PV = [.row (t_Gdiff_Leq).o 37 v_2 x_3, .row ((tInt .i64)).o 2 v_4 k_39, .row ((tInt .i64)).o 3 v_8 k_43]) (fun hk => ?_) ?_
                · refine JA_two (i := 5) (j := 10) (by kernel_rfl) ?_ ?_
                  · refine J1_op rfl rfl (op_read rfl rfl (r_load_priv (a := c_26) (off := 0) (cs' := [.int .i64 x_22.X]) (v := .int .i64 x_22.X) 0 Try.pu3 Try.pi3 rfl rfl rfl rfl (by decide) rfl) ?_)
                    have hS_49 : HeldOK σ [.cell c_26 [.int .i64 x_22.X, .int .i64 x_22.Y, .int .i64 x_22.C], .row (t_Gdiff_Leq).o 37 v_2 x_3, .row ((tInt .i64)).o 2 v_4 x_17.1, .row ((tInt .i64)).o 3 v_8 x_17.2.1] σ [.cell c_26 [.int .i64 x_22.X, .int .i64 x_22.Y, .int .i64 x_22.C], .row (t_Gdiff_Leq).o 37 v_2 x_3, .row ((tInt .i64)).o 2 v_4 x_17.1, .row ((tInt .i64)).o 3 v_8 x_17.2.1] := HeldOK.same [0, 1, 2, 3] (by decide) rfl
                    refine ⟨.inr hS_49, ?_⟩
                    refine J_select (PV' := [.row ((tInt .i64)).o 2 v_4 x_17.1, .cell c_26 [.int .i64 x_22.X, .int .i64 x_22.Y, .int .i64 x_22.C], .row (t_Gdiff_Leq).o 37 v_2 x_3, .row ((tInt .i64)).o 3 v_8 x_17.2.1]) [2, 0, 1, 3] (by decide) rfl ?_
                    have hS_50 : HeldOK σ [.cell c_26 [.int .i64 x_22.X, .int .i64 x_22.Y, .int .i64 x_22.C], .row (t_Gdiff_Leq).o 37 v_2 x_3, .row ((tInt .i64)).o 2 v_4 x_17.1, .row ((tInt .i64)).o 3 v_8 x_17.2.1] σ [.row ((tInt .i64)).o 2 v_4 x_17.1, .cell c_26 [.int .i64 x_22.X, .int .i64 x_22.Y, .int .i64 x_22.C], .row (t_Gdiff_Leq).o 37 v_2 x_3, .row ((tInt .i64)).o 3 v_8 x_17.2.1] := HeldOK.same [1, 2, 0, 3] (by decide) rfl
                    refine JA_op (i := 10) (by kernel_rfl) rfl rfl (op_known hk_40 (op_store_row (v := v_4) (u := (.int .i64 (IntKind.i64.wrap (x_29 + x_22.C)))) (T := ((tInt .i64)).o) (q := (IntKind.i64.wrap (x_29 + x_22.C))) (i := x_22.X) [] [.cell c_26 [.int .i64 x_22.X, .int .i64 x_22.Y, .int .i64 x_22.C], .row (t_Gdiff_Leq).o 37 v_2 x_3, .row ((tInt .i64)).o 3 v_8 x_17.2.1] Try.pi2 rfl rfl rfl rfl (fix_vrel (T := ((tInt .i64)).o) rfl (tInt_v.2 rfl)) ?_))
                    intro z_51 hz_52
                    obtain rfl := Option.some.inj (hk_40.symm.trans hz_52)
                    refine ⟨.inl (.inl rfl), ?_⟩
                    refine JA_op (i := 11) (by kernel_rfl) rfl rfl (op_read rfl rfl (r_index_row (v := v_8) (T := ((tInt .i64)).o) (q := k_41) 3 Try.pu22 Try.pi3 rfl rfl rfl rfl hk_42) ?_)
                    refine ⟨.inl (.inr rfl), ?_⟩
                    refine J_select (PV' := [.row ((tInt .i64)).o 3 v_8 x_17.2.1, .row ((tInt .i64)).o 2 v_4 k_39, .cell c_26 [.int .i64 x_22.X, .int .i64 x_22.Y, .int .i64 x_22.C], .row (t_Gdiff_Leq).o 37 v_2 x_3]) [3, 0, 1, 2] (by decide) rfl ?_
                    refine JA_op (i := 12) (by kernel_rfl) rfl rfl (op_known hk_44 (op_store_row (v := v_8) (u := (.int .i64 x_17.2.2.2)) (T := ((tInt .i64)).o) (q := x_17.2.2.2) (i := x_22.X) [] [.row ((tInt .i64)).o 2 v_4 k_39, .cell c_26 [.int .i64 x_22.X, .int .i64 x_22.Y, .int .i64 x_22.C], .row (t_Gdiff_Leq).o 37 v_2 x_3] Try.pi3 rfl rfl rfl rfl (fix_vrel (T := ((tInt .i64)).o) rfl (tInt_v.2 rfl)) ?_))
                    intro z_54 hz_55
                    obtain rfl := Option.some.inj (hk_44.symm.trans hz_55)
                    refine ⟨.inl (.inr rfl), ?_⟩
                    refine JA_takep 13 rfl hns (by kernel_rfl) (by kernel_rfl) rfl (.inl rfl) rfl rfl rfl (r_assign (v := .int .i64 x_17.2.2.2) rfl) ?_
                    refine J_select (PV' := [.row (t_Gdiff_Leq).o 37 v_2 x_3, .row ((tInt .i64)).o 2 v_4 k_39, .row ((tInt .i64)).o 3 v_8 k_43]) [3, 1, 0] (by decide) rfl ?_
                    refine J_prune _ ?_ fun b => hk () _ b _ _ ⟨rfl, rfl, rfl⟩
                    exact ⟨rfl, rfl, rfl, rfl, rfl, rfl, rfl, rfl, rfl, rfl, trivial⟩
                  · refine J_select (PV' := [.row ((tInt .i64)).o 2 v_4 x_17.1, .cell c_26 [.int .i64 x_22.X, .int .i64 x_22.Y, .int .i64 x_22.C], .row (t_Gdiff_Leq).o 37 v_2 x_3, .row ((tInt .i64)).o 3 v_8 x_17.2.1]) [2, 0, 1, 3] (by decide) rfl ?_
                    have hS_56 : HeldOK σ [.cell c_26 [.int .i64 x_22.X, .int .i64 x_22.Y, .int .i64 x_22.C], .row (t_Gdiff_Leq).o 37 v_2 x_3, .row ((tInt .i64)).o 2 v_4 x_17.1, .row ((tInt .i64)).o 3 v_8 x_17.2.1] σ [.row ((tInt .i64)).o 2 v_4 x_17.1, .cell c_26 [.int .i64 x_22.X, .int .i64 x_22.Y, .int .i64 x_22.C], .row (t_Gdiff_Leq).o 37 v_2 x_3, .row ((tInt .i64)).o 3 v_8 x_17.2.1] := HeldOK.same [1, 2, 0, 3] (by decide) rfl
                    refine J1_op rfl rfl (op_known hk_40 (op_store_row (v := v_4) (u := (.int .i64 (IntKind.i64.wrap (x_29 + x_22.C)))) (T := ((tInt .i64)).o) (q := (IntKind.i64.wrap (x_29 + x_22.C))) (i := x_22.X) [] [.cell c_26 [.int .i64 x_22.X, .int .i64 x_22.Y, .int .i64 x_22.C], .row (t_Gdiff_Leq).o 37 v_2 x_3, .row ((tInt .i64)).o 3 v_8 x_17.2.1] Try.pi2 rfl rfl rfl rfl (fix_vrel (T := ((tInt .i64)).o) rfl (tInt_v.2 rfl)) ?_))
                    intro z_57 hz_58
                    obtain rfl := Option.some.inj (hk_40.symm.trans hz_58)
                    refine ⟨.inl (.inl rfl), ?_⟩
                    refine JA_op (i := 5) (by kernel_rfl) rfl rfl (op_read rfl rfl (r_load_priv (a := c_26) (off := 0) (cs' := [.int .i64 x_22.X]) (v := .int .i64 x_22.X) 1 Try.pu3 Try.pi3 rfl rfl rfl rfl (by decide) rfl) ?_)
                    refine ⟨.inl (.inr rfl), ?_⟩
                    refine JA_op (i := 11) (by kernel_rfl) rfl rfl (op_read rfl rfl (r_index_row (v := v_8) (T := ((tInt .i64)).o) (q := k_41) 3 Try.pu22 Try.pi3 rfl rfl rfl rfl hk_42) ?_)
                    refine ⟨.inl (.inr rfl), ?_⟩
                    refine J_select (PV' := [.row ((tInt .i64)).o 3 v_8 x_17.2.1, .row ((tInt .i64)).o 2 v_4 k_39, .cell c_26 [.int .i64 x_22.X, .int .i64 x_22.Y, .int .i64 x_22.C], .row (t_Gdiff_Leq).o 37 v_2 x_3]) [3, 0, 1, 2] (by decide) rfl ?_
                    refine JA_op (i := 12) (by kernel_rfl) rfl rfl (op_known hk_44 (op_store_row (v := v_8) (u := (.int .i64 x_17.2.2.2)) (T := ((tInt .i64)).o) (q := x_17.2.2.2) (i := x_22.X) [] [.row ((tInt .i64)).o 2 v_4 k_39, .cell c_26 [.int .i64 x_22.X, .int .i64 x_22.Y, .int .i64 x_22.C], .row (t_Gdiff_Leq).o 37 v_2 x_3] Try.pi3 rfl rfl rfl rfl (fix_vrel (T := ((tInt .i64)).o) rfl (tInt_v.2 rfl)) ?_))
                    intro z_60 hz_61
                    obtain rfl := Option.some.inj (hk_44.symm.trans hz_61)
                    refine ⟨.inl (.inr rfl), ?_⟩
                    refine JA_takep 13 rfl hns (by kernel_rfl) (by kernel_rfl) rfl (.inl rfl) rfl rfl rfl (r_assign (v := .int .i64 x_17.2.2.2) rfl) ?_
                    refine J_select (PV' := [.row (t_Gdiff_Leq).o 37 v_2 x_3, .row ((tInt .i64)).o 2 v_4 k_39, .row ((tInt .i64)).o 3 v_8 k_43]) [3, 1, 0] (by decide) rfl ?_
                    refine J_prune _ ?_ fun b => hk () _ b _ _ ⟨rfl, rfl, rfl⟩
                    exact ⟨rfl, rfl, rfl, rfl, rfl, rfl, rfl, rfl, rfl, rfl, trivial⟩
                · rintro y_45 _ b s_48 _ ⟨rfl, rfl, rfl⟩
                  unfold diff_solve_K1
                  refine JA_done (by kernel_rfl) ?_
                  refine J_cut_end _ ?_ ⟨rfl, rfl, rfl, rfl⟩ trivial
                  exact ⟨rfl, rfl, rfl, rfl, rfl, rfl, rfl, rfl, rfl, rfl, trivial⟩
              · refine J_skip ?_
                refine J_select (PV' := [.row (t_Gdiff_Leq).o 37 v_2 x_3, .row ((tInt .i64)).o 2 v_4 x_17.1, .row ((tInt .i64)).o 3 v_8 x_17.2.1]) [1, 2, 3] (by decide) rfl ?_
                refine J_cut_end _ ?_ ⟨rfl, rfl, rfl, rfl⟩ trivial
                exact ⟨rfl, rfl, rfl, rfl, rfl, rfl, rfl, rfl, rfl, rfl, trivial⟩
            · rintro y_62 _ _ b s_65 _ ⟨rfl, ⟨rfl, rfl, rfl⟩⟩
              refine J_in_normal ?_
              refine J_cut_end _ ?_ ⟨rfl, rfl, rfl, rfl⟩ trivial
              exact ⟨rfl, rfl, rfl, rfl, rfl, rfl, rfl, rfl, rfl, rfl, trivial⟩
          · rintro y_66 _ _ b s_69 _ ⟨rfl, ⟨rfl, rfl, rfl⟩⟩
            refine J_then ?_
            refine J_region ?_
            refine JL_op rfl (op_read rfl rfl (r_add rfl rfl) ?_)
            refine JL_op rfl (op_read rfl rfl (r_move (v := .int .i64 (IntKind.i64.wrap (x_17.2.2.2 + 1))) rfl) ?_)
            refine JL_nil ?_
            refine J_next _ ?_ ⟨rfl, rfl, rfl⟩
            exact ⟨rfl, rfl, rfl, rfl, rfl, rfl, rfl, rfl, rfl, rfl, trivial⟩
        · refine J_exit ?_
          refine J_then_exit ?_
          refine J_done trivial _ ?_ ⟨rfl, rfl, rfl, rfl⟩
          exact ⟨rfl, rfl, rfl, rfl, rfl, rfl, rfl, trivial⟩
      · rintro y_70 _ _ b s_73 _ ⟨rfl, ⟨rfl, rfl, rfl⟩⟩
        refine J_in_exit ?_
        refine J_then ?_
        refine J_seq ?_
        refine J_region ?_
        refine JL_op rfl (op_read rfl rfl (r_move (v := .int .i64 y_70.2.2) rfl) ?_)
        refine JL_op rfl (op_read rfl rfl (r_lss rfl rfl) ?_)
        refine JL_nil ?_
        refine J_then ?_
        refine J_cond rfl (fun hc_74 => ?_) (fun hc_74 => ?_)
        · refine J_seq ?_
          refine J_region ?_
          refine JL_op rfl (op_read rfl rfl (r_move (v := v_4) rfl) ?_)
          refine JL_op rfl (op_read rfl rfl (r_assign (v := v_4) rfl) ?_)
          refine JL_op rfl (op_read rfl rfl (r_assign (v := .slice none 0 0) rfl) ?_)
          refine JL_nil ?_
          refine J_then ?_
          refine J_ret ?_
          refine J_in_ret ?_
          refine J_then_ret ?_
          refine J_select (PV' := [.row ((tInt .i64)).o 2 v_4 y_70.1, .row (t_Gdiff_Leq).o 37 v_2 x_3]) [1, 0] (by decide) rfl ?_
          refine J_done trivial _ ?_ ⟨rfl, rfl, rfl, rfl⟩
          exact ⟨rfl, rfl, trivial⟩
        · refine J_skip ?_
          refine J_in_normal ?_
          refine J_then ?_
          refine J_region ?_
          refine JL_op rfl (op_read rfl rfl (r_add rfl rfl) ?_)
          refine JL_op rfl (op_read rfl rfl (r_move (v := .int .i64 (IntKind.i64.wrap (x_12.2.2.2 + 1))) rfl) ?_)
          refine JL_nil ?_
          refine J_next _ ?_ ⟨rfl, rfl, rfl⟩
          exact ⟨rfl, rfl, rfl, rfl, rfl, rfl, rfl, trivial⟩
    · refine J_exit ?_
      refine J_then_exit ?_
      refine J_select (PV' := [.row (t_Gdiff_Leq).o 37 v_2 x_3, .row ((tInt .i64)).o 3 v_8 x_12.2.1]) [0, 2] (by decide) rfl ?_
      refine J_done trivial _ ?_ ⟨rfl, rfl, rfl, rfl⟩
      exact ⟨rfl, rfl, rfl, rfl, trivial⟩
  · rintro (y_76 | y_129) e L b τ PV ht
    · obtain ⟨rfl, ht⟩ := ht
      revert ht; revert PV; revert τ; revert b; revert L
      rintro _ b s_79 _ ⟨rfl, rfl, rfl⟩
      refine J_in_exit ?_
      refine J_then ?_
      refine J_seq ?_
      refine J_region ?_
      refine JL_op rfl (op_read rfl rfl (r_move (v := v_2) rfl) ?_)
      refine JL_op rfl (op_read rfl rfl (r_move (v := .int .i64 y_76.2) rfl) ?_)
      refine J_bind fun x_80 hx_81 => ?_
      refine JL_op rfl (op_read rfl rfl (r_index_row (v := v_2) (T := (t_Gdiff_Leq).o) (q := x_80) 0 Try.pu23 Try.pi37 rfl rfl rfl rfl hx_81) ?_)
      refine JL_op rfl (op_read rfl rfl (r_fieldAddr (r := elemAddr v_2 ((y_76.2).toNat * ((t_Gdiff_Leq).o).size + 0)) Try.pu37 (f := Try.pf37.getD 0 default) rfl Try.pi3 (by decide) rfl (elemAddr_add _ _ _)) ?_)
      refine JL_op rfl (op_reads rfl rfl (l_elem_orow (v := v_2) (T := (t_Gdiff_Leq).o) (Tf := (tInt .i64)) (q := x_80) (i := y_76.2) (off := 0) 0 Try.pu3 Try.pi3 rfl rfl rfl rfl hx_81 (OFieldAt.of f_Gdiff_Leq_X) (by decide)) ?_)
      intro v_82 h_83
      obtain rfl := tInt_v.1 h_83
      refine JL_op rfl (op_read rfl rfl (r_assign (v := .int .i64 x_80.X) rfl) ?_)
      refine JL_nil ?_
      refine J_then ?_
      refine J_seq ?_
      refine J_seq ?_
      refine J_region ?_
      refine JL_op rfl (op_read rfl rfl (r_move (v := .int .i64 n_1) rfl) ?_)
      refine JL_op rfl (op_read rfl rfl (r_move (v := .int .i64 0) rfl) ?_)
      refine JL_nil ?_
      refine J_then ?_
      refine J_block ?_
      refine J_loop (fun (y : Int × Int) L τ PV => σ = τ ∧ L = [(1, v_2), (7, v_8), (12, .int .i64 y.1), (66, .int .i64 n_1), (67, .int .i64 y.2)] ∧ PV = [.row (t_Gdiff_Leq).o 37 v_2 x_3, .row ((tInt .i64)).o 3 v_8 y_76.1]) (fun (y : Int) e L τ PV => e = .exit 4 ∧ (σ = τ ∧ L = [(1, v_2), (7, v_8), (12, .int .i64 y)] ∧ PV = [.row (t_Gdiff_Leq).o 37 v_2 x_3, .row ((tInt .i64)).o 3 v_8 y_76.1])) _ ?_ ⟨rfl, rfl, rfl⟩ ?_ ?_
      · exact ⟨rfl, rfl, rfl, rfl, rfl, trivial⟩
      · rintro x_84 _ b s_87 _ ⟨rfl, rfl, rfl⟩
        unfold diff_solve_L3
        refine J_seq ?_
        refine J_region ?_
        refine JL_op rfl (op_read rfl rfl (r_lss rfl rfl) ?_)
        refine JL_nil ?_
        refine J_then ?_
        refine J_seq ?_
        refine J_cond rfl (fun hc_88 => ?_) (fun hc_88 => ?_)
        · refine J_skip ?_
          refine J_then ?_
          refine J_seq ?_
          refine J_block ?_
          refine J_region ?_
          refine JL_op rfl (op_read rfl rfl (r_move (v := v_2) rfl) ?_)
          refine JL_op rfl (op_read rfl rfl (r_move (v := v_8) rfl) ?_)
          refine JL_op rfl (op_read rfl rfl (r_move (v := .int .i64 x_84.1) rfl) ?_)
          refine J_bind fun x_89 hx_90 => ?_
          refine JL_op rfl (op_read rfl rfl (r_index_row (v := v_8) (T := ((tInt .i64)).o) (q := x_89) 1 Try.pu22 Try.pi3 rfl rfl rfl rfl hx_90) ?_)
          refine JL_op rfl (op_reads rfl rfl (l_elem_orow (v := v_8) (T := ((tInt .i64)).o) (Tf := (tInt .i64)) (q := x_89) (i := x_84.1) (off := 0) 1 Try.pu3 Try.pi3 rfl rfl rfl rfl hx_90 (OFieldAt.self (T := ((tInt .i64)).o)) (by decide)) ?_)
          intro v_91 h_92
          obtain rfl := tInt_v.1 h_92
          refine J_bind fun x_93 hx_94 => ?_
          refine JL_op rfl (op_read rfl rfl (r_index_row (v := v_2) (T := (t_Gdiff_Leq).o) (q := x_93) 0 Try.pu23 Try.pi37 rfl rfl rfl rfl hx_94) ?_)
          refine JL_op rfl (op_read rfl rfl (r_fieldAddr (r := elemAddr v_2 ((x_89).toNat * ((t_Gdiff_Leq).o).size + 1)) Try.pu37 (f := Try.pf37.getD 1 default) rfl Try.pi3 (by decide) rfl (elemAddr_add _ _ _)) ?_)
          refine JL_op rfl (op_reads rfl rfl (l_elem_orow (v := v_2) (T := (t_Gdiff_Leq).o) (Tf := (tInt .i64)) (q := x_93) (i := x_89) (off := 1) 0 Try.pu3 Try.pi3 rfl rfl rfl rfl hx_94 (OFieldAt.of f_Gdiff_Leq_Y) (by decide)) ?_)
          intro v_95 h_96
          obtain rfl := tInt_v.1 h_96
          refine JL_op rfl (op_read rfl rfl (r_assign (v := .int .i64 x_93.Y) rfl) ?_)
          refine JL_nil ?_
          refine J_in_normal ?_
          refine J_then ?_
          refine J_region ?_
          refine JL_op rfl (op_read rfl rfl (r_add rfl rfl) ?_)
          refine JL_op rfl (op_read rfl rfl (r_move (v := .int .i64 (IntKind.i64.wrap (x_84.2 + 1))) rfl) ?_)
          refine JL_nil ?_
          refine J_next _ ?_ ⟨rfl, rfl, rfl⟩
          exact ⟨rfl, rfl, rfl, rfl, rfl, trivial⟩
        · refine J_exit ?_
          refine J_then_exit ?_
          refine J_done trivial _ ?_ ⟨rfl, rfl, rfl, rfl⟩
          exact ⟨rfl, rfl, rfl, trivial⟩
      · rintro y_97 _ _ b s_100 _ ⟨rfl, ⟨rfl, rfl, rfl⟩⟩
        refine J_in_exit ?_
        refine J_then ?_
        refine J_seq ?_
        refine J_region ?_
        refine JL_op rfl (op_read rfl rfl (r_assign (v := .slice none 0 0) rfl) ?_)
        refine JL_nil ?_
        refine J_then ?_
        refine J_seq ?_
        refine J_region ?_
        refine JL_op rfl (op_read rfl rfl (r_move (v := .int .i64 y_97) rfl) ?_)
        refine JL_op rfl (op_read rfl rfl (r_assign (v := .int .i64 y_97) rfl) ?_)
        refine JL_nil ?_
        refine J_then ?_
        refine J_block ?_
        refine J_nil_row ((tInt .i64)).o 3 ?_
        refine J_select (PV' := [.row (t_Gdiff_Leq).o 37 v_2 x_3, .row ((tInt .i64)).o 3 v_8 y_76.1, .row ((tInt .i64)).o 3 (.slice none 0 0) (⟨[], false⟩ : Sl Int)]) [1, 2, 0] (by decide) rfl ?_
        refine J_loop (fun (y : (Sl Int) × Int) L τ PV => ∃ (w0 : Value), σ = τ ∧ L = [(1, v_2), (7, v_8), (12, .int .i64 y_97), (13, w0), (14, .int .i64 y.2)] ∧ PV = [.row (t_Gdiff_Leq).o 37 v_2 x_3, .row ((tInt .i64)).o 3 v_8 y_76.1, .row ((tInt .i64)).o 3 w0 y.1]) (fun (y : (Sl Int)) e L τ PV => e = .ret ∧ (∃ (w0 : Value), σ = τ ∧ L = [(4, .slice none 0 0), (5, w0)] ∧ PV = [.row ((tInt .i64)).o 3 w0 y, .row (t_Gdiff_Leq).o 37 v_2 x_3])) _ ?_ ⟨(.slice none 0 0), rfl, rfl, rfl⟩ ?_ ?_
        · exact ⟨rfl, rfl, rfl, rfl, rfl, trivial⟩
        · rintro x_102 _ b s_107 _ ⟨v_106, rfl, rfl, rfl⟩
          unfold diff_solve_L4
          refine J_block ?_
          refine J_seq ?_
          refine J_region ?_
          refine JL_op rfl (op_read rfl rfl (r_move (v := v_8) rfl) ?_)
          refine JL_op rfl (op_read rfl rfl (r_move (v := .int .i64 x_102.2) rfl) ?_)
          refine J_bind fun x_108 hx_109 => ?_
          refine JL_op rfl (op_read rfl rfl (r_index_row (v := v_8) (T := ((tInt .i64)).o) (q := x_108) 1 Try.pu22 Try.pi3 rfl rfl rfl rfl hx_109) ?_)
          refine JL_op rfl (op_reads rfl rfl (l_elem_orow (v := v_8) (T := ((tInt .i64)).o) (Tf := (tInt .i64)) (q := x_108) (i := x_102.2) (off := 0) 1 Try.pu3 Try.pi3 rfl rfl rfl rfl hx_109 (OFieldAt.self (T := ((tInt .i64)).o)) (by decide)) ?_)
          intro v_110 h_111
          obtain rfl := tInt_v.1 h_111
          refine JL_op rfl (op_read rfl rfl (r_assign (v := .int .i64 x_108) rfl) ?_)
          refine JL_nil ?_
          refine J_then ?_
          refine J_seq ?_
          refine J_region ?_
          refine JL_op rfl (op_read rfl rfl (r_move (v := v_106) rfl) ?_)
          refine JL_op rfl (op_read rfl rfl (r_move (v := .int .i64 x_108) rfl) ?_)
          refine JL_op rfl (op_buildSlice (T := ((tInt .i64)).o) (vs := [.int .i64 x_108]) (xs := [x_108]) [] [.row (t_Gdiff_Leq).o 37 v_2 x_3, .row ((tInt .i64)).o 3 v_8 y_76.1, .row ((tInt .i64)).o 3 v_106 x_102.1] rfl Try.pu22 Try.pi3 rfl rfl rfl rfl rfl rfl (relsO_cons (A := []) (B := []) (u := .int .i64 x_108) (x := x_108) (fix_vrel (T := ((tInt .i64)).o) rfl (tInt_v.2 rfl)) relsO_nil) ?_)
          intro v_112
          refine J_select (PV' := [.row ((tInt .i64)).o 3 v_106 x_102.1, .row ((tInt .i64)).o 3 v_112 (⟨[x_108], true⟩ : Sl Int), .row (t_Gdiff_Leq).o 37 v_2 x_3, .row ((tInt .i64)).o 3 v_8 y_76.1]) [3, 0, 1, 2] (by decide) rfl ?_
          refine JL_op rfl (op_append (v := v_106) (u := v_112) (T := ((tInt .i64)).o) (ts := [x_108]) [] [.row ((tInt .i64)).o 3 v_112 (⟨[x_108], true⟩ : Sl Int), .row (t_Gdiff_Leq).o 37 v_2 x_3, .row ((tInt .i64)).o 3 v_8 y_76.1] rfl Try.pu22 Try.pi3 rfl rfl rfl rfl rfl rfl (source_copy (s := (⟨[x_108], true⟩ : Sl Int)) 1 rfl) ?_)
          intro s_115 v_114 hs_116
          refine JL_op rfl (op_read rfl rfl (r_assign (v := v_114) rfl) ?_)
          refine JL_nil ?_
          refine J_then ?_
          refine J_seq ?_
          refine J_region ?_
          refine JL_op rfl (op_read rfl rfl (r_move (v := v_2) rfl) ?_)
          refine JL_op rfl (op_read rfl rfl (r_move (v := .int .i64 x_108) rfl) ?_)
          refine J_bind fun x_117 hx_118 => ?_
          refine JL_op rfl (op_read rfl rfl (r_index_row (v := v_2) (T := (t_Gdiff_Leq).o) (q := x_117) 2 Try.pu23 Try.pi37 rfl rfl rfl rfl hx_118) ?_)
          refine JL_op rfl (op_read rfl rfl (r_fieldAddr (r := elemAddr v_2 ((x_108).toNat * ((t_Gdiff_Leq).o).size + 1)) Try.pu37 (f := Try.pf37.getD 1 default) rfl Try.pi3 (by decide) rfl (elemAddr_add _ _ _)) ?_)
          refine JL_op rfl (op_reads rfl rfl (l_elem_orow (v := v_2) (T := (t_Gdiff_Leq).o) (Tf := (tInt .i64)) (q := x_117) (i := x_108) (off := 1) 2 Try.pu3 Try.pi3 rfl rfl rfl rfl hx_118 (OFieldAt.of f_Gdiff_Leq_Y) (by decide)) ?_)
          intro v_119 h_120
          obtain rfl := tInt_v.1 h_120
          refine JL_op rfl (op_read rfl rfl (r_assign (v := .int .i64 x_117.Y) rfl) ?_)
          refine JL_nil ?_
          refine J_then ?_
          refine J_seq ?_
          refine J_region ?_
          refine JL_op rfl (op_read rfl rfl (r_move (v := .int .i64 x_117.Y) rfl) ?_)
          refine JL_op rfl (op_read rfl rfl (r_move (v := .int .i64 y_97) rfl) ?_)
          refine JL_op rfl (op_read rfl rfl (r_eql rfl rfl) ?_)
          refine JL_nil ?_
          refine J_then ?_
          refine J_cond rfl (fun hc_121 => ?_) (fun hc_121 => ?_)
          · refine J_seq ?_
            refine J_region ?_
            refine JL_op rfl (op_read rfl rfl (r_move (v := v_114) rfl) ?_)
            refine JL_op rfl (op_read rfl rfl (r_assign (v := .slice none 0 0) rfl) ?_)
            refine JL_op rfl (op_read rfl rfl (r_assign (v := v_114) rfl) ?_)
            refine JL_nil ?_
            refine J_then ?_
            refine J_ret ?_
            refine J_in_ret ?_
            refine J_select (PV' := [.row ((tInt .i64)).o 3 v_114 s_115, .row (t_Gdiff_Leq).o 37 v_2 x_3]) [0, 2] (by decide) rfl ?_
            refine J_done trivial _ ?_ ⟨rfl, v_114, rfl, rfl, rfl⟩
            exact ⟨rfl, rfl, trivial⟩
          · refine J_skip ?_
            refine J_in_normal ?_
            refine J_select (PV' := [.row (t_Gdiff_Leq).o 37 v_2 x_3, .row ((tInt .i64)).o 3 v_8 y_76.1, .row ((tInt .i64)).o 3 v_114 s_115]) [2, 3, 0] (by decide) rfl ?_
            refine J_next _ ?_ ⟨v_114, rfl, rfl, rfl⟩
            exact ⟨rfl, rfl, rfl, rfl, rfl, trivial⟩
        · rintro y_122 _ _ b s_127 _ ⟨rfl, ⟨v_126, rfl, rfl, rfl⟩⟩
          refine J_in_ret ?_
          refine J_nil_row ((tInt .i64)).o 2 ?_
          exact J_returnV2 (PV' := [.row ((tInt .i64)).o 2 (.slice none 0 0) (⟨[], false⟩ : Sl Int), .row ((tInt .i64)).o 3 v_126 y_122, .row (t_Gdiff_Leq).o 37 v_2 x_3]) rfl rv_tmp rv_tmp [0, 1, 2] (by decide) rfl ⟨(.slice none 0 0), v_126, rfl, rfl, rfl⟩
    · obtain ⟨rfl, ht⟩ := ht
      revert ht; revert PV; revert τ; revert b; revert L
      rintro _ b s_132 _ ⟨rfl, rfl, rfl⟩
      refine J_in_ret ?_
      refine J_then_ret ?_
      refine J_nil_row ((tInt .i64)).o 3 ?_
      exact J_returnV2 (PV' := [.row ((tInt .i64)).o 2 v_4 y_129, .row ((tInt .i64)).o 3 (.slice none 0 0) (⟨[], false⟩ : Sl Int), .row (t_Gdiff_Leq).o 37 v_2 x_3]) rfl rv_tmp rv_tmp [1, 0, 2] (by decide) rfl ⟨v_4, (.slice none 0 0), rfl, rfl, rfl⟩
def diff_Entails_post (σ0 : FS) (n_1 : Int) (v_2 : Value) (goal_3 : Gdiff_Leq) (v_5 : Value) (x_6 : Sl Gdiff_Leq) (r : Bool × Int) (σ : FS) (PV : List Priv) (v : Value) : Prop :=
  σ0 = σ ∧ .tuple #[.bool r.1, .int .i64 r.2] = v ∧ PV = [.row (t_Gdiff_Leq).o 37 v_5 x_6]
set_option maxRecDepth 100000 in
theorem diff_Entails_ref (s : Start) (σ : FS) (n_1 : Int) (v_2 : Value) (goal_3 : Gdiff_Leq) (h_4 : t_Gdiff_Leq.vrel σ v_2 goal_3) (v_5 : Value) (x_6 : Sl Gdiff_Leq) (hs : Pre s σ [.row (t_Gdiff_Leq).o 37 v_5 x_6]) (r : Bool × Int) (hr : diff_Entails n_1 goal_3 x_6 = some r) : Does Try.prog 18 [.int .i64 n_1, v_2, v_5] s σ (diff_Entails_post σ n_1 v_2 goal_3 v_5 x_6 r) := by
  unfold diff_Entails at hr
  obtain rfl := t_Gdiff_Leq_v.1 h_4
  refine does_of_J Try.func18 rfl (n := 47) rfl rfl hs hr ?_
  refine J_seq ?_
  refine J_region ?_
  refine JL_op rfl (op_box (cs := [.int .i64 goal_3.X, .int .i64 goal_3.Y, .int .i64 goal_3.C]) rfl rfl ?_)
  intro c_7
  refine JL_op rfl (op_read rfl rfl (r_assign (v := .bool false) rfl) ?_)
  refine JL_op rfl (op_read rfl rfl (r_assign (v := .int .i64 0) rfl) ?_)
  refine JL_nil ?_
  refine J_then ?_
  refine J_seq ?_
  refine J_region_any 6 [.cell c_7 [.int .i64 goal_3.X, .int .i64 goal_3.Y, .int .i64 goal_3.C], .row (t_Gdiff_Leq).o 37 v_5 x_6] Try.mixed (by kernel_rfl) fun hns => ?_
  have hS_9 : HeldOK σ [.cell c_7 [.int .i64 goal_3.X, .int .i64 goal_3.Y, .int .i64 goal_3.C], .row (t_Gdiff_Leq).o 37 v_5 x_6] σ [.cell c_7 [.int .i64 goal_3.X, .int .i64 goal_3.Y, .int .i64 goal_3.C], .row (t_Gdiff_Leq).o 37 v_5 x_6] := HeldOK.same [0, 1] (by decide) rfl
  refine JA_takep 0 rfl hns (by kernel_rfl) (by kernel_rfl) rfl (.inr hS_9) rfl rfl rfl (r_move (v := v_5) rfl) ?_
  refine JA_take 2 rfl hns (by kernel_rfl) (by kernel_rfl) (by kernel_rfl) rfl (by kernel_rfl) hS_9 rfl rfl rfl (r_load_priv (a := c_7) (off := 0) (cs' := [.int .i64 goal_3.X, .int .i64 goal_3.Y, .int .i64 goal_3.C]) (v := .agg #[.int .i64 goal_3.X, .int .i64 goal_3.Y, .int .i64 goal_3.C]) 0 Try.pu37 Try.pi37 rfl rfl rfl rfl (by decide) rfl) ?_
  refine J_bind fun k_10 hk_11 => ?_
  refine J_bind fun k_12 hk_13 => ?_
  refine J_meetD (fun y => diff_Entails_K1 goal_3 k_12 n_1 x_6 y) 0 #[true, true, true, true, true, true] (fun (y : Unit) L τ PV => ∃ (w0 : Value), σ = τ ∧ L = [(0, .int .i64 n_1), (2, v_5), (4, .pointer (some (Addr.add c_7 0))), (8, w0)] ∧ PV = [.row (t_Gdiff_Leq).o 37 v_5 x_6, .cell c_7 [.int .i64 goal_3.X, .int .i64 goal_3.Y, .int .i64 goal_3.C], .row (t_Gdiff_Leq).o 37 w0 k_12]) (fun hk => ?_) ?_
  · refine JA_two (i := 1) (j := 3) (by kernel_rfl) ?_ ?_
    · refine J_select (PV' := [.row (t_Gdiff_Leq).o 37 v_5 x_6, .cell c_7 [.int .i64 goal_3.X, .int .i64 goal_3.Y, .int .i64 goal_3.C]]) [1, 0] (by decide) rfl ?_
      have hS_49 : HeldOK σ [.cell c_7 [.int .i64 goal_3.X, .int .i64 goal_3.Y, .int .i64 goal_3.C], .row (t_Gdiff_Leq).o 37 v_5 x_6] σ [.row (t_Gdiff_Leq).o 37 v_5 x_6, .cell c_7 [.int .i64 goal_3.X, .int .i64 goal_3.Y, .int .i64 goal_3.C]] := HeldOK.same [1, 0] (by decide) rfl
      refine J1_op rfl rfl (op_known hk_11 (op_call (f := 24) (fn := Try.f24) (args := [v_5]) (post := slices_Clone_post σ v_5 x_6) [.row (t_Gdiff_Leq).o 37 v_5 x_6] [.cell c_7 [.int .i64 goal_3.X, .int .i64 goal_3.Y, .int .i64 goal_3.C]] rfl rfl rfl Try.func24 Try.pn24 rfl rfl (fun y st hy hpre => slices_Clone_ref st σ v_5 x_6 hpre y hy) ?_))
      intro z_52 v_44 s_47 PV_45 hz_53 hle_48 hp_46
      obtain rfl := Option.some.inj (hk_11.symm.trans hz_53)
      obtain ⟨v_51, rfl, rfl, rfl⟩ := hp_46
      have hS_54 : HeldOK σ [.cell c_7 [.int .i64 goal_3.X, .int .i64 goal_3.Y, .int .i64 goal_3.C], .row (t_Gdiff_Leq).o 37 v_5 x_6] σ [.row (t_Gdiff_Leq).o 37 v_51 k_10, .row (t_Gdiff_Leq).o 37 v_5 x_6, .cell c_7 [.int .i64 goal_3.X, .int .i64 goal_3.Y, .int .i64 goal_3.C]] := HeldOK.same [2, 1] (by decide) rfl
      refine ⟨.inr hS_54, ?_⟩
      refine JA_op (i := 3) (by kernel_rfl) rfl rfl (op_buildSlice (T := (t_Gdiff_Leq).o) (vs := [.agg #[.int .i64 goal_3.X, .int .i64 goal_3.Y, .int .i64 goal_3.C]]) (xs := [goal_3]) [] [.row (t_Gdiff_Leq).o 37 v_51 k_10, .row (t_Gdiff_Leq).o 37 v_5 x_6, .cell c_7 [.int .i64 goal_3.X, .int .i64 goal_3.Y, .int .i64 goal_3.C]] rfl Try.pu23 Try.pi37 rfl rfl rfl rfl rfl rfl (relsO_cons (A := []) (B := []) (u := .agg #[.int .i64 goal_3.X, .int .i64 goal_3.Y, .int .i64 goal_3.C]) (x := goal_3) (fix_vrel (T := (t_Gdiff_Leq).o) rfl (t_Gdiff_Leq_v.2 rfl)) relsO_nil) ?_)
      intro v_55
      have hS_57 : HeldOK σ [.cell c_7 [.int .i64 goal_3.X, .int .i64 goal_3.Y, .int .i64 goal_3.C], .row (t_Gdiff_Leq).o 37 v_5 x_6] σ [.row (t_Gdiff_Leq).o 37 v_55 (⟨[goal_3], true⟩ : Sl Gdiff_Leq), .row (t_Gdiff_Leq).o 37 v_51 k_10, .row (t_Gdiff_Leq).o 37 v_5 x_6, .cell c_7 [.int .i64 goal_3.X, .int .i64 goal_3.Y, .int .i64 goal_3.C]] := HeldOK.same [3, 2] (by decide) rfl
      refine ⟨.inr hS_57, ?_⟩
      refine J_select (PV' := [.row (t_Gdiff_Leq).o 37 v_51 k_10, .row (t_Gdiff_Leq).o 37 v_55 (⟨[goal_3], true⟩ : Sl Gdiff_Leq), .row (t_Gdiff_Leq).o 37 v_5 x_6, .cell c_7 [.int .i64 goal_3.X, .int .i64 goal_3.Y, .int .i64 goal_3.C]]) [1, 0, 2, 3] (by decide) rfl ?_
      have hS_59 : HeldOK σ [.cell c_7 [.int .i64 goal_3.X, .int .i64 goal_3.Y, .int .i64 goal_3.C], .row (t_Gdiff_Leq).o 37 v_5 x_6] σ [.row (t_Gdiff_Leq).o 37 v_51 k_10, .row (t_Gdiff_Leq).o 37 v_55 (⟨[goal_3], true⟩ : Sl Gdiff_Leq), .row (t_Gdiff_Leq).o 37 v_5 x_6, .cell c_7 [.int .i64 goal_3.X, .int .i64 goal_3.Y, .int .i64 goal_3.C]] := HeldOK.same [3, 2] (by decide) rfl
      refine JA_op (i := 4) (by kernel_rfl) rfl rfl (op_known hk_13 (op_append (v := v_51) (u := v_55) (T := (t_Gdiff_Leq).o) (ts := [goal_3]) [] [.row (t_Gdiff_Leq).o 37 v_55 (⟨[goal_3], true⟩ : Sl Gdiff_Leq), .row (t_Gdiff_Leq).o 37 v_5 x_6, .cell c_7 [.int .i64 goal_3.X, .int .i64 goal_3.Y, .int .i64 goal_3.C]] rfl Try.pu23 Try.pi37 rfl rfl rfl rfl rfl rfl (source_copy (s := (⟨[goal_3], true⟩ : Sl Gdiff_Leq)) 1 rfl) ?_))
      intro z_60 v_58 hz_61
      obtain rfl := Option.some.inj (hk_13.symm.trans hz_61)
      have hS_62 : HeldOK σ [.cell c_7 [.int .i64 goal_3.X, .int .i64 goal_3.Y, .int .i64 goal_3.C], .row (t_Gdiff_Leq).o 37 v_5 x_6] σ [.row (t_Gdiff_Leq).o 37 v_58 k_12, .row (t_Gdiff_Leq).o 37 v_55 (⟨[goal_3], true⟩ : Sl Gdiff_Leq), .row (t_Gdiff_Leq).o 37 v_5 x_6, .cell c_7 [.int .i64 goal_3.X, .int .i64 goal_3.Y, .int .i64 goal_3.C]] := HeldOK.same [3, 2] (by decide) rfl
      refine ⟨.inr hS_62, ?_⟩
      refine JA_takep 5 rfl hns (by kernel_rfl) (by kernel_rfl) rfl (.inr hS_62) rfl rfl rfl (r_assign (v := v_58) rfl) ?_
      refine J_select (PV' := [.row (t_Gdiff_Leq).o 37 v_5 x_6, .cell c_7 [.int .i64 goal_3.X, .int .i64 goal_3.Y, .int .i64 goal_3.C], .row (t_Gdiff_Leq).o 37 v_58 k_12]) [2, 3, 0] (by decide) rfl ?_
      refine J_prune _ ?_ fun b => hk () _ b _ _ ⟨v_58, rfl, rfl, rfl⟩
      exact ⟨rfl, rfl, rfl, rfl, trivial⟩
    · refine J1_op rfl rfl (op_buildSlice (T := (t_Gdiff_Leq).o) (vs := [.agg #[.int .i64 goal_3.X, .int .i64 goal_3.Y, .int .i64 goal_3.C]]) (xs := [goal_3]) [] [.cell c_7 [.int .i64 goal_3.X, .int .i64 goal_3.Y, .int .i64 goal_3.C], .row (t_Gdiff_Leq).o 37 v_5 x_6] rfl Try.pu23 Try.pi37 rfl rfl rfl rfl rfl rfl (relsO_cons (A := []) (B := []) (u := .agg #[.int .i64 goal_3.X, .int .i64 goal_3.Y, .int .i64 goal_3.C]) (x := goal_3) (fix_vrel (T := (t_Gdiff_Leq).o) rfl (t_Gdiff_Leq_v.2 rfl)) relsO_nil) ?_)
      intro v_63
      have hS_65 : HeldOK σ [.cell c_7 [.int .i64 goal_3.X, .int .i64 goal_3.Y, .int .i64 goal_3.C], .row (t_Gdiff_Leq).o 37 v_5 x_6] σ [.row (t_Gdiff_Leq).o 37 v_63 (⟨[goal_3], true⟩ : Sl Gdiff_Leq), .cell c_7 [.int .i64 goal_3.X, .int .i64 goal_3.Y, .int .i64 goal_3.C], .row (t_Gdiff_Leq).o 37 v_5 x_6] := HeldOK.same [1, 2] (by decide) rfl
      refine ⟨.inr hS_65, ?_⟩
      refine J_select (PV' := [.row (t_Gdiff_Leq).o 37 v_5 x_6, .row (t_Gdiff_Leq).o 37 v_63 (⟨[goal_3], true⟩ : Sl Gdiff_Leq), .cell c_7 [.int .i64 goal_3.X, .int .i64 goal_3.Y, .int .i64 goal_3.C]]) [2, 0, 1] (by decide) rfl ?_
      have hS_71 : HeldOK σ [.cell c_7 [.int .i64 goal_3.X, .int .i64 goal_3.Y, .int .i64 goal_3.C], .row (t_Gdiff_Leq).o 37 v_5 x_6] σ [.row (t_Gdiff_Leq).o 37 v_5 x_6, .row (t_Gdiff_Leq).o 37 v_63 (⟨[goal_3], true⟩ : Sl Gdiff_Leq), .cell c_7 [.int .i64 goal_3.X, .int .i64 goal_3.Y, .int .i64 goal_3.C]] := HeldOK.same [2, 0] (by decide) rfl
      refine JA_op (i := 1) (by kernel_rfl) rfl rfl (op_known hk_11 (op_call (f := 24) (fn := Try.f24) (args := [v_5]) (post := slices_Clone_post σ v_5 x_6) [.row (t_Gdiff_Leq).o 37 v_5 x_6] [.row (t_Gdiff_Leq).o 37 v_63 (⟨[goal_3], true⟩ : Sl Gdiff_Leq), .cell c_7 [.int .i64 goal_3.X, .int .i64 goal_3.Y, .int .i64 goal_3.C]] rfl rfl rfl Try.func24 Try.pn24 rfl rfl (fun y st hy hpre => slices_Clone_ref st σ v_5 x_6 hpre y hy) ?_))
      intro z_74 v_66 s_69 PV_67 hz_75 hle_70 hp_68
      obtain rfl := Option.some.inj (hk_11.symm.trans hz_75)
      obtain ⟨v_73, rfl, rfl, rfl⟩ := hp_68
      have hS_76 : HeldOK σ [.cell c_7 [.int .i64 goal_3.X, .int .i64 goal_3.Y, .int .i64 goal_3.C], .row (t_Gdiff_Leq).o 37 v_5 x_6] σ [.row (t_Gdiff_Leq).o 37 v_73 k_10, .row (t_Gdiff_Leq).o 37 v_5 x_6, .row (t_Gdiff_Leq).o 37 v_63 (⟨[goal_3], true⟩ : Sl Gdiff_Leq), .cell c_7 [.int .i64 goal_3.X, .int .i64 goal_3.Y, .int .i64 goal_3.C]] := HeldOK.same [3, 1] (by decide) rfl
      refine ⟨.inr hS_76, ?_⟩
      refine JA_op (i := 4) (by kernel_rfl) rfl rfl (op_known hk_13 (op_append (v := v_73) (u := v_63) (T := (t_Gdiff_Leq).o) (ts := [goal_3]) [] [.row (t_Gdiff_Leq).o 37 v_5 x_6, .row (t_Gdiff_Leq).o 37 v_63 (⟨[goal_3], true⟩ : Sl Gdiff_Leq), .cell c_7 [.int .i64 goal_3.X, .int .i64 goal_3.Y, .int .i64 goal_3.C]] rfl Try.pu23 Try.pi37 rfl rfl rfl rfl rfl rfl (source_copy (s := (⟨[goal_3], true⟩ : Sl Gdiff_Leq)) 2 rfl) ?_))
      intro z_78 v_77 hz_79
      obtain rfl := Option.some.inj (hk_13.symm.trans hz_79)
      have hS_80 : HeldOK σ [.cell c_7 [.int .i64 goal_3.X, .int .i64 goal_3.Y, .int .i64 goal_3.C], .row (t_Gdiff_Leq).o 37 v_5 x_6] σ [.row (t_Gdiff_Leq).o 37 v_77 k_12, .row (t_Gdiff_Leq).o 37 v_5 x_6, .row (t_Gdiff_Leq).o 37 v_63 (⟨[goal_3], true⟩ : Sl Gdiff_Leq), .cell c_7 [.int .i64 goal_3.X, .int .i64 goal_3.Y, .int .i64 goal_3.C]] := HeldOK.same [3, 1] (by decide) rfl
      refine ⟨.inr hS_80, ?_⟩
      refine JA_takep 5 rfl hns (by kernel_rfl) (by kernel_rfl) rfl (.inr hS_80) rfl rfl rfl (r_assign (v := v_77) rfl) ?_
      refine J_select (PV' := [.row (t_Gdiff_Leq).o 37 v_5 x_6, .cell c_7 [.int .i64 goal_3.X, .int .i64 goal_3.Y, .int .i64 goal_3.C], .row (t_Gdiff_Leq).o 37 v_77 k_12]) [1, 3, 0] (by decide) rfl ?_
      refine J_prune _ ?_ fun b => hk () _ b _ _ ⟨v_77, rfl, rfl, rfl⟩
      exact ⟨rfl, rfl, rfl, rfl, trivial⟩
  · rintro y_14 _ b s_19 _ ⟨v_18, rfl, rfl, rfl⟩
    unfold diff_Entails_K1
    refine JA_done (by kernel_rfl) ?_
    refine J_then ?_
    refine J_seq ?_
    refine J_seq ?_
    refine J_region ?_
    refine JL_op rfl (op_read rfl rfl (r_move (v := .int .i64 n_1) rfl) ?_)
    refine JL_op rfl (op_read rfl rfl (r_move (v := v_18) rfl) ?_)
    refine J_select (PV' := [.row (t_Gdiff_Leq).o 37 v_18 k_12, .row (t_Gdiff_Leq).o 37 v_5 x_6, .cell c_7 [.int .i64 goal_3.X, .int .i64 goal_3.Y, .int .i64 goal_3.C]]) [2, 0, 1] (by decide) rfl ?_
    refine JL_op rfl (op_call (f := 28) (fn := Try.f28) (args := [.int .i64 n_1, v_18]) (post := diff_fit_post σ n_1 v_18 k_12) [.row (t_Gdiff_Leq).o 37 v_18 k_12] [.row (t_Gdiff_Leq).o 37 v_5 x_6, .cell c_7 [.int .i64 goal_3.X, .int .i64 goal_3.Y, .int .i64 goal_3.C]] rfl rfl rfl Try.func28 Try.pn28 rfl rfl (fun y st hy hpre => diff_fit_ref st σ n_1 v_18 k_12 hpre y hy) ?_)
    intro r_20 v_22 s_25 PV_23 hr_21 hle_26 hp_24
    obtain ⟨rfl, rfl, rfl⟩ := hp_24
    refine JL_op rfl (op_read rfl rfl (r_assign (v := .int .i64 r_20) rfl) ?_)
    refine JL_nil ?_
    refine J_then ?_
    refine J_seq ?_
    refine J_region ?_
    refine JL_op rfl (op_read rfl rfl (r_move (v := .int .i64 r_20) rfl) ?_)
    refine JL_op rfl (op_read rfl rfl (r_neq rfl rfl) ?_)
    refine JL_nil ?_
    refine J_then ?_
    refine J_cond rfl (fun hc_27 => ?_) (fun hc_27 => ?_)
    · refine J_seq ?_
      refine J_region ?_
      refine JL_op rfl (op_read rfl rfl (r_move (v := .int .i64 r_20) rfl) ?_)
      refine JL_op rfl (op_read rfl rfl (r_assign (v := .bool false) rfl) ?_)
      refine JL_op rfl (op_read rfl rfl (r_assign (v := .int .i64 r_20) rfl) ?_)
      refine JL_nil ?_
      refine J_then ?_
      refine J_ret ?_
      refine J_then_ret ?_
      exact J_returnV2 (PV' := [.row (t_Gdiff_Leq).o 37 v_5 x_6]) rfl rv_tmp rv_tmp [1] (by decide) rfl ⟨rfl, rfl, rfl⟩
    · refine J_skip ?_
      refine J_then ?_
      refine J_seq ?_
      refine J_seq ?_
      refine J_region ?_
      refine JL_op rfl (op_read rfl rfl (r_fieldAddr (r := Addr.add c_7 2) Try.pu37 (f := Try.pf37.getD 2 default) rfl Try.pi2 (by decide) rfl (Addr.add_add _ _ _)) ?_)
      refine JL_op rfl (op_read rfl rfl (r_load_priv (a := c_7) (off := 2) (cs' := [.int .i64 goal_3.C]) (v := .int .i64 goal_3.C) 2 Try.pu2 Try.pi2 rfl rfl rfl rfl (by decide) rfl) ?_)
      refine JL_op rfl (op_read rfl rfl (r_eql rfl rfl) ?_)
      refine JL_nil ?_
      refine J_then ?_
      refine J_cond rfl (fun hc_28 => ?_) (fun hc_28 => ?_)
      · refine J_seq ?_
        refine J_region ?_
        refine JL_op rfl (op_read rfl rfl (r_assign (v := .bool false) rfl) ?_)
        refine JL_op rfl (op_read rfl rfl (r_assign (v := .int .i64 2) rfl) ?_)
        refine JL_nil ?_
        refine J_then ?_
        refine J_ret ?_
        refine J_then_ret ?_
        exact J_returnV2 (PV' := [.row (t_Gdiff_Leq).o 37 v_5 x_6]) rfl rv_tmp rv_tmp [1] (by decide) rfl ⟨rfl, rfl, rfl⟩
      · refine J_skip ?_
        refine J_then ?_
        refine J_seq ?_
        refine J_region ?_
        refine JL_op rfl (op_read rfl rfl (r_move (v := v_18) rfl) ?_)
        refine JL_op rfl (op_read rfl rfl (r_move (v := v_5) rfl) ?_)
        refine JL_op rfl (op_read rfl rfl (r_len_row (v := v_5) 1 Try.pu23 rfl rfl) ?_)
        refine JL_op rfl (op_read rfl rfl (r_fieldAddr (r := Addr.add c_7 1) Try.pu37 (f := Try.pf37.getD 1 default) rfl Try.pi3 (by decide) rfl (Addr.add_add _ _ _)) ?_)
        refine JL_op rfl (op_read rfl rfl (r_load_priv (a := c_7) (off := 1) (cs' := [.int .i64 goal_3.Y]) (v := .int .i64 goal_3.Y) 2 Try.pu3 Try.pi3 rfl rfl rfl rfl (by decide) rfl) ?_)
        refine JL_op rfl (op_read rfl rfl (r_fieldAddr (r := Addr.add c_7 0) Try.pu37 (f := Try.pf37.getD 0 default) rfl Try.pi3 (by decide) rfl (Addr.add_add _ _ _)) ?_)
        refine JL_op rfl (op_read rfl rfl (r_load_priv (a := c_7) (off := 0) (cs' := [.int .i64 goal_3.X]) (v := .int .i64 goal_3.X) 2 Try.pu3 Try.pi3 rfl rfl rfl rfl (by decide) rfl) ?_)
        refine JL_op rfl (op_read rfl rfl (r_fieldAddr (r := Addr.add c_7 2) Try.pu37 (f := Try.pf37.getD 2 default) rfl Try.pi2 (by decide) rfl (Addr.add_add _ _ _)) ?_)
        refine JL_op rfl (op_read rfl rfl (r_load_priv (a := c_7) (off := 2) (cs' := [.int .i64 goal_3.C]) (v := .int .i64 goal_3.C) 2 Try.pu2 Try.pi2 rfl rfl rfl rfl (by decide) rfl) ?_)
        refine JL_op rfl (op_read rfl rfl (r_neg rfl) ?_)
        refine JL_op rfl (op_read rfl rfl (r_sub rfl rfl) ?_)
        refine JL_op rfl (op_read rfl rfl (r_build (cs := [.int .i64 goal_3.Y, .int .i64 goal_3.X, .int .i64 (IntKind.i64.wrap ((IntKind.i64.wrap (0 - goal_3.C)) - 1))]) (vs := [(0, .int .i64 goal_3.Y), (1, .int .i64 goal_3.X), (2, .int .i64 (IntKind.i64.wrap ((IntKind.i64.wrap (0 - goal_3.C)) - 1)))]) (pcs := [(0, [.int .i64 goal_3.Y]), (1, [.int .i64 goal_3.X]), (2, [.int .i64 (IntKind.i64.wrap ((IntKind.i64.wrap (0 - goal_3.C)) - 1))])]) (pls := [(0, 1), (1, 1), (2, 1)]) Try.pu37 Try.pi37 rfl (by kernel_rfl) rfl ⟨rfl, rfl, ⟨rfl, rfl, ⟨rfl, rfl, trivial⟩⟩⟩ rfl) ?_)
        refine J_bind fun x_29 hx_30 => ?_
        refine JL_op rfl (op_read rfl rfl (r_index_row (v := v_18) (T := (t_Gdiff_Leq).o) (q := x_29) 0 Try.pu23 Try.pi37 rfl rfl rfl rfl hx_30) ?_)
        refine JL_op rfl (op_store_row (v := v_18) (u := (.agg #[.int .i64 goal_3.Y, .int .i64 goal_3.X, .int .i64 (IntKind.i64.wrap ((IntKind.i64.wrap (0 - goal_3.C)) - 1))])) (T := (t_Gdiff_Leq).o) (q := (⟨goal_3.Y, goal_3.X, IntKind.i64.wrap ((IntKind.i64.wrap (0 - goal_3.C)) - 1)⟩ : Gdiff_Leq)) (i := x_6.len) [] [.row (t_Gdiff_Leq).o 37 v_5 x_6, .cell c_7 [.int .i64 goal_3.X, .int .i64 goal_3.Y, .int .i64 goal_3.C]] Try.pi37 rfl rfl rfl rfl (fix_vrel (T := (t_Gdiff_Leq).o) rfl (t_Gdiff_Leq_v.2 rfl)) ?_)
        intro s_31 hs_32
        refine JL_nil ?_
        refine J_then ?_
        refine J_seq ?_
        refine J_region ?_
        refine JL_op rfl (op_read rfl rfl (r_move (v := .int .i64 n_1) rfl) ?_)
        refine JL_op rfl (op_read rfl rfl (r_move (v := v_18) rfl) ?_)
        refine JL_op rfl (op_call (f := 29) (fn := Try.f29) (args := [.int .i64 n_1, v_18]) (post := diff_solve_post σ n_1 v_18 s_31) [.row (t_Gdiff_Leq).o 37 v_18 s_31] [.row (t_Gdiff_Leq).o 37 v_5 x_6, .cell c_7 [.int .i64 goal_3.X, .int .i64 goal_3.Y, .int .i64 goal_3.C]] rfl rfl rfl Try.func29 Try.pn29 rfl rfl (fun y st hy hpre => diff_solve_ref st σ n_1 v_18 s_31 hpre y hy) ?_)
        intro r_33 v_35 s_38 PV_36 hr_34 hle_39 hp_37
        obtain ⟨v_41, v_43, rfl, rfl, rfl⟩ := hp_37
        refine JL_op rfl (op_read rfl rfl (r_move (v := .tuple #[v_41, v_43]) rfl) ?_)
        refine JL_op rfl (op_read rfl rfl (r_extract (v := v_41) rfl rfl) ?_)
        refine JL_op rfl (op_read rfl rfl (r_extract (v := v_43) rfl rfl) ?_)
        refine JL_op rfl (op_read rfl rfl (r_assign (v := v_41) rfl) ?_)
        refine JL_op rfl (op_read rfl rfl (r_assign (v := v_43) rfl) ?_)
        refine JL_nil ?_
        refine J_then ?_
        refine J_seq ?_
        refine J_region ?_
        refine JL_op rfl (op_read rfl rfl (r_move (v := v_43) rfl) ?_)
        refine JL_op rfl (op_read rfl rfl (r_nenil_row (v := v_43) 1 Try.pu22 rfl rfl rfl) ?_)
        refine JL_op rfl (op_read rfl rfl (r_assign (v := .bool r_33.2.nn) rfl) ?_)
        refine JL_op rfl (op_read rfl rfl (r_assign (v := .int .i64 0) rfl) ?_)
        refine JL_nil ?_
        refine J_then ?_
        refine J_ret ?_
        exact J_returnV2 (PV' := [.row (t_Gdiff_Leq).o 37 v_5 x_6]) rfl rv_tmp rv_tmp [3] (by decide) rfl ⟨rfl, rfl, rfl⟩
def cert_turned_post (σ0 : FS) (v_1 : Value) (goal_2 : Gdiff_Leq) (r : Unit) (σ : FS) (PV : List Priv) (v : Value) : Prop :=
  σ0 = σ ∧ .agg #[.int .i64 goal_2.Y, .int .i64 goal_2.X, .int .i64 (IntKind.i64.wrap ((IntKind.i64.wrap (0 - goal_2.C)) - 1))] = v ∧ PV = []
set_option maxRecDepth 100000 in
theorem cert_turned_ref (s : Start) (σ : FS) (v_1 : Value) (goal_2 : Gdiff_Leq) (h_3 : t_Gdiff_Leq.vrel σ v_1 goal_2) (hs : Pre s σ []) (r : Unit) (hr : cert_turned goal_2 = some r) : Does Try.prog 25 [v_1] s σ (cert_turned_post σ v_1 goal_2 r) := by
  unfold cert_turned at hr
  obtain rfl := t_Gdiff_Leq_v.1 h_3
  refine does_of_J Try.func25 rfl (n := 12) rfl rfl hs hr ?_
  refine J_seq ?_
  refine J_region ?_
  refine JL_op rfl (op_box (cs := [.int .i64 goal_2.X, .int .i64 goal_2.Y, .int .i64 goal_2.C]) rfl rfl ?_)
  intro c_4
  refine JL_op rfl (op_alloc (cs := [.int .i64 0, .int .i64 0, .int .i64 0]) rfl Try.pi37 rfl rfl ?_)
  intro c_6
  refine JL_nil ?_
  refine J_then ?_
  refine J_seq ?_
  refine J_region ?_
  refine JL_op rfl (op_read rfl rfl (r_fieldAddr (r := Addr.add c_4 1) Try.pu37 (f := Try.pf37.getD 1 default) rfl Try.pi3 (by decide) rfl (Addr.add_add _ _ _)) ?_)
  refine JL_op rfl (op_read rfl rfl (r_load_priv (a := c_4) (off := 1) (cs' := [.int .i64 goal_2.Y]) (v := .int .i64 goal_2.Y) 1 Try.pu3 Try.pi3 rfl rfl rfl rfl (by decide) rfl) ?_)
  refine JL_op rfl (op_read rfl rfl (r_fieldAddr (r := Addr.add c_4 0) Try.pu37 (f := Try.pf37.getD 0 default) rfl Try.pi3 (by decide) rfl (Addr.add_add _ _ _)) ?_)
  refine JL_op rfl (op_read rfl rfl (r_load_priv (a := c_4) (off := 0) (cs' := [.int .i64 goal_2.X]) (v := .int .i64 goal_2.X) 1 Try.pu3 Try.pi3 rfl rfl rfl rfl (by decide) rfl) ?_)
  refine JL_op rfl (op_read rfl rfl (r_fieldAddr (r := Addr.add c_4 2) Try.pu37 (f := Try.pf37.getD 2 default) rfl Try.pi2 (by decide) rfl (Addr.add_add _ _ _)) ?_)
  refine JL_op rfl (op_read rfl rfl (r_load_priv (a := c_4) (off := 2) (cs' := [.int .i64 goal_2.C]) (v := .int .i64 goal_2.C) 1 Try.pu2 Try.pi2 rfl rfl rfl rfl (by decide) rfl) ?_)
  refine JL_op rfl (op_read rfl rfl (r_neg rfl) ?_)
  refine JL_op rfl (op_read rfl rfl (r_sub rfl rfl) ?_)
  refine JL_op rfl (op_read rfl rfl (r_build (cs := [.int .i64 goal_2.Y, .int .i64 goal_2.X, .int .i64 (IntKind.i64.wrap ((IntKind.i64.wrap (0 - goal_2.C)) - 1))]) (vs := [(0, .int .i64 goal_2.Y), (1, .int .i64 goal_2.X), (2, .int .i64 (IntKind.i64.wrap ((IntKind.i64.wrap (0 - goal_2.C)) - 1)))]) (pcs := [(0, [.int .i64 goal_2.Y]), (1, [.int .i64 goal_2.X]), (2, [.int .i64 (IntKind.i64.wrap ((IntKind.i64.wrap (0 - goal_2.C)) - 1))])]) (pls := [(0, 1), (1, 1), (2, 1)]) Try.pu37 Try.pi37 rfl (by kernel_rfl) rfl ⟨rfl, rfl, ⟨rfl, rfl, ⟨rfl, rfl, trivial⟩⟩⟩ rfl) ?_)
  refine JL_op rfl (op_store_priv (a := c_6) (off := 0) (vs := [.int .i64 goal_2.Y, .int .i64 goal_2.X, .int .i64 (IntKind.i64.wrap ((IntKind.i64.wrap (0 - goal_2.C)) - 1))]) (cs' := [.int .i64 goal_2.Y, .int .i64 goal_2.X, .int .i64 (IntKind.i64.wrap ((IntKind.i64.wrap (0 - goal_2.C)) - 1))]) (PV' := [.cell c_6 [.int .i64 goal_2.Y, .int .i64 goal_2.X, .int .i64 (IntKind.i64.wrap ((IntKind.i64.wrap (0 - goal_2.C)) - 1))], .cell c_4 [.int .i64 goal_2.X, .int .i64 goal_2.Y, .int .i64 goal_2.C]]) 0 Try.pi37 rfl rfl rfl ⟨rfl, rfl, rfl, trivial⟩ rfl rfl rfl rfl rfl ?_)
  refine JL_nil ?_
  refine J_then ?_
  refine J_ret ?_
  exact J_returnV1 (PV' := []) rfl (rv_cell (cs := [.int .i64 goal_2.Y, .int .i64 goal_2.X, .int .i64 (IntKind.i64.wrap ((IntKind.i64.wrap (0 - goal_2.C)) - 1))]) (v := .agg #[.int .i64 goal_2.Y, .int .i64 goal_2.X, .int .i64 (IntKind.i64.wrap ((IntKind.i64.wrap (0 - goal_2.C)) - 1))]) 0 Try.pu37 Try.pi37 rfl rfl rfl (by decide) rfl) [] (by decide) rfl ⟨rfl, rfl, rfl⟩
def cert_within_post (σ0 : FS) (n_1 : Int) (most_2 : Int) (r : Unit) (σ : FS) (PV : List Priv) (v : Value) : Prop :=
  σ0 = σ ∧ .bool (decide (n_1 ≤ most_2) && decide ((IntKind.i64.wrap (0 - most_2)) ≤ n_1)) = v ∧ PV = []
set_option maxRecDepth 100000 in
theorem cert_within_ref (s : Start) (σ : FS) (n_1 : Int) (most_2 : Int) (hs : Pre s σ []) (r : Unit) (hr : cert_within n_1 most_2 = some r) : Does Try.prog 21 [.int .i64 n_1, .int .i64 most_2] s σ (cert_within_post σ n_1 most_2 r) := by
  unfold cert_within at hr
  refine does_of_J Try.func21 rfl (n := 14) rfl rfl hs hr ?_
  refine J_seq ?_
  refine J_region ?_
  refine JL_op rfl (op_read rfl rfl (r_assign (v := .bool false) rfl) ?_)
  refine JL_nil ?_
  refine J_then ?_
  refine J_seq ?_
  refine J_region ?_
  refine JL_op rfl (op_read rfl rfl (r_move (v := .int .i64 n_1) rfl) ?_)
  refine JL_op rfl (op_read rfl rfl (r_move (v := .int .i64 most_2) rfl) ?_)
  refine JL_op rfl (op_read rfl rfl (r_leq rfl rfl) ?_)
  refine JL_op rfl (op_read rfl rfl (r_move (v := .bool (decide (n_1 ≤ most_2))) rfl) ?_)
  refine J_forkL (e := (decide (n_1 ≤ most_2))) 5 [(13, .bool (decide (n_1 ≤ most_2) && decide ((IntKind.i64.wrap (0 - most_2)) ≤ n_1)))] (fun hc_3 hk => ?_) (fun hc_3 hk => ?_) (fun b => ?_)
  · refine JL_opg rfl rfl hc_3 (op_read rfl rfl (r_move (v := .int .i64 n_1) rfl) ?_)
    refine JL_opg rfl rfl hc_3 (op_read rfl rfl (r_move (v := .int .i64 most_2) rfl) ?_)
    refine JL_opg rfl rfl hc_3 (op_read rfl rfl (r_neg rfl) ?_)
    refine JL_opg rfl rfl hc_3 (op_read rfl rfl (r_geq rfl rfl) ?_)
    refine JL_op rfl (op_read rfl rfl (r_pick_t (v := .bool (decide ((IntKind.i64.wrap (0 - most_2)) ≤ n_1))) rfl hc_3 rfl) ?_)
    refine J_prune [(13, .bool (decide (n_1 ≤ most_2) && decide ((IntKind.i64.wrap (0 - most_2)) ≤ n_1)))] ⟨(by show Value.bool _ = Value.bool _; rw [hc_3]; rfl), trivial⟩ hk
  · refine JL_skip rfl rfl hc_3 rfl rfl ?_
    refine JL_skip rfl rfl hc_3 rfl rfl ?_
    refine JL_skip rfl rfl hc_3 rfl rfl ?_
    refine JL_skip rfl rfl hc_3 rfl rfl ?_
    refine JL_op rfl (op_read rfl rfl (r_pick_f (v := .bool false) rfl hc_3 rfl) ?_)
    refine J_prune [(13, .bool (decide (n_1 ≤ most_2) && decide ((IntKind.i64.wrap (0 - most_2)) ≤ n_1)))] ⟨(by show Value.bool _ = Value.bool _; rw [hc_3]; rfl), trivial⟩ hk
  · refine JL_op rfl (op_read rfl rfl (r_assign (v := .bool (decide (n_1 ≤ most_2) && decide ((IntKind.i64.wrap (0 - most_2)) ≤ n_1))) rfl) ?_)
    refine JL_nil ?_
    refine J_then ?_
    refine J_ret ?_
    exact J_returnV1 (PV' := []) rfl rv_tmp [] (by decide) rfl ⟨rfl, rfl, rfl⟩
def cert_Circle_1_post (σ0 : FS) (k_1 : Int) (a_2 : Addr) (v_3 : Value) (x_4 : Sl Gdiff_Leq) (r : Bool) (σ : FS) (PV : List Priv) (v : Value) : Prop :=
  σ0 = σ ∧ .bool r = v ∧ PV = [.cell a_2 [v_3], .row (t_Gdiff_Leq).o 37 v_3 x_4]
set_option maxRecDepth 100000 in
theorem cert_Circle_1_ref (s : Start) (σ : FS) (k_1 : Int) (a_2 : Addr) (v_3 : Value) (x_4 : Sl Gdiff_Leq) (hs : Pre s σ [.cell a_2 [v_3], .row (t_Gdiff_Leq).o 37 v_3 x_4]) (r : Bool) (hr : cert_Circle_1 k_1 x_4 = some r) : Does Try.prog 20 [.int .i64 k_1, .pointer (some (Addr.add a_2 0))] s σ (cert_Circle_1_post σ k_1 a_2 v_3 x_4 r) := by
  unfold cert_Circle_1 at hr
  refine does_of_J Try.func20 rfl (n := 21) rfl rfl hs hr ?_
  refine J_seq ?_
  refine J_region ?_
  refine JL_op rfl (op_read rfl rfl (r_assign (v := .bool false) rfl) ?_)
  refine JL_nil ?_
  refine J_then ?_
  refine J_seq ?_
  refine J_region ?_
  refine JL_op rfl (op_read rfl rfl (r_move (v := .int .i64 k_1) rfl) ?_)
  refine JL_op rfl (op_read rfl rfl (r_lss rfl rfl) ?_)
  refine JL_op rfl (op_read rfl rfl (r_move (v := .bool (decide (k_1 < 0))) rfl) ?_)
  refine J_forkL (e := (decide (k_1 < 0))) 5 [(0, .int .i64 k_1), (1, .pointer (some (Addr.add a_2 0))), (11, .bool (decide (k_1 < 0) || decide (x_4.len ≤ k_1)))] (fun hc_5 hk => ?_) (fun hc_5 hk => ?_) (fun b => ?_)
  · refine JL_skip rfl rfl hc_5 rfl rfl ?_
    refine JL_skip rfl rfl hc_5 rfl rfl ?_
    refine JL_skip rfl rfl hc_5 rfl rfl ?_
    refine JL_skip rfl rfl hc_5 rfl rfl ?_
    refine JL_op rfl (op_read rfl rfl (r_pick_t (v := .bool true) rfl hc_5 rfl) ?_)
    refine J_prune [(0, .int .i64 k_1), (1, .pointer (some (Addr.add a_2 0))), (11, .bool (decide (k_1 < 0) || decide (x_4.len ≤ k_1)))] ⟨rfl, rfl, (by show Value.bool _ = Value.bool _; rw [hc_5]; rfl), trivial⟩ hk
  · refine JL_opg rfl rfl hc_5 (op_read rfl rfl (r_move (v := .int .i64 k_1) rfl) ?_)
    refine JL_opg rfl rfl hc_5 (op_read rfl rfl (r_load_priv (a := a_2) (off := 0) (cs' := [v_3]) (v := v_3) 0 Try.pu23 Try.pi23 rfl rfl rfl rfl (by decide) rfl) ?_)
    refine JL_opg rfl rfl hc_5 (op_read rfl rfl (r_len_row (v := v_3) 1 Try.pu23 rfl rfl) ?_)
    refine JL_opg rfl rfl hc_5 (op_read rfl rfl (r_geq rfl rfl) ?_)
    refine JL_op rfl (op_read rfl rfl (r_pick_f (v := .bool (decide (x_4.len ≤ k_1))) rfl hc_5 rfl) ?_)
    refine J_prune [(0, .int .i64 k_1), (1, .pointer (some (Addr.add a_2 0))), (11, .bool (decide (k_1 < 0) || decide (x_4.len ≤ k_1)))] ⟨rfl, rfl, (by show Value.bool _ = Value.bool _; rw [hc_5]; rfl), trivial⟩ hk
  · refine JL_op rfl (op_read rfl rfl (r_move (v := .bool (decide (k_1 < 0) || decide (x_4.len ≤ k_1))) rfl) ?_)
    refine J_forkLB (e := (decide (k_1 < 0) || decide (x_4.len ≤ k_1))) 8 (fun (y : Bool) L τ PV => σ = τ ∧ L = [(20, .bool y)] ∧ PV = [.cell a_2 [v_3], .row (t_Gdiff_Leq).o 37 v_3 x_4]) (fun hc_6 hk => ?_) (fun hc_6 hk => ?_) ?_
    · refine JL_skip rfl rfl hc_6 rfl rfl ?_
      refine JL_skip rfl rfl hc_6 rfl rfl ?_
      refine JL_skip rfl rfl hc_6 rfl rfl ?_
      refine JL_skip rfl rfl hc_6 rfl rfl ?_
      refine JL_skip rfl rfl hc_6 rfl rfl ?_
      refine JL_skip rfl rfl hc_6 rfl rfl ?_
      refine JL_skip rfl rfl hc_6 rfl rfl ?_
      refine JL_op rfl (op_read rfl rfl (r_pick_t (v := .bool true) rfl hc_6 rfl) ?_)
      refine J_prune _ ?_ fun b => hk true _ b _ _ ⟨rfl, rfl, rfl⟩
      exact ⟨rfl, trivial⟩
    · refine JL_opg rfl rfl hc_6 (op_read rfl rfl (r_load_priv (a := a_2) (off := 0) (cs' := [v_3]) (v := v_3) 0 Try.pu23 Try.pi23 rfl rfl rfl rfl (by decide) rfl) ?_)
      refine JL_opg rfl rfl hc_6 (op_read rfl rfl (r_move (v := .int .i64 k_1) rfl) ?_)
      refine J_assoc ?_
      refine J_bind fun x_8 hx_9 => ?_
      refine JL_opg rfl rfl hc_6 (op_read rfl rfl (r_index_row (v := v_3) (T := (t_Gdiff_Leq).o) (q := x_8) 1 Try.pu23 Try.pi37 rfl rfl rfl rfl hx_9) ?_)
      refine JL_opg rfl rfl hc_6 (op_read rfl rfl (r_fieldAddr (r := elemAddr v_3 ((k_1).toNat * ((t_Gdiff_Leq).o).size + 2)) Try.pu37 (f := Try.pf37.getD 2 default) rfl Try.pi2 (by decide) rfl (elemAddr_add _ _ _)) ?_)
      refine JL_opg rfl rfl hc_6 (op_reads rfl rfl (l_elem_orow (v := v_3) (T := (t_Gdiff_Leq).o) (Tf := (tInt .i64)) (q := x_8) (i := k_1) (off := 2) 1 Try.pu2 Try.pi2 rfl rfl rfl rfl hx_9 (OFieldAt.of f_Gdiff_Leq_C) (by decide)) ?_)
      intro v_10 h_11
      obtain rfl := tInt_v.1 h_11
      refine J_assoc ?_
      refine JL_opg rfl rfl hc_6 (op_call (f := 21) (fn := Try.f21) (args := [.int .i64 x_8.C, .int .i64 17592186044416]) (post := cert_within_post σ x_8.C 17592186044416) [] [.cell a_2 [v_3], .row (t_Gdiff_Leq).o 37 v_3 x_4] rfl rfl rfl Try.func21 Try.pn21 rfl rfl (fun y st hy hpre => cert_within_ref st σ x_8.C 17592186044416 hpre y hy) ?_)
      intro r_12 v_14 s_17 PV_15 hr_13 hle_18 hp_16
      obtain ⟨rfl, rfl, rfl⟩ := hp_16
      refine JL_opg rfl rfl hc_6 (op_read rfl rfl (r_not rfl) ?_)
      refine JL_op rfl (op_read rfl rfl (r_pick_f (v := .bool (!(decide (x_8.C ≤ 17592186044416) && decide ((IntKind.i64.wrap (0 - 17592186044416)) ≤ x_8.C)))) rfl hc_6 rfl) ?_)
      refine J_prune _ ?_ fun b => hk (!(decide (x_8.C ≤ 17592186044416) && decide ((IntKind.i64.wrap (0 - 17592186044416)) ≤ x_8.C))) _ b _ _ ⟨rfl, rfl, rfl⟩
      exact ⟨rfl, trivial⟩
    · rintro y_7 _ b s_21 _ ⟨rfl, rfl, rfl⟩
      refine JL_op rfl (op_read rfl rfl (r_assign (v := .bool y_7) rfl) ?_)
      refine JL_nil ?_
      refine J_then ?_
      refine J_ret ?_
      exact J_returnV1 (PV' := [.cell a_2 [v_3], .row (t_Gdiff_Leq).o 37 v_3 x_4]) rfl rv_tmp [0, 1] (by decide) rfl ⟨rfl, rfl, rfl⟩
def slices_IndexFunc_v2_post (σ0 : FS) (v_1 : Value) (x_2 : Sl Int) (a_3 : Addr) (v_4 : Value) (x_5 : Sl Gdiff_Leq) (r : Int) (σ : FS) (PV : List Priv) (v : Value) : Prop :=
  σ0 = σ ∧ .int .i64 r = v ∧ PV = [.row ((tInt .i64)).o 3 v_1 x_2, .cell a_3 [v_4], .row (t_Gdiff_Leq).o 37 v_4 x_5]
set_option maxRecDepth 100000 in
theorem slices_IndexFunc_v2_ref (s : Start) (σ : FS) (v_1 : Value) (x_2 : Sl Int) (a_3 : Addr) (v_4 : Value) (x_5 : Sl Gdiff_Leq) (hs : Pre s σ [.row ((tInt .i64)).o 3 v_1 x_2, .cell a_3 [v_4], .row (t_Gdiff_Leq).o 37 v_4 x_5]) (r : Int) (hr : slices_IndexFunc_v2 x_2 x_5 = some r) : Does Try.prog 30 [v_1, .func (.func 20) #[] #[.pointer (some (Addr.add a_3 0))]] s σ (slices_IndexFunc_v2_post σ v_1 x_2 a_3 v_4 x_5 r) := by
  unfold slices_IndexFunc_v2 at hr
  refine does_of_J Try.func30 rfl (n := 19) rfl rfl hs hr ?_
  refine J_seq ?_
  refine J_region ?_
  refine JL_op rfl (op_read rfl rfl (r_assign (v := .int .i64 0) rfl) ?_)
  refine JL_nil ?_
  refine J_then ?_
  refine J_seq ?_
  refine J_seq ?_
  refine J_region ?_
  refine JL_op rfl (op_read rfl rfl (r_move (v := v_1) rfl) ?_)
  refine JL_op rfl (op_read rfl rfl (r_len_row (v := v_1) 0 Try.pu22 rfl rfl) ?_)
  refine JL_op rfl (op_read rfl rfl (r_move (v := .int .i64 0) rfl) ?_)
  refine JL_nil ?_
  refine J_then ?_
  refine J_block ?_
  refine J_loop (fun (y : Int) L τ PV => σ = τ ∧ L = [(0, v_1), (1, .func (.func 20) #[] #[.pointer (some (Addr.add a_3 0))]), (7, .int .i64 x_2.len), (8, .int .i64 y)] ∧ PV = [.row ((tInt .i64)).o 3 v_1 x_2, .cell a_3 [v_4], .row (t_Gdiff_Leq).o 37 v_4 x_5]) (fun (y : W2 Unit Int) e L τ PV => match y, e with | .a y, e => e = .exit 0 ∧ (σ = τ ∧ L = [] ∧ PV = [.row ((tInt .i64)).o 3 v_1 x_2, .cell a_3 [v_4], .row (t_Gdiff_Leq).o 37 v_4 x_5]) | .b y, e => e = .ret ∧ (σ = τ ∧ L = [(4, .int .i64 y)] ∧ PV = [.row ((tInt .i64)).o 3 v_1 x_2, .cell a_3 [v_4], .row (t_Gdiff_Leq).o 37 v_4 x_5])) _ ?_ ⟨rfl, rfl, rfl⟩ ?_ ?_
  · exact ⟨rfl, rfl, rfl, rfl, trivial⟩
  · rintro x_6 _ b s_9 _ ⟨rfl, rfl, rfl⟩
    unfold slices_IndexFunc_v2_L1
    refine J_seq ?_
    refine J_region ?_
    refine JL_op rfl (op_read rfl rfl (r_lss rfl rfl) ?_)
    refine JL_nil ?_
    refine J_then ?_
    refine J_seq ?_
    refine J_cond rfl (fun hc_10 => ?_) (fun hc_10 => ?_)
    · refine J_skip ?_
      refine J_then ?_
      refine J_seq ?_
      refine J_block ?_
      refine J_seq ?_
      refine J_region ?_
      refine JL_op rfl (op_read rfl rfl (r_move (v := .int .i64 x_6) rfl) ?_)
      refine JL_op rfl (op_read rfl rfl (r_assign (v := .int .i64 x_6) rfl) ?_)
      refine JL_nil ?_
      refine J_then ?_
      refine J_seq ?_
      refine J_region ?_
      refine JL_op rfl (op_read rfl rfl (r_move (v := .func (.func 20) #[] #[.pointer (some (Addr.add a_3 0))]) rfl) ?_)
      refine JL_op rfl (op_read rfl rfl (r_move (v := v_1) rfl) ?_)
      refine JL_op rfl (op_read rfl rfl (r_move (v := .int .i64 x_6) rfl) ?_)
      refine J_bind fun x_11 hx_12 => ?_
      refine JL_op rfl (op_read rfl rfl (r_index_row (v := v_1) (T := ((tInt .i64)).o) (q := x_11) 0 Try.pu22 Try.pi3 rfl rfl rfl rfl hx_12) ?_)
      refine JL_op rfl (op_reads rfl rfl (l_elem_orow (v := v_1) (T := ((tInt .i64)).o) (Tf := (tInt .i64)) (q := x_11) (i := x_6) (off := 0) 0 Try.pu3 Try.pi3 rfl rfl rfl rfl hx_12 (OFieldAt.self (T := ((tInt .i64)).o)) (by decide)) ?_)
      intro v_13 h_14
      obtain rfl := tInt_v.1 h_14
      refine J_select (PV' := [.cell a_3 [v_4], .row (t_Gdiff_Leq).o 37 v_4 x_5, .row ((tInt .i64)).o 3 v_1 x_2]) [1, 2, 0] (by decide) rfl ?_
      refine JL_op rfl (op_call (f := 20) (fn := Try.f20) (args := [.int .i64 x_11, .pointer (some (Addr.add a_3 0))]) (post := cert_Circle_1_post σ x_11 a_3 v_4 x_5) [.cell a_3 [v_4], .row (t_Gdiff_Leq).o 37 v_4 x_5] [.row ((tInt .i64)).o 3 v_1 x_2] rfl rfl rfl Try.func20 Try.pn20 rfl rfl (fun y st hy hpre => cert_Circle_1_ref st σ x_11 a_3 v_4 x_5 hpre y hy) ?_)
      intro r_15 v_17 s_20 PV_18 hr_16 hle_21 hp_19
      obtain ⟨rfl, rfl, rfl⟩ := hp_19
      refine JL_nil ?_
      refine J_then ?_
      refine J_cond rfl (fun hc_22 => ?_) (fun hc_22 => ?_)
      · refine J_seq ?_
        refine J_region ?_
        refine JL_op rfl (op_read rfl rfl (r_move (v := .int .i64 x_6) rfl) ?_)
        refine JL_op rfl (op_read rfl rfl (r_assign (v := .int .i64 x_6) rfl) ?_)
        refine JL_nil ?_
        refine J_then ?_
        refine J_ret ?_
        refine J_in_ret ?_
        refine J_then_ret ?_
        refine J_select (PV' := [.row ((tInt .i64)).o 3 v_1 x_2, .cell a_3 [v_4], .row (t_Gdiff_Leq).o 37 v_4 x_5]) [2, 0, 1] (by decide) rfl ?_
        refine J_done trivial _ ?_ ⟨rfl, rfl, rfl, rfl⟩
        exact ⟨rfl, trivial⟩
      · refine J_skip ?_
        refine J_in_normal ?_
        refine J_then ?_
        refine J_region ?_
        refine JL_op rfl (op_read rfl rfl (r_add rfl rfl) ?_)
        refine JL_op rfl (op_read rfl rfl (r_move (v := .int .i64 (IntKind.i64.wrap (x_6 + 1))) rfl) ?_)
        refine JL_nil ?_
        refine J_select (PV' := [.row ((tInt .i64)).o 3 v_1 x_2, .cell a_3 [v_4], .row (t_Gdiff_Leq).o 37 v_4 x_5]) [2, 0, 1] (by decide) rfl ?_
        refine J_next _ ?_ ⟨rfl, rfl, rfl⟩
        exact ⟨rfl, rfl, rfl, rfl, trivial⟩
    · refine J_exit ?_
      refine J_then_exit ?_
      refine J_done trivial _ ?_ ⟨rfl, rfl, rfl, rfl⟩
      exact trivial
  · rintro (y_24 | y_28) e L b τ PV ht
    · obtain ⟨rfl, ht⟩ := ht
      revert ht; revert PV; revert τ; revert b; revert L
      rintro _ b s_27 _ ⟨rfl, rfl, rfl⟩
      refine J_in_exit ?_
      refine J_then ?_
      refine J_seq ?_
      refine J_region ?_
      refine JL_op rfl (op_read rfl rfl (r_assign (v := .int .i64 (-1)) rfl) ?_)
      refine JL_nil ?_
      refine J_then ?_
      refine J_ret ?_
      exact J_returnV1 (PV' := [.row ((tInt .i64)).o 3 v_1 x_2, .cell a_3 [v_4], .row (t_Gdiff_Leq).o 37 v_4 x_5]) rfl rv_tmp [0, 1, 2] (by decide) rfl ⟨rfl, rfl, rfl⟩
    · obtain ⟨rfl, ht⟩ := ht
      revert ht; revert PV; revert τ; revert b; revert L
      rintro _ b s_31 _ ⟨rfl, rfl, rfl⟩
      refine J_in_ret ?_
      refine J_then_ret ?_
      exact J_returnV1 (PV' := [.row ((tInt .i64)).o 3 v_1 x_2, .cell a_3 [v_4], .row (t_Gdiff_Leq).o 37 v_4 x_5]) rfl rv_tmp [0, 1, 2] (by decide) rfl ⟨rfl, rfl, rfl⟩
def slices_ContainsFunc_v2_post (σ0 : FS) (v_1 : Value) (x_2 : Sl Int) (a_3 : Addr) (v_4 : Value) (x_5 : Sl Gdiff_Leq) (r : Bool) (σ : FS) (PV : List Priv) (v : Value) : Prop :=
  σ0 = σ ∧ .bool r = v ∧ PV = [.row ((tInt .i64)).o 3 v_1 x_2, .cell a_3 [v_4], .row (t_Gdiff_Leq).o 37 v_4 x_5]
set_option maxRecDepth 100000 in
theorem slices_ContainsFunc_v2_ref (s : Start) (σ : FS) (v_1 : Value) (x_2 : Sl Int) (a_3 : Addr) (v_4 : Value) (x_5 : Sl Gdiff_Leq) (hs : Pre s σ [.row ((tInt .i64)).o 3 v_1 x_2, .cell a_3 [v_4], .row (t_Gdiff_Leq).o 37 v_4 x_5]) (r : Bool) (hr : slices_ContainsFunc_v2 x_2 x_5 = some r) : Does Try.prog 19 [v_1, .func (.func 20) #[] #[.pointer (some (Addr.add a_3 0))]] s σ (slices_ContainsFunc_v2_post σ v_1 x_2 a_3 v_4 x_5 r) := by
  unfold slices_ContainsFunc_v2 at hr
  refine does_of_J Try.func19 rfl (n := 9) rfl rfl hs hr ?_
  refine J_seq ?_
  refine J_region ?_
  refine JL_op rfl (op_read rfl rfl (r_assign (v := .bool false) rfl) ?_)
  refine JL_nil ?_
  refine J_then ?_
  refine J_seq ?_
  refine J_region ?_
  refine JL_op rfl (op_read rfl rfl (r_move (v := v_1) rfl) ?_)
  refine JL_op rfl (op_read rfl rfl (r_move (v := .func (.func 20) #[] #[.pointer (some (Addr.add a_3 0))]) rfl) ?_)
  refine JL_op rfl (op_call (f := 30) (fn := Try.f30) (args := [v_1, .func (.func 20) #[] #[.pointer (some (Addr.add a_3 0))]]) (post := slices_IndexFunc_v2_post σ v_1 x_2 a_3 v_4 x_5) [.row ((tInt .i64)).o 3 v_1 x_2, .cell a_3 [v_4], .row (t_Gdiff_Leq).o 37 v_4 x_5] [] rfl rfl rfl Try.func30 Try.pn30 rfl rfl (fun y st hy hpre => slices_IndexFunc_v2_ref st σ v_1 x_2 a_3 v_4 x_5 hpre y hy) ?_)
  intro r_6 v_8 s_11 PV_9 hr_7 hle_12 hp_10
  obtain ⟨rfl, rfl, rfl⟩ := hp_10
  refine JL_op rfl (op_read rfl rfl (r_geq rfl rfl) ?_)
  refine JL_op rfl (op_read rfl rfl (r_assign (v := .bool (decide (0 ≤ r_6))) rfl) ?_)
  refine JL_nil ?_
  refine J_then ?_
  refine J_ret ?_
  exact J_returnV1 (PV' := [.row ((tInt .i64)).o 3 v_1 x_2, .cell a_3 [v_4], .row (t_Gdiff_Leq).o 37 v_4 x_5]) rfl rv_tmp [0, 1, 2] (by decide) rfl ⟨rfl, rfl, rfl⟩
def cert_Circle_post (σ0 : FS) (v_1 : Value) (x_2 : Sl Int) (v_3 : Value) (x_4 : Sl Gdiff_Leq) (r : Bool) (σ : FS) (PV : List Priv) (v : Value) : Prop :=
  σ0 = σ ∧ .bool r = v ∧ PV = [.row ((tInt .i64)).o 3 v_1 x_2, .row (t_Gdiff_Leq).o 37 v_3 x_4]
set_option maxRecDepth 100000 in
theorem cert_Circle_ref (s : Start) (σ : FS) (v_1 : Value) (x_2 : Sl Int) (v_3 : Value) (x_4 : Sl Gdiff_Leq) (hs : Pre s σ [.row ((tInt .i64)).o 3 v_1 x_2, .row (t_Gdiff_Leq).o 37 v_3 x_4]) (r : Bool) (hr : cert_Circle x_2 x_4 = some r) : Does Try.prog 10 [v_1, v_3] s σ (cert_Circle_post σ v_1 x_2 v_3 x_4 r) := by
  unfold cert_Circle at hr
  refine does_of_J Try.func10 rfl (n := 68) rfl rfl hs hr ?_
  refine J_seq ?_
  refine J_region ?_
  refine J_row_one 1 rfl fun h_5 => ?_
  refine JL_op rfl (op_box (cs := [v_3]) rfl (one_cells h_5) ?_)
  intro c_6
  refine JL_op rfl (op_read rfl rfl (r_assign (v := .bool false) rfl) ?_)
  refine JL_nil ?_
  refine J_then ?_
  refine J_seq ?_
  refine J_seq ?_
  refine J_region ?_
  refine JL_op rfl (op_read rfl rfl (r_move (v := v_1) rfl) ?_)
  refine JL_op rfl (op_read rfl rfl (r_len_row (v := v_1) 1 Try.pu22 rfl rfl) ?_)
  refine JL_op rfl (op_read rfl rfl (r_eql rfl rfl) ?_)
  refine JL_op rfl (op_read rfl rfl (r_move (v := .bool (decide (x_2.len = 0))) rfl) ?_)
  refine J_forkL (e := (decide (x_2.len = 0))) 4 [(0, v_1), (3, .pointer (some (Addr.add c_6 0))), (16, .bool (decide (x_2.len = 0) || decide (65536 < x_2.len)))] (fun hc_8 hk => ?_) (fun hc_8 hk => ?_) (fun b => ?_)
  · refine JL_skip rfl rfl hc_8 rfl rfl ?_
    refine JL_skip rfl rfl hc_8 rfl rfl ?_
    refine JL_skip rfl rfl hc_8 rfl rfl ?_
    refine JL_op rfl (op_read rfl rfl (r_pick_t (v := .bool true) rfl hc_8 rfl) ?_)
    refine J_prune [(0, v_1), (3, .pointer (some (Addr.add c_6 0))), (16, .bool (decide (x_2.len = 0) || decide (65536 < x_2.len)))] ⟨rfl, rfl, (by show Value.bool _ = Value.bool _; rw [hc_8]; rfl), trivial⟩ hk
  · refine JL_opg rfl rfl hc_8 (op_read rfl rfl (r_move (v := v_1) rfl) ?_)
    refine JL_opg rfl rfl hc_8 (op_read rfl rfl (r_len_row (v := v_1) 1 Try.pu22 rfl rfl) ?_)
    refine JL_opg rfl rfl hc_8 (op_read rfl rfl (r_gtr rfl rfl) ?_)
    refine JL_op rfl (op_read rfl rfl (r_pick_f (v := .bool (decide (65536 < x_2.len))) rfl hc_8 rfl) ?_)
    refine J_prune [(0, v_1), (3, .pointer (some (Addr.add c_6 0))), (16, .bool (decide (x_2.len = 0) || decide (65536 < x_2.len)))] ⟨rfl, rfl, (by show Value.bool _ = Value.bool _; rw [hc_8]; rfl), trivial⟩ hk
  · refine JL_op rfl (op_read rfl rfl (r_move (v := .bool (decide (x_2.len = 0) || decide (65536 < x_2.len))) rfl) ?_)
    refine J_forkLB (e := (decide (x_2.len = 0) || decide (65536 < x_2.len))) 4 (fun (y : Bool) L τ PV => σ = τ ∧ L = [(0, v_1), (3, .pointer (some (Addr.add c_6 0))), (21, .bool y)] ∧ PV = [.row ((tInt .i64)).o 3 v_1 x_2, .cell c_6 [v_3], .row (t_Gdiff_Leq).o 37 v_3 x_4]) (fun hc_9 hk => ?_) (fun hc_9 hk => ?_) ?_
    · refine JL_skip rfl rfl hc_9 rfl rfl ?_
      refine JL_skip rfl rfl hc_9 rfl rfl ?_
      refine JL_skip rfl rfl hc_9 rfl rfl ?_
      refine JL_op rfl (op_read rfl rfl (r_pick_t (v := .bool true) rfl hc_9 rfl) ?_)
      refine J_select (PV' := [.row ((tInt .i64)).o 3 v_1 x_2, .cell c_6 [v_3], .row (t_Gdiff_Leq).o 37 v_3 x_4]) [1, 0, 2] (by decide) rfl ?_
      refine J_prune _ ?_ fun b => hk true _ b _ _ ⟨rfl, rfl, rfl⟩
      exact ⟨rfl, rfl, rfl, trivial⟩
    · refine JL_opg rfl rfl hc_9 (op_read rfl rfl (r_move (v := v_1) rfl) ?_)
      refine JL_opg rfl rfl hc_9 (op_read rfl rfl (r_makeFunc (fs := []) (cs := [.pointer (some (Addr.add c_6 0))]) rfl rfl) ?_)
      refine J_select (PV' := [.row ((tInt .i64)).o 3 v_1 x_2, .cell c_6 [v_3], .row (t_Gdiff_Leq).o 37 v_3 x_4]) [1, 0, 2] (by decide) rfl ?_
      refine J_assoc ?_
      refine JL_opg rfl rfl hc_9 (op_call (f := 19) (fn := Try.f19) (args := [v_1, .func (.func 20) #[] #[.pointer (some (Addr.add c_6 0))]]) (post := slices_ContainsFunc_v2_post σ v_1 x_2 c_6 v_3 x_4) [.row ((tInt .i64)).o 3 v_1 x_2, .cell c_6 [v_3], .row (t_Gdiff_Leq).o 37 v_3 x_4] [] rfl rfl rfl Try.func19 Try.pn19 rfl rfl (fun y st hy hpre => slices_ContainsFunc_v2_ref st σ v_1 x_2 c_6 v_3 x_4 hpre y hy) ?_)
      intro r_11 v_13 s_16 PV_14 hr_12 hle_17 hp_15
      obtain ⟨rfl, rfl, rfl⟩ := hp_15
      refine JL_op rfl (op_read rfl rfl (r_pick_f (v := .bool r_11) rfl hc_9 rfl) ?_)
      refine J_prune _ ?_ fun b => hk r_11 _ b _ _ ⟨rfl, rfl, rfl⟩
      exact ⟨rfl, rfl, rfl, trivial⟩
    · rintro y_10 _ b s_20 _ ⟨rfl, rfl, rfl⟩
      refine JL_nil ?_
      refine J_then ?_
      refine J_cond rfl (fun hc_21 => ?_) (fun hc_21 => ?_)
      · refine J_seq ?_
        refine J_region ?_
        refine JL_op rfl (op_read rfl rfl (r_assign (v := .bool false) rfl) ?_)
        refine JL_nil ?_
        refine J_then ?_
        refine J_ret ?_
        refine J_then_ret ?_
        exact J_returnV1 (PV' := [.row ((tInt .i64)).o 3 v_1 x_2, .row (t_Gdiff_Leq).o 37 v_3 x_4]) rfl rv_tmp [0, 2] (by decide) rfl ⟨rfl, rfl, rfl⟩
      · refine J_skip ?_
        refine J_then ?_
        refine J_seq ?_
        refine J_region ?_
        refine JL_op rfl (op_read rfl rfl (r_assign (v := .int .i64 0) rfl) ?_)
        refine JL_nil ?_
        refine J_then ?_
        refine J_seq ?_
        refine J_region_any 8 [.row ((tInt .i64)).o 3 v_1 x_2, .cell c_6 [v_3], .row (t_Gdiff_Leq).o 37 v_3 x_4] Try.mixed (by kernel_rfl) fun hns => ?_
        have hS_22 : HeldOK σ [.row ((tInt .i64)).o 3 v_1 x_2, .cell c_6 [v_3], .row (t_Gdiff_Leq).o 37 v_3 x_4] σ [.row ((tInt .i64)).o 3 v_1 x_2, .cell c_6 [v_3], .row (t_Gdiff_Leq).o 37 v_3 x_4] := HeldOK.same [0, 1, 2] (by decide) rfl
        refine JA_take 0 rfl hns (by kernel_rfl) (by kernel_rfl) (by kernel_rfl) rfl (by kernel_rfl) hS_22 rfl rfl rfl (r_load_priv (a := c_6) (off := 0) (cs' := [v_3]) (v := v_3) 1 Try.pu23 Try.pi23 rfl rfl rfl rfl (by decide) rfl) ?_
        refine JA_takep 1 rfl hns (by kernel_rfl) (by kernel_rfl) rfl (.inr hS_22) rfl rfl rfl (r_move (v := v_1) rfl) ?_
        refine J_bind fun x_23 hx_24 => ?_
        refine JA_take 2 rfl hns (by kernel_rfl) (by kernel_rfl) (by kernel_rfl) rfl (by kernel_rfl) hS_22 rfl rfl rfl (r_index_row (v := v_1) (T := ((tInt .i64)).o) (q := x_23) 0 Try.pu22 Try.pi3 rfl rfl rfl rfl hx_24) ?_
        refine JA_takes 3 rfl hns (by kernel_rfl) (by kernel_rfl) (by kernel_rfl) rfl (by kernel_rfl) hS_22 rfl rfl rfl (l_elem_orow (v := v_1) (T := ((tInt .i64)).o) (Tf := (tInt .i64)) (q := x_23) (i := 0) (off := 0) 0 Try.pu3 Try.pi3 rfl rfl rfl rfl hx_24 (OFieldAt.self (T := ((tInt .i64)).o)) (by decide)) ?_
        intro v_25 h_26
        obtain rfl := tInt_v.1 h_26
        refine J_bind fun x_27 hx_28 => ?_
        refine JA_take 4 rfl hns (by kernel_rfl) (by kernel_rfl) (by kernel_rfl) rfl (by kernel_rfl) hS_22 rfl rfl rfl (r_index_row (v := v_3) (T := (t_Gdiff_Leq).o) (q := x_27) 2 Try.pu23 Try.pi37 rfl rfl rfl rfl hx_28) ?_
        refine JA_takep 5 rfl hns (by kernel_rfl) (by kernel_rfl) rfl (.inr hS_22) rfl rfl rfl (r_fieldAddr (r := elemAddr v_3 ((x_23).toNat * ((t_Gdiff_Leq).o).size + 0)) Try.pu37 (f := Try.pf37.getD 0 default) rfl Try.pi3 (by decide) rfl (elemAddr_add _ _ _)) ?_
        refine JA_takes 6 rfl hns (by kernel_rfl) (by kernel_rfl) (by kernel_rfl) rfl (by kernel_rfl) hS_22 rfl rfl rfl (l_elem_orow (v := v_3) (T := (t_Gdiff_Leq).o) (Tf := (tInt .i64)) (q := x_27) (i := x_23) (off := 0) 2 Try.pu3 Try.pi3 rfl rfl rfl rfl hx_28 (OFieldAt.of f_Gdiff_Leq_X) (by decide)) ?_
        intro v_29 h_30
        obtain rfl := tInt_v.1 h_30
        refine JA_takep 7 rfl hns (by kernel_rfl) (by kernel_rfl) rfl (.inr hS_22) rfl rfl rfl (r_assign (v := .int .i64 x_27.X) rfl) ?_
        refine JA_done (by kernel_rfl) ?_
        refine J_then ?_
        refine J_seq ?_
        refine J_seq ?_
        refine J_region ?_
        refine JL_op rfl (op_read rfl rfl (r_move (v := v_1) rfl) ?_)
        refine JL_op rfl (op_read rfl rfl (r_len_row (v := v_1) 0 Try.pu22 rfl rfl) ?_)
        refine JL_op rfl (op_read rfl rfl (r_move (v := .int .i64 0) rfl) ?_)
        refine JL_nil ?_
        refine J_then ?_
        refine J_block ?_
        refine J_loop (fun (y : Int × Int × Int) L τ PV => σ = τ ∧ L = [(0, v_1), (3, .pointer (some (Addr.add c_6 0))), (5, .int .i64 y.1), (6, .int .i64 y.2.1), (29, v_1), (30, .int .i64 x_2.len), (31, .int .i64 y.2.2)] ∧ PV = [.row ((tInt .i64)).o 3 v_1 x_2, .cell c_6 [v_3], .row (t_Gdiff_Leq).o 37 v_3 x_4]) (fun (y : W2 (Int × Int) Unit) e L τ PV => match y, e with | .a y, e => e = .exit 0 ∧ (σ = τ ∧ L = [(0, v_1), (3, .pointer (some (Addr.add c_6 0))), (5, .int .i64 y.1), (6, .int .i64 y.2)] ∧ PV = [.row ((tInt .i64)).o 3 v_1 x_2, .cell c_6 [v_3], .row (t_Gdiff_Leq).o 37 v_3 x_4]) | .b y, e => e = .ret ∧ (σ = τ ∧ L = [(4, .bool false)] ∧ PV = [.row ((tInt .i64)).o 3 v_1 x_2, .row (t_Gdiff_Leq).o 37 v_3 x_4])) _ ?_ ⟨rfl, rfl, rfl⟩ ?_ ?_
        · exact ⟨rfl, rfl, rfl, rfl, rfl, rfl, rfl, trivial⟩
        · rintro x_31 _ b s_34 _ ⟨rfl, rfl, rfl⟩
          unfold cert_Circle_L1
          refine J_seq ?_
          refine J_region ?_
          refine JL_op rfl (op_read rfl rfl (r_lss rfl rfl) ?_)
          refine JL_nil ?_
          refine J_then ?_
          refine J_seq ?_
          refine J_cond rfl (fun hc_35 => ?_) (fun hc_35 => ?_)
          · refine J_skip ?_
            refine J_then ?_
            refine J_seq ?_
            refine J_block ?_
            refine J_seq ?_
            refine J_region ?_
            refine J_bind fun x_36 hx_37 => ?_
            refine JL_op rfl (op_read rfl rfl (r_index_row (v := v_1) (T := ((tInt .i64)).o) (q := x_36) 0 Try.pu22 Try.pi3 rfl rfl rfl rfl hx_37) ?_)
            refine JL_op rfl (op_reads rfl rfl (l_elem_orow (v := v_1) (T := ((tInt .i64)).o) (Tf := (tInt .i64)) (q := x_36) (i := x_31.2.2) (off := 0) 0 Try.pu3 Try.pi3 rfl rfl rfl rfl hx_37 (OFieldAt.self (T := ((tInt .i64)).o)) (by decide)) ?_)
            intro v_38 h_39
            obtain rfl := tInt_v.1 h_39
            refine JL_op rfl (op_read rfl rfl (r_assign (v := .int .i64 x_36) rfl) ?_)
            refine JL_nil ?_
            refine J_then ?_
            refine J_seq ?_
            refine J_seq ?_
            refine J_region ?_
            refine JL_op rfl (op_read rfl rfl (r_load_priv (a := c_6) (off := 0) (cs' := [v_3]) (v := v_3) 1 Try.pu23 Try.pi23 rfl rfl rfl rfl (by decide) rfl) ?_)
            refine JL_op rfl (op_read rfl rfl (r_move (v := .int .i64 x_36) rfl) ?_)
            refine J_bind fun x_40 hx_41 => ?_
            refine JL_op rfl (op_read rfl rfl (r_index_row (v := v_3) (T := (t_Gdiff_Leq).o) (q := x_40) 2 Try.pu23 Try.pi37 rfl rfl rfl rfl hx_41) ?_)
            refine JL_op rfl (op_read rfl rfl (r_fieldAddr (r := elemAddr v_3 ((x_36).toNat * ((t_Gdiff_Leq).o).size + 0)) Try.pu37 (f := Try.pf37.getD 0 default) rfl Try.pi3 (by decide) rfl (elemAddr_add _ _ _)) ?_)
            refine JL_op rfl (op_reads rfl rfl (l_elem_orow (v := v_3) (T := (t_Gdiff_Leq).o) (Tf := (tInt .i64)) (q := x_40) (i := x_36) (off := 0) 2 Try.pu3 Try.pi3 rfl rfl rfl rfl hx_41 (OFieldAt.of f_Gdiff_Leq_X) (by decide)) ?_)
            intro v_42 h_43
            obtain rfl := tInt_v.1 h_43
            refine JL_op rfl (op_read rfl rfl (r_move (v := .int .i64 x_31.2.1) rfl) ?_)
            refine JL_op rfl (op_read rfl rfl (r_neq rfl rfl) ?_)
            refine JL_nil ?_
            refine J_then ?_
            refine J_cond rfl (fun hc_44 => ?_) (fun hc_44 => ?_)
            · refine J_seq ?_
              refine J_region ?_
              refine JL_op rfl (op_read rfl rfl (r_assign (v := .bool false) rfl) ?_)
              refine JL_nil ?_
              refine J_then ?_
              refine J_ret ?_
              refine J_then_ret ?_
              refine J_in_ret ?_
              refine J_then_ret ?_
              refine J_select (PV' := [.row ((tInt .i64)).o 3 v_1 x_2, .row (t_Gdiff_Leq).o 37 v_3 x_4]) [0, 2] (by decide) rfl ?_
              refine J_done trivial _ ?_ ⟨rfl, rfl, rfl, rfl⟩
              exact ⟨rfl, trivial⟩
            · refine J_skip ?_
              refine J_then ?_
              refine J_seq ?_
              refine J_region ?_
              refine JL_op rfl (op_read rfl rfl (r_load_priv (a := c_6) (off := 0) (cs' := [v_3]) (v := v_3) 1 Try.pu23 Try.pi23 rfl rfl rfl rfl (by decide) rfl) ?_)
              refine JL_op rfl (op_read rfl rfl (r_move (v := .int .i64 x_36) rfl) ?_)
              refine JL_op rfl (op_read rfl rfl (r_index_row (v := v_3) (T := (t_Gdiff_Leq).o) (q := x_40) 2 Try.pu23 Try.pi37 rfl rfl rfl rfl hx_41) ?_)
              refine JL_op rfl (op_read rfl rfl (r_fieldAddr (r := elemAddr v_3 ((x_36).toNat * ((t_Gdiff_Leq).o).size + 1)) Try.pu37 (f := Try.pf37.getD 1 default) rfl Try.pi3 (by decide) rfl (elemAddr_add _ _ _)) ?_)
              refine JL_op rfl (op_reads rfl rfl (l_elem_orow (v := v_3) (T := (t_Gdiff_Leq).o) (Tf := (tInt .i64)) (q := x_40) (i := x_36) (off := 1) 2 Try.pu3 Try.pi3 rfl rfl rfl rfl hx_41 (OFieldAt.of f_Gdiff_Leq_Y) (by decide)) ?_)
              intro v_45 h_46
              obtain rfl := tInt_v.1 h_46
              refine JL_op rfl (op_read rfl rfl (r_assign (v := .int .i64 x_40.Y) rfl) ?_)
              refine JL_nil ?_
              refine J_then ?_
              refine J_region ?_
              refine JL_op rfl (op_read rfl rfl (r_move (v := .int .i64 x_31.1) rfl) ?_)
              refine JL_op rfl (op_read rfl rfl (r_load_priv (a := c_6) (off := 0) (cs' := [v_3]) (v := v_3) 1 Try.pu23 Try.pi23 rfl rfl rfl rfl (by decide) rfl) ?_)
              refine JL_op rfl (op_read rfl rfl (r_move (v := .int .i64 x_36) rfl) ?_)
              refine JL_op rfl (op_read rfl rfl (r_index_row (v := v_3) (T := (t_Gdiff_Leq).o) (q := x_40) 2 Try.pu23 Try.pi37 rfl rfl rfl rfl hx_41) ?_)
              refine JL_op rfl (op_read rfl rfl (r_fieldAddr (r := elemAddr v_3 ((x_36).toNat * ((t_Gdiff_Leq).o).size + 2)) Try.pu37 (f := Try.pf37.getD 2 default) rfl Try.pi2 (by decide) rfl (elemAddr_add _ _ _)) ?_)
              refine JL_op rfl (op_reads rfl rfl (l_elem_orow (v := v_3) (T := (t_Gdiff_Leq).o) (Tf := (tInt .i64)) (q := x_40) (i := x_36) (off := 2) 2 Try.pu2 Try.pi2 rfl rfl rfl rfl hx_41 (OFieldAt.of f_Gdiff_Leq_C) (by decide)) ?_)
              intro v_47 h_48
              obtain rfl := tInt_v.1 h_48
              refine JL_op rfl (op_read rfl rfl (r_add rfl rfl) ?_)
              refine JL_op rfl (op_read rfl rfl (r_assign (v := .int .i64 (IntKind.i64.wrap (x_31.1 + x_40.C))) rfl) ?_)
              refine JL_nil ?_
              refine J_in_normal ?_
              refine J_then ?_
              refine J_region ?_
              refine JL_op rfl (op_read rfl rfl (r_add rfl rfl) ?_)
              refine JL_op rfl (op_read rfl rfl (r_move (v := .int .i64 (IntKind.i64.wrap (x_31.2.2 + 1))) rfl) ?_)
              refine JL_nil ?_
              refine J_next _ ?_ ⟨rfl, rfl, rfl⟩
              exact ⟨rfl, rfl, rfl, rfl, rfl, rfl, rfl, trivial⟩
          · refine J_exit ?_
            refine J_then_exit ?_
            refine J_done trivial _ ?_ ⟨rfl, rfl, rfl, rfl⟩
            exact ⟨rfl, rfl, rfl, rfl, trivial⟩
        · rintro (y_50 | y_60) e L b τ PV ht
          · obtain ⟨rfl, ht⟩ := ht
            revert ht; revert PV; revert τ; revert b; revert L
            rintro _ b s_53 _ ⟨rfl, rfl, rfl⟩
            refine J_in_exit ?_
            refine J_then ?_
            refine J_seq ?_
            refine J_region_any 14 [.row ((tInt .i64)).o 3 v_1 x_2, .cell c_6 [v_3], .row (t_Gdiff_Leq).o 37 v_3 x_4] Try.mixed (by kernel_rfl) fun hns => ?_
            have hS_54 : HeldOK σ [.row ((tInt .i64)).o 3 v_1 x_2, .cell c_6 [v_3], .row (t_Gdiff_Leq).o 37 v_3 x_4] σ [.row ((tInt .i64)).o 3 v_1 x_2, .cell c_6 [v_3], .row (t_Gdiff_Leq).o 37 v_3 x_4] := HeldOK.same [0, 1, 2] (by decide) rfl
            refine JA_takep 0 rfl hns (by kernel_rfl) (by kernel_rfl) rfl (.inr hS_54) rfl rfl rfl (r_move (v := .int .i64 y_50.2) rfl) ?_
            refine JA_take 1 rfl hns (by kernel_rfl) (by kernel_rfl) (by kernel_rfl) rfl (by kernel_rfl) hS_54 rfl rfl rfl (r_load_priv (a := c_6) (off := 0) (cs' := [v_3]) (v := v_3) 1 Try.pu23 Try.pi23 rfl rfl rfl rfl (by decide) rfl) ?_
            refine JA_takep 2 rfl hns (by kernel_rfl) (by kernel_rfl) rfl (.inr hS_54) rfl rfl rfl (r_move (v := v_1) rfl) ?_
            refine JA_take 3 rfl hns (by kernel_rfl) (by kernel_rfl) (by kernel_rfl) rfl (by kernel_rfl) hS_54 rfl rfl rfl (r_index_row (v := v_1) (T := ((tInt .i64)).o) (q := x_23) 0 Try.pu22 Try.pi3 rfl rfl rfl rfl hx_24) ?_
            refine JA_takes 4 rfl hns (by kernel_rfl) (by kernel_rfl) (by kernel_rfl) rfl (by kernel_rfl) hS_54 rfl rfl rfl (l_elem_orow (v := v_1) (T := ((tInt .i64)).o) (Tf := (tInt .i64)) (q := x_23) (i := 0) (off := 0) 0 Try.pu3 Try.pi3 rfl rfl rfl rfl hx_24 (OFieldAt.self (T := ((tInt .i64)).o)) (by decide)) ?_
            intro v_55 h_56
            obtain rfl := tInt_v.1 h_56
            refine JA_take 5 rfl hns (by kernel_rfl) (by kernel_rfl) (by kernel_rfl) rfl (by kernel_rfl) hS_54 rfl rfl rfl (r_index_row (v := v_3) (T := (t_Gdiff_Leq).o) (q := x_27) 2 Try.pu23 Try.pi37 rfl rfl rfl rfl hx_28) ?_
            refine JA_takep 6 rfl hns (by kernel_rfl) (by kernel_rfl) rfl (.inr hS_54) rfl rfl rfl (r_fieldAddr (r := elemAddr v_3 ((x_23).toNat * ((t_Gdiff_Leq).o).size + 0)) Try.pu37 (f := Try.pf37.getD 0 default) rfl Try.pi3 (by decide) rfl (elemAddr_add _ _ _)) ?_
            refine JA_takes 7 rfl hns (by kernel_rfl) (by kernel_rfl) (by kernel_rfl) rfl (by kernel_rfl) hS_54 rfl rfl rfl (l_elem_orow (v := v_3) (T := (t_Gdiff_Leq).o) (Tf := (tInt .i64)) (q := x_27) (i := x_23) (off := 0) 2 Try.pu3 Try.pi3 rfl rfl rfl rfl hx_28 (OFieldAt.of f_Gdiff_Leq_X) (by decide)) ?_
            intro v_57 h_58
            obtain rfl := tInt_v.1 h_58
            refine JA_takep 8 rfl hns (by kernel_rfl) (by kernel_rfl) rfl (.inr hS_54) rfl rfl rfl (r_eql rfl rfl) ?_
            refine JA_takep 9 rfl hns (by kernel_rfl) (by kernel_rfl) rfl (.inr hS_54) rfl rfl rfl (r_move (v := .bool (decide (y_50.2 = x_27.X))) rfl) ?_
            refine J_forkA (e := (decide (y_50.2 = x_27.X))) 1 #[true, true, true, true, true, true, true, true, true, true, true, true, true, false] [(67, .bool (decide (y_50.2 = x_27.X) && decide (y_50.1 < 0)))] (fun hc_59 hk => ?_) (fun hc_59 hk => ?_) (fun b => ?_)
            · refine JA_takepg 10 rfl hns (by kernel_rfl) (by kernel_rfl) rfl (.inr hS_54) rfl rfl hc_59 rfl rfl (r_move (v := .int .i64 y_50.1) rfl) ?_
              refine JA_takepg 11 rfl hns (by kernel_rfl) (by kernel_rfl) rfl (.inr hS_54) rfl rfl hc_59 rfl rfl (r_lss rfl rfl) ?_
              refine JA_takep 12 rfl hns (by kernel_rfl) (by kernel_rfl) rfl (.inr hS_54) rfl rfl rfl (r_pick_t (v := .bool (decide (y_50.1 < 0))) rfl hc_59 rfl) ?_
              refine J_prune [(67, .bool (decide (y_50.2 = x_27.X) && decide (y_50.1 < 0)))] ⟨(by show Value.bool _ = Value.bool _; rw [hc_59]; rfl), trivial⟩ hk
            · refine JA_skip (y := some (decide (y_50.2 = x_27.X))) 10 rfl hns (by kernel_rfl) (by kernel_rfl) rfl (.inr hS_54) rfl rfl (by rw [hc_59]; decide) rfl rfl ?_
              refine JA_skip (y := some (decide (y_50.2 = x_27.X))) 11 rfl hns (by kernel_rfl) (by kernel_rfl) rfl (.inr hS_54) rfl rfl (by rw [hc_59]; decide) rfl rfl ?_
              refine JA_takep 12 rfl hns (by kernel_rfl) (by kernel_rfl) rfl (.inr hS_54) rfl rfl rfl (r_pick_f (v := .bool false) rfl hc_59 rfl) ?_
              refine J_prune [(67, .bool (decide (y_50.2 = x_27.X) && decide (y_50.1 < 0)))] ⟨(by show Value.bool _ = Value.bool _; rw [hc_59]; rfl), trivial⟩ hk
            · refine JA_takep 13 rfl hns (by kernel_rfl) (by kernel_rfl) rfl (.inr hS_54) rfl rfl rfl (r_assign (v := .bool (decide (y_50.2 = x_27.X) && decide (y_50.1 < 0))) rfl) ?_
              refine JA_done (by kernel_rfl) ?_
              refine J_then ?_
              refine J_ret ?_
              exact J_returnV1 (PV' := [.row ((tInt .i64)).o 3 v_1 x_2, .row (t_Gdiff_Leq).o 37 v_3 x_4]) rfl rv_tmp [0, 2] (by decide) rfl ⟨rfl, rfl, rfl⟩
          · obtain ⟨rfl, ht⟩ := ht
            revert ht; revert PV; revert τ; revert b; revert L
            rintro _ b s_63 _ ⟨rfl, rfl, rfl⟩
            refine J_in_ret ?_
            refine J_then_ret ?_
            exact J_returnV1 (PV' := [.row ((tInt .i64)).o 3 v_1 x_2, .row (t_Gdiff_Leq).o 37 v_3 x_4]) rfl rv_tmp [0, 1] (by decide) rfl ⟨rfl, rfl, rfl⟩
def cert_Holds_1_post (σ0 : FS) (v_1 : Value) (f_2 : Gdiff_Leq) (a_4 : Addr) (v_5 : Value) (f_6 : Sl Int) (r : Bool) (σ : FS) (PV : List Priv) (v : Value) : Prop :=
  σ0 = σ ∧ .bool r = v ∧ PV = [.cell a_4 [v_5]]
set_option maxRecDepth 100000 in
theorem cert_Holds_1_ref (s : Start) (σ : FS) (v_1 : Value) (f_2 : Gdiff_Leq) (h_3 : t_Gdiff_Leq.vrel σ v_1 f_2) (a_4 : Addr) (v_5 : Value) (f_6 : Sl Int) (h_7 : (tSl (tInt .i64)).vrel σ v_5 f_6) (hs : Pre s σ [.cell a_4 [v_5]]) (r : Bool) (hr : cert_Holds_1 f_2 f_6 = some r) : Does Try.prog 23 [v_1, .pointer (some (Addr.add a_4 0))] s σ (cert_Holds_1_post σ v_1 f_2 a_4 v_5 f_6 r) := by
  unfold cert_Holds_1 at hr
  obtain rfl := t_Gdiff_Leq_v.1 h_3
  refine does_of_J Try.func23 rfl (n := 60) rfl rfl hs hr ?_
  refine J_seq ?_
  refine J_region ?_
  refine JL_op rfl (op_box (cs := [.int .i64 f_2.X, .int .i64 f_2.Y, .int .i64 f_2.C]) rfl rfl ?_)
  intro c_8
  refine JL_op rfl (op_read rfl rfl (r_assign (v := .bool false) rfl) ?_)
  refine JL_nil ?_
  refine J_then ?_
  refine J_seq ?_
  refine J_seq ?_
  refine J_region ?_
  refine JL_op rfl (op_read rfl rfl (r_fieldAddr (r := Addr.add c_8 0) Try.pu37 (f := Try.pf37.getD 0 default) rfl Try.pi3 (by decide) rfl (Addr.add_add _ _ _)) ?_)
  refine JL_op rfl (op_read rfl rfl (r_load_priv (a := c_8) (off := 0) (cs' := [.int .i64 f_2.X]) (v := .int .i64 f_2.X) 0 Try.pu3 Try.pi3 rfl rfl rfl rfl (by decide) rfl) ?_)
  refine JL_op rfl (op_read rfl rfl (r_lss rfl rfl) ?_)
  refine JL_op rfl (op_read rfl rfl (r_move (v := .bool (decide (f_2.X < 0))) rfl) ?_)
  refine J_forkL (e := (decide (f_2.X < 0))) 6 [(1, .pointer (some (Addr.add a_4 0))), (2, .pointer (some (Addr.add c_8 0))), (15, .bool (decide (f_2.X < 0) || decide (f_6.len ≤ f_2.X)))] (fun hc_10 hk => ?_) (fun hc_10 hk => ?_) (fun b => ?_)
  · refine JL_skip rfl rfl hc_10 rfl rfl ?_
    refine JL_skip rfl rfl hc_10 rfl rfl ?_
    refine JL_skip rfl rfl hc_10 rfl rfl ?_
    refine JL_skip rfl rfl hc_10 rfl rfl ?_
    refine JL_skip rfl rfl hc_10 rfl rfl ?_
    refine JL_op rfl (op_read rfl rfl (r_pick_t (v := .bool true) rfl hc_10 rfl) ?_)
    refine J_prune [(1, .pointer (some (Addr.add a_4 0))), (2, .pointer (some (Addr.add c_8 0))), (15, .bool (decide (f_2.X < 0) || decide (f_6.len ≤ f_2.X)))] ⟨rfl, rfl, (by show Value.bool _ = Value.bool _; rw [hc_10]; rfl), trivial⟩ hk
  · refine JL_opg rfl rfl hc_10 (op_read rfl rfl (r_fieldAddr (r := Addr.add c_8 0) Try.pu37 (f := Try.pf37.getD 0 default) rfl Try.pi3 (by decide) rfl (Addr.add_add _ _ _)) ?_)
    refine JL_opg rfl rfl hc_10 (op_read rfl rfl (r_load_priv (a := c_8) (off := 0) (cs' := [.int .i64 f_2.X]) (v := .int .i64 f_2.X) 0 Try.pu3 Try.pi3 rfl rfl rfl rfl (by decide) rfl) ?_)
    refine JL_opg rfl rfl hc_10 (op_read rfl rfl (r_load_priv (a := a_4) (off := 0) (cs' := [v_5]) (v := v_5) 1 Try.pu30 Try.pi30 rfl rfl rfl rfl (by decide) rfl) ?_)
    refine JL_opg rfl rfl hc_10 (op_read rfl rfl (r_len_frozen (v := v_5) Try.pu30 rfl h_7) ?_)
    refine JL_opg rfl rfl hc_10 (op_read rfl rfl (r_geq rfl rfl) ?_)
    refine JL_op rfl (op_read rfl rfl (r_pick_f (v := .bool (decide (f_6.len ≤ f_2.X))) rfl hc_10 rfl) ?_)
    refine J_prune [(1, .pointer (some (Addr.add a_4 0))), (2, .pointer (some (Addr.add c_8 0))), (15, .bool (decide (f_2.X < 0) || decide (f_6.len ≤ f_2.X)))] ⟨rfl, rfl, (by show Value.bool _ = Value.bool _; rw [hc_10]; rfl), trivial⟩ hk
  · refine JL_op rfl (op_read rfl rfl (r_move (v := .bool (decide (f_2.X < 0) || decide (f_6.len ≤ f_2.X))) rfl) ?_)
    refine J_forkL (e := (decide (f_2.X < 0) || decide (f_6.len ≤ f_2.X))) 4 [(1, .pointer (some (Addr.add a_4 0))), (2, .pointer (some (Addr.add c_8 0))), (20, .bool ((decide (f_2.X < 0) || decide (f_6.len ≤ f_2.X)) || decide (f_2.Y < 0)))] (fun hc_11 hk => ?_) (fun hc_11 hk => ?_) (fun b => ?_)
    · refine JL_skip rfl rfl hc_11 rfl rfl ?_
      refine JL_skip rfl rfl hc_11 rfl rfl ?_
      refine JL_skip rfl rfl hc_11 rfl rfl ?_
      refine JL_op rfl (op_read rfl rfl (r_pick_t (v := .bool true) rfl hc_11 rfl) ?_)
      refine J_prune [(1, .pointer (some (Addr.add a_4 0))), (2, .pointer (some (Addr.add c_8 0))), (20, .bool ((decide (f_2.X < 0) || decide (f_6.len ≤ f_2.X)) || decide (f_2.Y < 0)))] ⟨rfl, rfl, (by show Value.bool _ = Value.bool _; rw [hc_11]; rfl), trivial⟩ hk
    · refine JL_opg rfl rfl hc_11 (op_read rfl rfl (r_fieldAddr (r := Addr.add c_8 1) Try.pu37 (f := Try.pf37.getD 1 default) rfl Try.pi3 (by decide) rfl (Addr.add_add _ _ _)) ?_)
      refine JL_opg rfl rfl hc_11 (op_read rfl rfl (r_load_priv (a := c_8) (off := 1) (cs' := [.int .i64 f_2.Y]) (v := .int .i64 f_2.Y) 0 Try.pu3 Try.pi3 rfl rfl rfl rfl (by decide) rfl) ?_)
      refine JL_opg rfl rfl hc_11 (op_read rfl rfl (r_lss rfl rfl) ?_)
      refine JL_op rfl (op_read rfl rfl (r_pick_f (v := .bool (decide (f_2.Y < 0))) rfl hc_11 rfl) ?_)
      refine J_prune [(1, .pointer (some (Addr.add a_4 0))), (2, .pointer (some (Addr.add c_8 0))), (20, .bool ((decide (f_2.X < 0) || decide (f_6.len ≤ f_2.X)) || decide (f_2.Y < 0)))] ⟨rfl, rfl, (by show Value.bool _ = Value.bool _; rw [hc_11]; rfl), trivial⟩ hk
    · refine JL_op rfl (op_read rfl rfl (r_move (v := .bool ((decide (f_2.X < 0) || decide (f_6.len ≤ f_2.X)) || decide (f_2.Y < 0))) rfl) ?_)
      refine J_forkL (e := ((decide (f_2.X < 0) || decide (f_6.len ≤ f_2.X)) || decide (f_2.Y < 0))) 6 [(1, .pointer (some (Addr.add a_4 0))), (2, .pointer (some (Addr.add c_8 0))), (27, .bool (((decide (f_2.X < 0) || decide (f_6.len ≤ f_2.X)) || decide (f_2.Y < 0)) || decide (f_6.len ≤ f_2.Y)))] (fun hc_12 hk => ?_) (fun hc_12 hk => ?_) (fun b => ?_)
      · refine JL_skip rfl rfl hc_12 rfl rfl ?_
        refine JL_skip rfl rfl hc_12 rfl rfl ?_
        refine JL_skip rfl rfl hc_12 rfl rfl ?_
        refine JL_skip rfl rfl hc_12 rfl rfl ?_
        refine JL_skip rfl rfl hc_12 rfl rfl ?_
        refine JL_op rfl (op_read rfl rfl (r_pick_t (v := .bool true) rfl hc_12 rfl) ?_)
        refine J_prune [(1, .pointer (some (Addr.add a_4 0))), (2, .pointer (some (Addr.add c_8 0))), (27, .bool (((decide (f_2.X < 0) || decide (f_6.len ≤ f_2.X)) || decide (f_2.Y < 0)) || decide (f_6.len ≤ f_2.Y)))] ⟨rfl, rfl, (by show Value.bool _ = Value.bool _; rw [hc_12]; rfl), trivial⟩ hk
      · refine JL_opg rfl rfl hc_12 (op_read rfl rfl (r_fieldAddr (r := Addr.add c_8 1) Try.pu37 (f := Try.pf37.getD 1 default) rfl Try.pi3 (by decide) rfl (Addr.add_add _ _ _)) ?_)
        refine JL_opg rfl rfl hc_12 (op_read rfl rfl (r_load_priv (a := c_8) (off := 1) (cs' := [.int .i64 f_2.Y]) (v := .int .i64 f_2.Y) 0 Try.pu3 Try.pi3 rfl rfl rfl rfl (by decide) rfl) ?_)
        refine JL_opg rfl rfl hc_12 (op_read rfl rfl (r_load_priv (a := a_4) (off := 0) (cs' := [v_5]) (v := v_5) 1 Try.pu30 Try.pi30 rfl rfl rfl rfl (by decide) rfl) ?_)
        refine JL_opg rfl rfl hc_12 (op_read rfl rfl (r_len_frozen (v := v_5) Try.pu30 rfl h_7) ?_)
        refine JL_opg rfl rfl hc_12 (op_read rfl rfl (r_geq rfl rfl) ?_)
        refine JL_op rfl (op_read rfl rfl (r_pick_f (v := .bool (decide (f_6.len ≤ f_2.Y))) rfl hc_12 rfl) ?_)
        refine J_prune [(1, .pointer (some (Addr.add a_4 0))), (2, .pointer (some (Addr.add c_8 0))), (27, .bool (((decide (f_2.X < 0) || decide (f_6.len ≤ f_2.X)) || decide (f_2.Y < 0)) || decide (f_6.len ≤ f_2.Y)))] ⟨rfl, rfl, (by show Value.bool _ = Value.bool _; rw [hc_12]; rfl), trivial⟩ hk
      · refine JL_nil ?_
        refine J_then ?_
        refine J_cond rfl (fun hc_13 => ?_) (fun hc_13 => ?_)
        · refine J_seq ?_
          refine J_region ?_
          refine JL_op rfl (op_read rfl rfl (r_assign (v := .bool true) rfl) ?_)
          refine JL_nil ?_
          refine J_then ?_
          refine J_ret ?_
          refine J_then_ret ?_
          exact J_returnV1 (PV' := [.cell a_4 [v_5]]) rfl rv_tmp [1] (by decide) rfl ⟨rfl, rfl, rfl⟩
        · refine J_skip ?_
          refine J_then ?_
          refine J_seq ?_
          refine J_region_any 12 [.cell c_8 [.int .i64 f_2.X, .int .i64 f_2.Y, .int .i64 f_2.C], .cell a_4 [v_5]] Try.mixed (by kernel_rfl) fun hns => ?_
          have hS_14 : HeldOK σ [.cell c_8 [.int .i64 f_2.X, .int .i64 f_2.Y, .int .i64 f_2.C], .cell a_4 [v_5]] σ [.cell c_8 [.int .i64 f_2.X, .int .i64 f_2.Y, .int .i64 f_2.C], .cell a_4 [v_5]] := HeldOK.same [0, 1] (by decide) rfl
          refine JA_take 0 rfl hns (by kernel_rfl) (by kernel_rfl) (by kernel_rfl) rfl (by kernel_rfl) hS_14 rfl rfl rfl (r_load_priv (a := a_4) (off := 0) (cs' := [v_5]) (v := v_5) 1 Try.pu30 Try.pi30 rfl rfl rfl rfl (by decide) rfl) ?_
          refine JA_takep 1 rfl hns (by kernel_rfl) (by kernel_rfl) rfl (.inr hS_14) rfl rfl rfl (r_fieldAddr (r := Addr.add c_8 0) Try.pu37 (f := Try.pf37.getD 0 default) rfl Try.pi3 (by decide) rfl (Addr.add_add _ _ _)) ?_
          refine JA_take 2 rfl hns (by kernel_rfl) (by kernel_rfl) (by kernel_rfl) rfl (by kernel_rfl) hS_14 rfl rfl rfl (r_load_priv (a := c_8) (off := 0) (cs' := [.int .i64 f_2.X]) (v := .int .i64 f_2.X) 0 Try.pu3 Try.pi3 rfl rfl rfl rfl (by decide) rfl) ?_
          refine J_bind fun x_15 hx_16 => ?_
          refine JA_takep 3 rfl hns (by kernel_rfl) (by kernel_rfl) rfl (.inr hS_14) rfl rfl rfl (r_index_frozen (v := v_5) (T := (tInt .i64)) (q := x_15) Try.pu30 Try.pi2 rfl rfl rfl h_7 hx_16) ?_
          refine JA_takes 4 rfl hns (by kernel_rfl) (by kernel_rfl) (by kernel_rfl) rfl (by kernel_rfl) hS_14 rfl rfl rfl (l_elem_frozen (v := v_5) (T := (tInt .i64)) (Tf := (tInt .i64)) (q := x_15) (i := f_2.X) (off := 0) Try.pu2 Try.pi2 rfl rfl rfl h_7 hx_16 (FieldAt.self _) (by decide)) ?_
          intro v_17 h_18
          obtain rfl := tInt_v.1 h_18
          refine JA_take 5 rfl hns (by kernel_rfl) (by kernel_rfl) (by kernel_rfl) rfl (by kernel_rfl) hS_14 rfl rfl rfl (r_load_priv (a := a_4) (off := 0) (cs' := [v_5]) (v := v_5) 1 Try.pu30 Try.pi30 rfl rfl rfl rfl (by decide) rfl) ?_
          refine JA_takep 6 rfl hns (by kernel_rfl) (by kernel_rfl) rfl (.inr hS_14) rfl rfl rfl (r_fieldAddr (r := Addr.add c_8 1) Try.pu37 (f := Try.pf37.getD 1 default) rfl Try.pi3 (by decide) rfl (Addr.add_add _ _ _)) ?_
          refine JA_take 7 rfl hns (by kernel_rfl) (by kernel_rfl) (by kernel_rfl) rfl (by kernel_rfl) hS_14 rfl rfl rfl (r_load_priv (a := c_8) (off := 1) (cs' := [.int .i64 f_2.Y]) (v := .int .i64 f_2.Y) 0 Try.pu3 Try.pi3 rfl rfl rfl rfl (by decide) rfl) ?_
          refine J_bind fun x_19 hx_20 => ?_
          refine JA_takep 8 rfl hns (by kernel_rfl) (by kernel_rfl) rfl (.inr hS_14) rfl rfl rfl (r_index_frozen (v := v_5) (T := (tInt .i64)) (q := x_19) Try.pu30 Try.pi2 rfl rfl rfl h_7 hx_20) ?_
          refine JA_takes 9 rfl hns (by kernel_rfl) (by kernel_rfl) (by kernel_rfl) rfl (by kernel_rfl) hS_14 rfl rfl rfl (l_elem_frozen (v := v_5) (T := (tInt .i64)) (Tf := (tInt .i64)) (q := x_19) (i := f_2.Y) (off := 0) Try.pu2 Try.pi2 rfl rfl rfl h_7 hx_20 (FieldAt.self _) (by decide)) ?_
          intro v_21 h_22
          obtain rfl := tInt_v.1 h_22
          refine JA_takep 10 rfl hns (by kernel_rfl) (by kernel_rfl) rfl (.inr hS_14) rfl rfl rfl (r_assign (v := .int .i64 x_15) rfl) ?_
          refine JA_takep 11 rfl hns (by kernel_rfl) (by kernel_rfl) rfl (.inr hS_14) rfl rfl rfl (r_assign (v := .int .i64 x_19) rfl) ?_
          refine JA_done (by kernel_rfl) ?_
          refine J_then ?_
          refine J_seq ?_
          refine J_region ?_
          refine JL_op rfl (op_read rfl rfl (r_fieldAddr (r := Addr.add c_8 2) Try.pu37 (f := Try.pf37.getD 2 default) rfl Try.pi2 (by decide) rfl (Addr.add_add _ _ _)) ?_)
          refine JL_op rfl (op_read rfl rfl (r_load_priv (a := c_8) (off := 2) (cs' := [.int .i64 f_2.C]) (v := .int .i64 f_2.C) 0 Try.pu2 Try.pi2 rfl rfl rfl rfl (by decide) rfl) ?_)
          refine JL_op rfl (op_call (f := 21) (fn := Try.f21) (args := [.int .i64 f_2.C, .int .i64 17592186044416]) (post := cert_within_post σ f_2.C 17592186044416) [] [.cell c_8 [.int .i64 f_2.X, .int .i64 f_2.Y, .int .i64 f_2.C], .cell a_4 [v_5]] rfl rfl rfl Try.func21 Try.pn21 rfl rfl (fun y st hy hpre => cert_within_ref st σ f_2.C 17592186044416 hpre y hy) ?_)
          intro r_23 v_25 s_28 PV_26 hr_24 hle_29 hp_27
          obtain ⟨rfl, rfl, rfl⟩ := hp_27
          refine JL_op rfl (op_read rfl rfl (r_not rfl) ?_)
          refine JL_op rfl (op_read rfl rfl (r_move (v := .bool (!(decide (f_2.C ≤ 17592186044416) && decide ((IntKind.i64.wrap (0 - 17592186044416)) ≤ f_2.C)))) rfl) ?_)
          refine J_forkLB (e := (!(decide (f_2.C ≤ 17592186044416) && decide ((IntKind.i64.wrap (0 - 17592186044416)) ≤ f_2.C)))) 4 (fun (y : Bool) L τ PV => σ = τ ∧ L = [(2, .pointer (some (Addr.add c_8 0))), (4, .int .i64 x_15), (5, .int .i64 x_19), (46, .bool y)] ∧ PV = [.cell c_8 [.int .i64 f_2.X, .int .i64 f_2.Y, .int .i64 f_2.C], .cell a_4 [v_5]]) (fun hc_30 hk => ?_) (fun hc_30 hk => ?_) ?_
          · refine JL_skip rfl rfl hc_30 rfl rfl ?_
            refine JL_skip rfl rfl hc_30 rfl rfl ?_
            refine JL_skip rfl rfl hc_30 rfl rfl ?_
            refine JL_op rfl (op_read rfl rfl (r_pick_t (v := .bool true) rfl hc_30 rfl) ?_)
            refine J_prune _ ?_ fun b => hk true _ b _ _ ⟨rfl, rfl, rfl⟩
            exact ⟨rfl, rfl, rfl, rfl, trivial⟩
          · refine JL_opg rfl rfl hc_30 (op_read rfl rfl (r_move (v := .int .i64 x_15) rfl) ?_)
            refine J_assoc ?_
            refine JL_opg rfl rfl hc_30 (op_call (f := 21) (fn := Try.f21) (args := [.int .i64 x_15, .int .i64 4503599627370496]) (post := cert_within_post σ x_15 4503599627370496) [] [.cell c_8 [.int .i64 f_2.X, .int .i64 f_2.Y, .int .i64 f_2.C], .cell a_4 [v_5]] rfl rfl rfl Try.func21 Try.pn21 rfl rfl (fun y st hy hpre => cert_within_ref st σ x_15 4503599627370496 hpre y hy) ?_)
            intro r_32 v_34 s_37 PV_35 hr_33 hle_38 hp_36
            obtain ⟨rfl, rfl, rfl⟩ := hp_36
            refine JL_opg rfl rfl hc_30 (op_read rfl rfl (r_not rfl) ?_)
            refine JL_op rfl (op_read rfl rfl (r_pick_f (v := .bool (!(decide (x_15 ≤ 4503599627370496) && decide ((IntKind.i64.wrap (0 - 4503599627370496)) ≤ x_15)))) rfl hc_30 rfl) ?_)
            refine J_prune _ ?_ fun b => hk (!(decide (x_15 ≤ 4503599627370496) && decide ((IntKind.i64.wrap (0 - 4503599627370496)) ≤ x_15))) _ b _ _ ⟨rfl, rfl, rfl⟩
            exact ⟨rfl, rfl, rfl, rfl, trivial⟩
          · rintro y_31 _ b s_41 _ ⟨rfl, rfl, rfl⟩
            refine JL_op rfl (op_read rfl rfl (r_move (v := .bool y_31) rfl) ?_)
            refine J_forkLB (e := y_31) 4 (fun (y : Bool) L τ PV => σ = τ ∧ L = [(2, .pointer (some (Addr.add c_8 0))), (4, .int .i64 x_15), (5, .int .i64 x_19), (51, .bool y)] ∧ PV = [.cell c_8 [.int .i64 f_2.X, .int .i64 f_2.Y, .int .i64 f_2.C], .cell a_4 [v_5]]) (fun hc_42 hk => ?_) (fun hc_42 hk => ?_) ?_
            · refine JL_skip rfl rfl hc_42 rfl rfl ?_
              refine JL_skip rfl rfl hc_42 rfl rfl ?_
              refine JL_skip rfl rfl hc_42 rfl rfl ?_
              refine JL_op rfl (op_read rfl rfl (r_pick_t (v := .bool true) rfl hc_42 rfl) ?_)
              refine J_prune _ ?_ fun b => hk true _ b _ _ ⟨rfl, rfl, rfl⟩
              exact ⟨rfl, rfl, rfl, rfl, trivial⟩
            · refine JL_opg rfl rfl hc_42 (op_read rfl rfl (r_move (v := .int .i64 x_19) rfl) ?_)
              refine J_assoc ?_
              refine JL_opg rfl rfl hc_42 (op_call (f := 21) (fn := Try.f21) (args := [.int .i64 x_19, .int .i64 4503599627370496]) (post := cert_within_post σ x_19 4503599627370496) [] [.cell c_8 [.int .i64 f_2.X, .int .i64 f_2.Y, .int .i64 f_2.C], .cell a_4 [v_5]] rfl rfl rfl Try.func21 Try.pn21 rfl rfl (fun y st hy hpre => cert_within_ref st σ x_19 4503599627370496 hpre y hy) ?_)
              intro r_44 v_46 s_49 PV_47 hr_45 hle_50 hp_48
              obtain ⟨rfl, rfl, rfl⟩ := hp_48
              refine JL_opg rfl rfl hc_42 (op_read rfl rfl (r_not rfl) ?_)
              refine JL_op rfl (op_read rfl rfl (r_pick_f (v := .bool (!(decide (x_19 ≤ 4503599627370496) && decide ((IntKind.i64.wrap (0 - 4503599627370496)) ≤ x_19)))) rfl hc_42 rfl) ?_)
              refine J_prune _ ?_ fun b => hk (!(decide (x_19 ≤ 4503599627370496) && decide ((IntKind.i64.wrap (0 - 4503599627370496)) ≤ x_19))) _ b _ _ ⟨rfl, rfl, rfl⟩
              exact ⟨rfl, rfl, rfl, rfl, trivial⟩
            · rintro y_43 _ b s_53 _ ⟨rfl, rfl, rfl⟩
              refine JL_op rfl (op_read rfl rfl (r_move (v := .bool y_43) rfl) ?_)
              refine J_forkL (e := y_43) 7 [(59, .bool (y_43 || decide (f_2.C < (IntKind.i64.wrap (x_15 - x_19)))))] (fun hc_54 hk => ?_) (fun hc_54 hk => ?_) (fun b => ?_)
              · refine JL_skip rfl rfl hc_54 rfl rfl ?_
                refine JL_skip rfl rfl hc_54 rfl rfl ?_
                refine JL_skip rfl rfl hc_54 rfl rfl ?_
                refine JL_skip rfl rfl hc_54 rfl rfl ?_
                refine JL_skip rfl rfl hc_54 rfl rfl ?_
                refine JL_skip rfl rfl hc_54 rfl rfl ?_
                refine JL_op rfl (op_read rfl rfl (r_pick_t (v := .bool true) rfl hc_54 rfl) ?_)
                refine J_prune [(59, .bool (y_43 || decide (f_2.C < (IntKind.i64.wrap (x_15 - x_19)))))] ⟨(by show Value.bool _ = Value.bool _; rw [hc_54]; rfl), trivial⟩ hk
              · refine JL_opg rfl rfl hc_54 (op_read rfl rfl (r_move (v := .int .i64 x_15) rfl) ?_)
                refine JL_opg rfl rfl hc_54 (op_read rfl rfl (r_move (v := .int .i64 x_19) rfl) ?_)
                refine JL_opg rfl rfl hc_54 (op_read rfl rfl (r_sub rfl rfl) ?_)
                refine JL_opg rfl rfl hc_54 (op_read rfl rfl (r_fieldAddr (r := Addr.add c_8 2) Try.pu37 (f := Try.pf37.getD 2 default) rfl Try.pi2 (by decide) rfl (Addr.add_add _ _ _)) ?_)
                refine JL_opg rfl rfl hc_54 (op_read rfl rfl (r_load_priv (a := c_8) (off := 2) (cs' := [.int .i64 f_2.C]) (v := .int .i64 f_2.C) 0 Try.pu2 Try.pi2 rfl rfl rfl rfl (by decide) rfl) ?_)
                refine JL_opg rfl rfl hc_54 (op_read rfl rfl (r_gtr rfl rfl) ?_)
                refine JL_op rfl (op_read rfl rfl (r_pick_f (v := .bool (decide (f_2.C < (IntKind.i64.wrap (x_15 - x_19))))) rfl hc_54 rfl) ?_)
                refine J_prune [(59, .bool (y_43 || decide (f_2.C < (IntKind.i64.wrap (x_15 - x_19)))))] ⟨(by show Value.bool _ = Value.bool _; rw [hc_54]; rfl), trivial⟩ hk
              · refine JL_op rfl (op_read rfl rfl (r_assign (v := .bool (y_43 || decide (f_2.C < (IntKind.i64.wrap (x_15 - x_19))))) rfl) ?_)
                refine JL_nil ?_
                refine J_then ?_
                refine J_ret ?_
                exact J_returnV1 (PV' := [.cell a_4 [v_5]]) rfl rv_tmp [1] (by decide) rfl ⟨rfl, rfl, rfl⟩
def slices_IndexFunc_v3_post (σ0 : FS) (v_1 : Value) (x_2 : Sl Gdiff_Leq) (a_3 : Addr) (v_4 : Value) (f_5 : Sl Int) (r : Int) (σ : FS) (PV : List Priv) (v : Value) : Prop :=
  σ0 = σ ∧ .int .i64 r = v ∧ PV = [.row (t_Gdiff_Leq).o 37 v_1 x_2, .cell a_3 [v_4]]
set_option maxRecDepth 100000 in
theorem slices_IndexFunc_v3_ref (s : Start) (σ : FS) (v_1 : Value) (x_2 : Sl Gdiff_Leq) (a_3 : Addr) (v_4 : Value) (f_5 : Sl Int) (h_6 : (tSl (tInt .i64)).vrel σ v_4 f_5) (hs : Pre s σ [.row (t_Gdiff_Leq).o 37 v_1 x_2, .cell a_3 [v_4]]) (r : Int) (hr : slices_IndexFunc_v3 x_2 f_5 = some r) : Does Try.prog 31 [v_1, .func (.func 23) #[] #[.pointer (some (Addr.add a_3 0))]] s σ (slices_IndexFunc_v3_post σ v_1 x_2 a_3 v_4 f_5 r) := by
  unfold slices_IndexFunc_v3 at hr
  refine does_of_J Try.func31 rfl (n := 19) rfl rfl hs hr ?_
  refine J_seq ?_
  refine J_region ?_
  refine JL_op rfl (op_read rfl rfl (r_assign (v := .int .i64 0) rfl) ?_)
  refine JL_nil ?_
  refine J_then ?_
  refine J_seq ?_
  refine J_seq ?_
  refine J_region ?_
  refine JL_op rfl (op_read rfl rfl (r_move (v := v_1) rfl) ?_)
  refine JL_op rfl (op_read rfl rfl (r_len_row (v := v_1) 0 Try.pu23 rfl rfl) ?_)
  refine JL_op rfl (op_read rfl rfl (r_move (v := .int .i64 0) rfl) ?_)
  refine JL_nil ?_
  refine J_then ?_
  refine J_block ?_
  refine J_loop (fun (y : Int) L τ PV => σ = τ ∧ L = [(0, v_1), (1, .func (.func 23) #[] #[.pointer (some (Addr.add a_3 0))]), (7, .int .i64 x_2.len), (8, .int .i64 y)] ∧ PV = [.row (t_Gdiff_Leq).o 37 v_1 x_2, .cell a_3 [v_4]]) (fun (y : W2 Unit Int) e L τ PV => match y, e with | .a y, e => e = .exit 0 ∧ (σ = τ ∧ L = [] ∧ PV = [.row (t_Gdiff_Leq).o 37 v_1 x_2, .cell a_3 [v_4]]) | .b y, e => e = .ret ∧ (σ = τ ∧ L = [(4, .int .i64 y)] ∧ PV = [.row (t_Gdiff_Leq).o 37 v_1 x_2, .cell a_3 [v_4]])) _ ?_ ⟨rfl, rfl, rfl⟩ ?_ ?_
  · exact ⟨rfl, rfl, rfl, rfl, trivial⟩
  · rintro x_7 _ b s_10 _ ⟨rfl, rfl, rfl⟩
    unfold slices_IndexFunc_v3_L1
    refine J_seq ?_
    refine J_region ?_
    refine JL_op rfl (op_read rfl rfl (r_lss rfl rfl) ?_)
    refine JL_nil ?_
    refine J_then ?_
    refine J_seq ?_
    refine J_cond rfl (fun hc_11 => ?_) (fun hc_11 => ?_)
    · refine J_skip ?_
      refine J_then ?_
      refine J_seq ?_
      refine J_block ?_
      refine J_seq ?_
      refine J_region ?_
      refine JL_op rfl (op_read rfl rfl (r_move (v := .int .i64 x_7) rfl) ?_)
      refine JL_op rfl (op_read rfl rfl (r_assign (v := .int .i64 x_7) rfl) ?_)
      refine JL_nil ?_
      refine J_then ?_
      refine J_seq ?_
      refine J_region ?_
      refine JL_op rfl (op_read rfl rfl (r_move (v := .func (.func 23) #[] #[.pointer (some (Addr.add a_3 0))]) rfl) ?_)
      refine JL_op rfl (op_read rfl rfl (r_move (v := v_1) rfl) ?_)
      refine JL_op rfl (op_read rfl rfl (r_move (v := .int .i64 x_7) rfl) ?_)
      refine J_bind fun x_12 hx_13 => ?_
      refine JL_op rfl (op_read rfl rfl (r_index_row (v := v_1) (T := (t_Gdiff_Leq).o) (q := x_12) 0 Try.pu23 Try.pi37 rfl rfl rfl rfl hx_13) ?_)
      refine JL_op rfl (op_reads rfl rfl (l_elem_orow (v := v_1) (T := (t_Gdiff_Leq).o) (Tf := t_Gdiff_Leq) (q := x_12) (i := x_7) (off := 0) 0 Try.pu37 Try.pi37 rfl rfl rfl rfl hx_13 (OFieldAt.self (T := (t_Gdiff_Leq).o)) (by decide)) ?_)
      intro v_14 h_15
      obtain rfl := t_Gdiff_Leq_v.1 h_15
      refine J_select (PV' := [.cell a_3 [v_4], .row (t_Gdiff_Leq).o 37 v_1 x_2]) [1, 0] (by decide) rfl ?_
      refine JL_op rfl (op_call (f := 23) (fn := Try.f23) (args := [.agg #[.int .i64 x_12.X, .int .i64 x_12.Y, .int .i64 x_12.C], .pointer (some (Addr.add a_3 0))]) (post := cert_Holds_1_post σ (.agg #[.int .i64 x_12.X, .int .i64 x_12.Y, .int .i64 x_12.C]) x_12 a_3 v_4 f_5) [.cell a_3 [v_4]] [.row (t_Gdiff_Leq).o 37 v_1 x_2] rfl rfl rfl Try.func23 Try.pn23 rfl rfl (fun y st hy hpre => cert_Holds_1_ref st σ (.agg #[.int .i64 x_12.X, .int .i64 x_12.Y, .int .i64 x_12.C]) x_12 (t_Gdiff_Leq_v.2 rfl) a_3 v_4 f_5 h_6 hpre y hy) ?_)
      intro r_16 v_18 s_21 PV_19 hr_17 hle_22 hp_20
      obtain ⟨rfl, rfl, rfl⟩ := hp_20
      refine JL_nil ?_
      refine J_then ?_
      refine J_cond rfl (fun hc_23 => ?_) (fun hc_23 => ?_)
      · refine J_seq ?_
        refine J_region ?_
        refine JL_op rfl (op_read rfl rfl (r_move (v := .int .i64 x_7) rfl) ?_)
        refine JL_op rfl (op_read rfl rfl (r_assign (v := .int .i64 x_7) rfl) ?_)
        refine JL_nil ?_
        refine J_then ?_
        refine J_ret ?_
        refine J_in_ret ?_
        refine J_then_ret ?_
        refine J_select (PV' := [.row (t_Gdiff_Leq).o 37 v_1 x_2, .cell a_3 [v_4]]) [1, 0] (by decide) rfl ?_
        refine J_done trivial _ ?_ ⟨rfl, rfl, rfl, rfl⟩
        exact ⟨rfl, trivial⟩
      · refine J_skip ?_
        refine J_in_normal ?_
        refine J_then ?_
        refine J_region ?_
        refine JL_op rfl (op_read rfl rfl (r_add rfl rfl) ?_)
        refine JL_op rfl (op_read rfl rfl (r_move (v := .int .i64 (IntKind.i64.wrap (x_7 + 1))) rfl) ?_)
        refine JL_nil ?_
        refine J_select (PV' := [.row (t_Gdiff_Leq).o 37 v_1 x_2, .cell a_3 [v_4]]) [1, 0] (by decide) rfl ?_
        refine J_next _ ?_ ⟨rfl, rfl, rfl⟩
        exact ⟨rfl, rfl, rfl, rfl, trivial⟩
    · refine J_exit ?_
      refine J_then_exit ?_
      refine J_done trivial _ ?_ ⟨rfl, rfl, rfl, rfl⟩
      exact trivial
  · rintro (y_25 | y_29) e L b τ PV ht
    · obtain ⟨rfl, ht⟩ := ht
      revert ht; revert PV; revert τ; revert b; revert L
      rintro _ b s_28 _ ⟨rfl, rfl, rfl⟩
      refine J_in_exit ?_
      refine J_then ?_
      refine J_seq ?_
      refine J_region ?_
      refine JL_op rfl (op_read rfl rfl (r_assign (v := .int .i64 (-1)) rfl) ?_)
      refine JL_nil ?_
      refine J_then ?_
      refine J_ret ?_
      exact J_returnV1 (PV' := [.row (t_Gdiff_Leq).o 37 v_1 x_2, .cell a_3 [v_4]]) rfl rv_tmp [0, 1] (by decide) rfl ⟨rfl, rfl, rfl⟩
    · obtain ⟨rfl, ht⟩ := ht
      revert ht; revert PV; revert τ; revert b; revert L
      rintro _ b s_32 _ ⟨rfl, rfl, rfl⟩
      refine J_in_ret ?_
      refine J_then_ret ?_
      exact J_returnV1 (PV' := [.row (t_Gdiff_Leq).o 37 v_1 x_2, .cell a_3 [v_4]]) rfl rv_tmp [0, 1] (by decide) rfl ⟨rfl, rfl, rfl⟩
def slices_ContainsFunc_v3_post (σ0 : FS) (v_1 : Value) (x_2 : Sl Gdiff_Leq) (a_3 : Addr) (v_4 : Value) (f_5 : Sl Int) (r : Bool) (σ : FS) (PV : List Priv) (v : Value) : Prop :=
  σ0 = σ ∧ .bool r = v ∧ PV = [.row (t_Gdiff_Leq).o 37 v_1 x_2, .cell a_3 [v_4]]
set_option maxRecDepth 100000 in
theorem slices_ContainsFunc_v3_ref (s : Start) (σ : FS) (v_1 : Value) (x_2 : Sl Gdiff_Leq) (a_3 : Addr) (v_4 : Value) (f_5 : Sl Int) (h_6 : (tSl (tInt .i64)).vrel σ v_4 f_5) (hs : Pre s σ [.row (t_Gdiff_Leq).o 37 v_1 x_2, .cell a_3 [v_4]]) (r : Bool) (hr : slices_ContainsFunc_v3 x_2 f_5 = some r) : Does Try.prog 22 [v_1, .func (.func 23) #[] #[.pointer (some (Addr.add a_3 0))]] s σ (slices_ContainsFunc_v3_post σ v_1 x_2 a_3 v_4 f_5 r) := by
  unfold slices_ContainsFunc_v3 at hr
  refine does_of_J Try.func22 rfl (n := 9) rfl rfl hs hr ?_
  refine J_seq ?_
  refine J_region ?_
  refine JL_op rfl (op_read rfl rfl (r_assign (v := .bool false) rfl) ?_)
  refine JL_nil ?_
  refine J_then ?_
  refine J_seq ?_
  refine J_region ?_
  refine JL_op rfl (op_read rfl rfl (r_move (v := v_1) rfl) ?_)
  refine JL_op rfl (op_read rfl rfl (r_move (v := .func (.func 23) #[] #[.pointer (some (Addr.add a_3 0))]) rfl) ?_)
  refine JL_op rfl (op_call (f := 31) (fn := Try.f31) (args := [v_1, .func (.func 23) #[] #[.pointer (some (Addr.add a_3 0))]]) (post := slices_IndexFunc_v3_post σ v_1 x_2 a_3 v_4 f_5) [.row (t_Gdiff_Leq).o 37 v_1 x_2, .cell a_3 [v_4]] [] rfl rfl rfl Try.func31 Try.pn31 rfl rfl (fun y st hy hpre => slices_IndexFunc_v3_ref st σ v_1 x_2 a_3 v_4 f_5 h_6 hpre y hy) ?_)
  intro r_7 v_9 s_12 PV_10 hr_8 hle_13 hp_11
  obtain ⟨rfl, rfl, rfl⟩ := hp_11
  refine JL_op rfl (op_read rfl rfl (r_geq rfl rfl) ?_)
  refine JL_op rfl (op_read rfl rfl (r_assign (v := .bool (decide (0 ≤ r_7))) rfl) ?_)
  refine JL_nil ?_
  refine J_then ?_
  refine J_ret ?_
  exact J_returnV1 (PV' := [.row (t_Gdiff_Leq).o 37 v_1 x_2, .cell a_3 [v_4]]) rfl rv_tmp [0, 1] (by decide) rfl ⟨rfl, rfl, rfl⟩
def cert_Holds_post (σ0 : FS) (v_1 : Value) (numbers_2 : Sl Int) (v_4 : Value) (x_5 : Sl Gdiff_Leq) (r : Bool) (σ : FS) (PV : List Priv) (v : Value) : Prop :=
  σ0 = σ ∧ .bool r = v ∧ PV = [.row (t_Gdiff_Leq).o 37 v_4 x_5]
set_option maxRecDepth 100000 in
theorem cert_Holds_ref (s : Start) (σ : FS) (v_1 : Value) (numbers_2 : Sl Int) (h_3 : (tSl (tInt .i64)).vrel σ v_1 numbers_2) (v_4 : Value) (x_5 : Sl Gdiff_Leq) (hs : Pre s σ [.row (t_Gdiff_Leq).o 37 v_4 x_5]) (r : Bool) (hr : cert_Holds numbers_2 x_5 = some r) : Does Try.prog 13 [v_1, v_4] s σ (cert_Holds_post σ v_1 numbers_2 v_4 x_5 r) := by
  unfold cert_Holds at hr
  refine does_of_J Try.func13 rfl (n := 9) rfl rfl hs hr ?_
  refine J_seq ?_
  refine J_region ?_
  refine JL_op rfl (op_box (cs := [v_1]) rfl (sl_cells h_3) ?_)
  intro c_6
  refine JL_op rfl (op_read rfl rfl (r_assign (v := .bool false) rfl) ?_)
  refine JL_nil ?_
  refine J_then ?_
  refine J_seq ?_
  refine J_region ?_
  refine JL_op rfl (op_read rfl rfl (r_move (v := v_4) rfl) ?_)
  refine JL_op rfl (op_read rfl rfl (r_makeFunc (fs := []) (cs := [.pointer (some (Addr.add c_6 0))]) rfl rfl) ?_)
  refine J_select (PV' := [.row (t_Gdiff_Leq).o 37 v_4 x_5, .cell c_6 [v_1]]) [1, 0] (by decide) rfl ?_
  refine JL_op rfl (op_call (f := 22) (fn := Try.f22) (args := [v_4, .func (.func 23) #[] #[.pointer (some (Addr.add c_6 0))]]) (post := slices_ContainsFunc_v3_post σ v_4 x_5 c_6 v_1 numbers_2) [.row (t_Gdiff_Leq).o 37 v_4 x_5, .cell c_6 [v_1]] [] rfl rfl rfl Try.func22 Try.pn22 rfl rfl (fun y st hy hpre => slices_ContainsFunc_v3_ref st σ v_4 x_5 c_6 v_1 numbers_2 h_3 hpre y hy) ?_)
  intro r_8 v_10 s_13 PV_11 hr_9 hle_14 hp_12
  obtain ⟨rfl, rfl, rfl⟩ := hp_12
  refine JL_op rfl (op_read rfl rfl (r_not rfl) ?_)
  refine JL_op rfl (op_read rfl rfl (r_assign (v := .bool (!r_8)) rfl) ?_)
  refine JL_nil ?_
  refine J_then ?_
  refine J_ret ?_
  exact J_returnV1 (PV' := [.row (t_Gdiff_Leq).o 37 v_4 x_5]) rfl rv_tmp [0] (by decide) rfl ⟨rfl, rfl, rfl⟩
def cert_Check_post (σ0 : FS) (Yes_1 : Bool) (v_2 : Value) (x_3 : Sl Int) (v_4 : Value) (Numbers_5 : Sl Int) (n_7 : Int) (v_8 : Value) (goal_9 : Gdiff_Leq) (v_11 : Value) (x_12 : Sl Gdiff_Leq) (r : Bool) (σ : FS) (PV : List Priv) (v : Value) : Prop :=
  σ0 = σ ∧ .bool r = v ∧ PV = [.row ((tInt .i64)).o 3 v_2 x_3, .row (t_Gdiff_Leq).o 37 v_11 x_12]
set_option maxRecDepth 100000 in
theorem cert_Check_ref (s : Start) (σ : FS) (Yes_1 : Bool) (v_2 : Value) (x_3 : Sl Int) (v_4 : Value) (Numbers_5 : Sl Int) (h_6 : (tSl (tInt .i64)).vrel σ v_4 Numbers_5) (n_7 : Int) (v_8 : Value) (goal_9 : Gdiff_Leq) (h_10 : t_Gdiff_Leq.vrel σ v_8 goal_9) (v_11 : Value) (x_12 : Sl Gdiff_Leq) (hs : Pre s σ [.row ((tInt .i64)).o 3 v_2 x_3, .row (t_Gdiff_Leq).o 37 v_11 x_12]) (r : Bool) (hr : cert_Check Yes_1 x_3 Numbers_5 n_7 goal_9 x_12 = some r) : Does Try.prog 15 [.agg #[.bool Yes_1, v_2, v_4], .int .i64 n_7, v_8, v_11] s σ (cert_Check_post σ Yes_1 v_2 x_3 v_4 Numbers_5 n_7 v_8 goal_9 v_11 x_12 r) := by
  unfold cert_Check at hr
  obtain rfl := t_Gdiff_Leq_v.1 h_10
  refine does_of_J Try.func15 rfl (n := 59) rfl rfl hs hr ?_
  refine J_seq ?_
  refine J_region ?_
  refine J_row_one 0 rfl fun h_13 => ?_
  refine JL_op rfl (op_box (cs := [.bool Yes_1, v_2, v_4]) rfl rfl ?_)
  intro c_14
  refine JL_op rfl (op_box (cs := [.int .i64 goal_9.X, .int .i64 goal_9.Y, .int .i64 goal_9.C]) rfl rfl ?_)
  intro c_16
  refine JL_op rfl (op_read rfl rfl (r_assign (v := .bool false) rfl) ?_)
  refine JL_nil ?_
  refine J_then ?_
  refine J_seq ?_
  refine J_seq ?_
  refine J_region ?_
  refine JL_op rfl (op_read rfl rfl (r_move (v := .int .i64 n_7) rfl) ?_)
  refine JL_op rfl (op_read rfl rfl (r_load_priv (a := c_16) (off := 0) (cs' := [.int .i64 goal_9.X, .int .i64 goal_9.Y, .int .i64 goal_9.C]) (v := .agg #[.int .i64 goal_9.X, .int .i64 goal_9.Y, .int .i64 goal_9.C]) 0 Try.pu37 Try.pi37 rfl rfl rfl rfl (by decide) rfl) ?_)
  refine JL_op rfl (op_read rfl rfl (r_move (v := v_11) rfl) ?_)
  refine J_select (PV' := [.row (t_Gdiff_Leq).o 37 v_11 x_12, .cell c_16 [.int .i64 goal_9.X, .int .i64 goal_9.Y, .int .i64 goal_9.C], .cell c_14 [.bool Yes_1, v_2, v_4], .row ((tInt .i64)).o 3 v_2 x_3]) [3, 0, 1, 2] (by decide) rfl ?_
  refine JL_op rfl (op_call (f := 18) (fn := Try.f18) (args := [.int .i64 n_7, .agg #[.int .i64 goal_9.X, .int .i64 goal_9.Y, .int .i64 goal_9.C], v_11]) (post := diff_Entails_post σ n_7 (.agg #[.int .i64 goal_9.X, .int .i64 goal_9.Y, .int .i64 goal_9.C]) goal_9 v_11 x_12) [.row (t_Gdiff_Leq).o 37 v_11 x_12] [.cell c_16 [.int .i64 goal_9.X, .int .i64 goal_9.Y, .int .i64 goal_9.C], .cell c_14 [.bool Yes_1, v_2, v_4], .row ((tInt .i64)).o 3 v_2 x_3] rfl rfl rfl Try.func18 Try.pn18 rfl rfl (fun y st hy hpre => diff_Entails_ref st σ n_7 (.agg #[.int .i64 goal_9.X, .int .i64 goal_9.Y, .int .i64 goal_9.C]) goal_9 (t_Gdiff_Leq_v.2 rfl) v_11 x_12 hpre y hy) ?_)
  intro r_18 v_20 s_23 PV_21 hr_19 hle_24 hp_22
  obtain ⟨rfl, rfl, rfl⟩ := hp_22
  refine JL_op rfl (op_read rfl rfl (r_move (v := .tuple #[.bool r_18.1, .int .i64 r_18.2]) rfl) ?_)
  refine JL_op rfl (op_read rfl rfl (r_extract (v := .bool r_18.1) rfl rfl) ?_)
  refine JL_op rfl (op_read rfl rfl (r_extract (v := .int .i64 r_18.2) rfl rfl) ?_)
  refine JL_op rfl (op_read rfl rfl (r_assign (v := .bool r_18.1) rfl) ?_)
  refine JL_op rfl (op_read rfl rfl (r_assign (v := .int .i64 r_18.2) rfl) ?_)
  refine JL_nil ?_
  refine J_then ?_
  refine J_seq ?_
  refine J_region ?_
  refine JL_op rfl (op_read rfl rfl (r_move (v := .int .i64 r_18.2) rfl) ?_)
  refine JL_op rfl (op_read rfl rfl (r_neq rfl rfl) ?_)
  refine JL_nil ?_
  refine J_then ?_
  refine J_cond rfl (fun hc_25 => ?_) (fun hc_25 => ?_)
  · refine J_seq ?_
    refine J_region ?_
    refine JL_op rfl (op_read rfl rfl (r_assign (v := .bool false) rfl) ?_)
    refine JL_nil ?_
    refine J_then ?_
    refine J_ret ?_
    refine J_then_ret ?_
    exact J_returnV1 (PV' := [.row ((tInt .i64)).o 3 v_2 x_3, .row (t_Gdiff_Leq).o 37 v_11 x_12]) rfl rv_tmp [3, 0] (by decide) rfl ⟨rfl, rfl, rfl⟩
  · refine J_skip ?_
    refine J_then ?_
    refine J_seq ?_
    refine J_seq ?_
    refine J_region ?_
    refine JL_op rfl (op_read rfl rfl (r_fieldAddr (r := Addr.add c_14 0) Try.pu35 (f := Try.pf35.getD 0 default) rfl Try.pi4 (by decide) rfl (Addr.add_add _ _ _)) ?_)
    refine JL_op rfl (op_read rfl rfl (r_load_priv (a := c_14) (off := 0) (cs' := [.bool Yes_1]) (v := .bool Yes_1) 2 Try.pu4 Try.pi4 rfl rfl rfl rfl (by decide) rfl) ?_)
    refine JL_nil ?_
    refine J_then ?_
    refine J_cond rfl (fun hc_26 => ?_) (fun hc_26 => ?_)
    · refine J_seq ?_
      refine J_region_any 16 [.row (t_Gdiff_Leq).o 37 v_11 x_12, .cell c_16 [.int .i64 goal_9.X, .int .i64 goal_9.Y, .int .i64 goal_9.C], .cell c_14 [.bool Yes_1, v_2, v_4], .row ((tInt .i64)).o 3 v_2 x_3] Try.mixed (by kernel_rfl) fun hns => ?_
      have hS_27 : HeldOK σ [.row (t_Gdiff_Leq).o 37 v_11 x_12, .cell c_16 [.int .i64 goal_9.X, .int .i64 goal_9.Y, .int .i64 goal_9.C], .cell c_14 [.bool Yes_1, v_2, v_4], .row ((tInt .i64)).o 3 v_2 x_3] σ [.row (t_Gdiff_Leq).o 37 v_11 x_12, .cell c_16 [.int .i64 goal_9.X, .int .i64 goal_9.Y, .int .i64 goal_9.C], .cell c_14 [.bool Yes_1, v_2, v_4], .row ((tInt .i64)).o 3 v_2 x_3] := HeldOK.same [0, 1, 2, 3] (by decide) rfl
      refine JA_takep 0 rfl hns (by kernel_rfl) (by kernel_rfl) rfl (.inr hS_27) rfl rfl rfl (r_fieldAddr (r := Addr.add c_14 2) Try.pu35 (f := Try.pf35.getD 2 default) rfl Try.pi30 (by decide) rfl (Addr.add_add _ _ _)) ?_
      refine JA_take 1 rfl hns (by kernel_rfl) (by kernel_rfl) (by kernel_rfl) rfl (by kernel_rfl) hS_27 rfl rfl rfl (r_load_priv (a := c_14) (off := 2) (cs' := [v_4]) (v := v_4) 2 Try.pu30 Try.pi30 rfl rfl rfl rfl (by decide) rfl) ?_
      refine JA_takep 2 rfl hns (by kernel_rfl) (by kernel_rfl) rfl (.inr hS_27) rfl rfl rfl (r_len_frozen (v := v_4) Try.pu30 rfl h_6) ?_
      refine JA_takep 3 rfl hns (by kernel_rfl) (by kernel_rfl) rfl (.inr hS_27) rfl rfl rfl (r_eql rfl rfl) ?_
      refine JA_takep 4 rfl hns (by kernel_rfl) (by kernel_rfl) rfl (.inr hS_27) rfl rfl rfl (r_move (v := .bool (decide (Numbers_5.len = 0))) rfl) ?_
      refine J_forkAB (e := (decide (Numbers_5.len = 0))) 1 #[true, true, true, true, true, true, true, true, true, true, true, true, true, true, true, false] (fun (y : Bool) L τ PV => σ = τ ∧ L = [(8, .bool false), (36, .bool y)] ∧ PV = [.row (t_Gdiff_Leq).o 37 v_11 x_12, .cell c_16 [.int .i64 goal_9.X, .int .i64 goal_9.Y, .int .i64 goal_9.C], .cell c_14 [.bool Yes_1, v_2, v_4], .row ((tInt .i64)).o 3 v_2 x_3]) (fun hc_28 hk => ?_) (fun hc_28 hk => ?_) ?_
      · refine JA_takepg 5 rfl hns (by kernel_rfl) (by kernel_rfl) rfl (.inr hS_27) rfl rfl hc_28 rfl rfl (r_fieldAddr (r := Addr.add c_14 1) Try.pu35 (f := Try.pf35.getD 1 default) rfl Try.pi22 (by decide) rfl (Addr.add_add _ _ _)) ?_
        refine JA_takeg 6 rfl hns (by kernel_rfl) (by kernel_rfl) (by kernel_rfl) rfl (by kernel_rfl) hS_27 rfl rfl hc_28 rfl rfl (r_load_priv (a := c_14) (off := 1) (cs' := [v_2]) (v := v_2) 2 Try.pu22 Try.pi22 rfl rfl rfl rfl (by decide) rfl) ?_
        refine JA_takepg 7 rfl hns (by kernel_rfl) (by kernel_rfl) rfl (.inr hS_27) rfl rfl hc_28 rfl rfl (r_move (v := v_11) rfl) ?_
        refine JA_takeg 9 rfl hns (by kernel_rfl) (by kernel_rfl) (by kernel_rfl) rfl (by kernel_rfl) hS_27 rfl rfl hc_28 rfl rfl (r_load_priv (a := c_16) (off := 0) (cs' := [.int .i64 goal_9.X, .int .i64 goal_9.Y, .int .i64 goal_9.C]) (v := .agg #[.int .i64 goal_9.X, .int .i64 goal_9.Y, .int .i64 goal_9.C]) 1 Try.pu37 Try.pi37 rfl rfl rfl rfl (by decide) rfl) ?_
        refine J_assoc ?_
        refine JA_opg (i := 8) (by kernel_rfl) rfl rfl rfl hc_28 (op_call (f := 24) (fn := Try.f24) (args := [v_11]) (post := slices_Clone_post σ v_11 x_12) [.row (t_Gdiff_Leq).o 37 v_11 x_12] [.cell c_16 [.int .i64 goal_9.X, .int .i64 goal_9.Y, .int .i64 goal_9.C], .cell c_14 [.bool Yes_1, v_2, v_4], .row ((tInt .i64)).o 3 v_2 x_3] rfl rfl rfl Try.func24 Try.pn24 rfl rfl (fun y st hy hpre => slices_Clone_ref st σ v_11 x_12 hpre y hy) ?_)
        intro r_30 v_32 s_35 PV_33 hr_31 hle_36 hp_34
        obtain ⟨v_38, rfl, rfl, rfl⟩ := hp_34
        have hS_39 : HeldOK σ [.row (t_Gdiff_Leq).o 37 v_11 x_12, .cell c_16 [.int .i64 goal_9.X, .int .i64 goal_9.Y, .int .i64 goal_9.C], .cell c_14 [.bool Yes_1, v_2, v_4], .row ((tInt .i64)).o 3 v_2 x_3] σ [.row (t_Gdiff_Leq).o 37 v_38 r_30, .row (t_Gdiff_Leq).o 37 v_11 x_12, .cell c_16 [.int .i64 goal_9.X, .int .i64 goal_9.Y, .int .i64 goal_9.C], .cell c_14 [.bool Yes_1, v_2, v_4], .row ((tInt .i64)).o 3 v_2 x_3] := HeldOK.same [1, 2, 3, 4] (by decide) rfl
        refine ⟨.inr hS_39, ?_⟩
        refine J_assoc ?_
        refine JA_opg (i := 10) (by kernel_rfl) rfl rfl rfl hc_28 (op_call (f := 25) (fn := Try.f25) (args := [.agg #[.int .i64 goal_9.X, .int .i64 goal_9.Y, .int .i64 goal_9.C]]) (post := cert_turned_post σ (.agg #[.int .i64 goal_9.X, .int .i64 goal_9.Y, .int .i64 goal_9.C]) goal_9) [] [.row (t_Gdiff_Leq).o 37 v_38 r_30, .row (t_Gdiff_Leq).o 37 v_11 x_12, .cell c_16 [.int .i64 goal_9.X, .int .i64 goal_9.Y, .int .i64 goal_9.C], .cell c_14 [.bool Yes_1, v_2, v_4], .row ((tInt .i64)).o 3 v_2 x_3] rfl rfl rfl Try.func25 Try.pn25 rfl rfl (fun y st hy hpre => cert_turned_ref st σ (.agg #[.int .i64 goal_9.X, .int .i64 goal_9.Y, .int .i64 goal_9.C]) goal_9 (t_Gdiff_Leq_v.2 rfl) hpre y hy) ?_)
        intro r_40 v_42 s_45 PV_43 hr_41 hle_46 hp_44
        obtain ⟨rfl, rfl, rfl⟩ := hp_44
        have hS_47 : HeldOK σ [.row (t_Gdiff_Leq).o 37 v_11 x_12, .cell c_16 [.int .i64 goal_9.X, .int .i64 goal_9.Y, .int .i64 goal_9.C], .cell c_14 [.bool Yes_1, v_2, v_4], .row ((tInt .i64)).o 3 v_2 x_3] σ [.row (t_Gdiff_Leq).o 37 v_38 r_30, .row (t_Gdiff_Leq).o 37 v_11 x_12, .cell c_16 [.int .i64 goal_9.X, .int .i64 goal_9.Y, .int .i64 goal_9.C], .cell c_14 [.bool Yes_1, v_2, v_4], .row ((tInt .i64)).o 3 v_2 x_3] := HeldOK.same [1, 2, 3, 4] (by decide) rfl
        refine ⟨.inr hS_47, ?_⟩
        refine JA_opg (i := 11) (by kernel_rfl) rfl rfl rfl hc_28 (op_buildSlice (T := (t_Gdiff_Leq).o) (vs := [.agg #[.int .i64 goal_9.Y, .int .i64 goal_9.X, .int .i64 (IntKind.i64.wrap ((IntKind.i64.wrap (0 - goal_9.C)) - 1))]]) (xs := [(⟨goal_9.Y, goal_9.X, IntKind.i64.wrap ((IntKind.i64.wrap (0 - goal_9.C)) - 1)⟩ : Gdiff_Leq)]) [] [.row (t_Gdiff_Leq).o 37 v_38 r_30, .row (t_Gdiff_Leq).o 37 v_11 x_12, .cell c_16 [.int .i64 goal_9.X, .int .i64 goal_9.Y, .int .i64 goal_9.C], .cell c_14 [.bool Yes_1, v_2, v_4], .row ((tInt .i64)).o 3 v_2 x_3] rfl Try.pu23 Try.pi37 rfl rfl rfl rfl rfl rfl (relsO_cons (A := []) (B := []) (u := .agg #[.int .i64 goal_9.Y, .int .i64 goal_9.X, .int .i64 (IntKind.i64.wrap ((IntKind.i64.wrap (0 - goal_9.C)) - 1))]) (x := (⟨goal_9.Y, goal_9.X, IntKind.i64.wrap ((IntKind.i64.wrap (0 - goal_9.C)) - 1)⟩ : Gdiff_Leq)) (fix_vrel (T := (t_Gdiff_Leq).o) rfl (t_Gdiff_Leq_v.2 rfl)) relsO_nil) ?_)
        intro v_48
        have hS_50 : HeldOK σ [.row (t_Gdiff_Leq).o 37 v_11 x_12, .cell c_16 [.int .i64 goal_9.X, .int .i64 goal_9.Y, .int .i64 goal_9.C], .cell c_14 [.bool Yes_1, v_2, v_4], .row ((tInt .i64)).o 3 v_2 x_3] σ [.row (t_Gdiff_Leq).o 37 v_48 (⟨[(⟨goal_9.Y, goal_9.X, IntKind.i64.wrap ((IntKind.i64.wrap (0 - goal_9.C)) - 1)⟩ : Gdiff_Leq)], true⟩ : Sl Gdiff_Leq), .row (t_Gdiff_Leq).o 37 v_38 r_30, .row (t_Gdiff_Leq).o 37 v_11 x_12, .cell c_16 [.int .i64 goal_9.X, .int .i64 goal_9.Y, .int .i64 goal_9.C], .cell c_14 [.bool Yes_1, v_2, v_4], .row ((tInt .i64)).o 3 v_2 x_3] := HeldOK.same [2, 3, 4, 5] (by decide) rfl
        refine ⟨.inr hS_50, ?_⟩
        refine J_select (PV' := [.row (t_Gdiff_Leq).o 37 v_38 r_30, .row (t_Gdiff_Leq).o 37 v_48 (⟨[(⟨goal_9.Y, goal_9.X, IntKind.i64.wrap ((IntKind.i64.wrap (0 - goal_9.C)) - 1)⟩ : Gdiff_Leq)], true⟩ : Sl Gdiff_Leq), .row (t_Gdiff_Leq).o 37 v_11 x_12, .cell c_16 [.int .i64 goal_9.X, .int .i64 goal_9.Y, .int .i64 goal_9.C], .cell c_14 [.bool Yes_1, v_2, v_4], .row ((tInt .i64)).o 3 v_2 x_3]) [1, 0, 2, 3, 4, 5] (by decide) rfl ?_
        have hS_54 : HeldOK σ [.row (t_Gdiff_Leq).o 37 v_11 x_12, .cell c_16 [.int .i64 goal_9.X, .int .i64 goal_9.Y, .int .i64 goal_9.C], .cell c_14 [.bool Yes_1, v_2, v_4], .row ((tInt .i64)).o 3 v_2 x_3] σ [.row (t_Gdiff_Leq).o 37 v_38 r_30, .row (t_Gdiff_Leq).o 37 v_48 (⟨[(⟨goal_9.Y, goal_9.X, IntKind.i64.wrap ((IntKind.i64.wrap (0 - goal_9.C)) - 1)⟩ : Gdiff_Leq)], true⟩ : Sl Gdiff_Leq), .row (t_Gdiff_Leq).o 37 v_11 x_12, .cell c_16 [.int .i64 goal_9.X, .int .i64 goal_9.Y, .int .i64 goal_9.C], .cell c_14 [.bool Yes_1, v_2, v_4], .row ((tInt .i64)).o 3 v_2 x_3] := HeldOK.same [2, 3, 4, 5] (by decide) rfl
        refine J_assoc ?_
        refine JA_opg (i := 12) (by kernel_rfl) rfl rfl rfl hc_28 (op_append (v := v_38) (u := v_48) (T := (t_Gdiff_Leq).o) (ts := [(⟨goal_9.Y, goal_9.X, IntKind.i64.wrap ((IntKind.i64.wrap (0 - goal_9.C)) - 1)⟩ : Gdiff_Leq)]) [] [.row (t_Gdiff_Leq).o 37 v_48 (⟨[(⟨goal_9.Y, goal_9.X, IntKind.i64.wrap ((IntKind.i64.wrap (0 - goal_9.C)) - 1)⟩ : Gdiff_Leq)], true⟩ : Sl Gdiff_Leq), .row (t_Gdiff_Leq).o 37 v_11 x_12, .cell c_16 [.int .i64 goal_9.X, .int .i64 goal_9.Y, .int .i64 goal_9.C], .cell c_14 [.bool Yes_1, v_2, v_4], .row ((tInt .i64)).o 3 v_2 x_3] rfl Try.pu23 Try.pi37 rfl rfl rfl rfl rfl rfl (source_copy (s := (⟨[(⟨goal_9.Y, goal_9.X, IntKind.i64.wrap ((IntKind.i64.wrap (0 - goal_9.C)) - 1)⟩ : Gdiff_Leq)], true⟩ : Sl Gdiff_Leq)) 1 rfl) ?_)
        intro s_52 v_51 hs_53
        have hS_55 : HeldOK σ [.row (t_Gdiff_Leq).o 37 v_11 x_12, .cell c_16 [.int .i64 goal_9.X, .int .i64 goal_9.Y, .int .i64 goal_9.C], .cell c_14 [.bool Yes_1, v_2, v_4], .row ((tInt .i64)).o 3 v_2 x_3] σ [.row (t_Gdiff_Leq).o 37 v_51 s_52, .row (t_Gdiff_Leq).o 37 v_48 (⟨[(⟨goal_9.Y, goal_9.X, IntKind.i64.wrap ((IntKind.i64.wrap (0 - goal_9.C)) - 1)⟩ : Gdiff_Leq)], true⟩ : Sl Gdiff_Leq), .row (t_Gdiff_Leq).o 37 v_11 x_12, .cell c_16 [.int .i64 goal_9.X, .int .i64 goal_9.Y, .int .i64 goal_9.C], .cell c_14 [.bool Yes_1, v_2, v_4], .row ((tInt .i64)).o 3 v_2 x_3] := HeldOK.same [2, 3, 4, 5] (by decide) rfl
        refine ⟨.inr hS_55, ?_⟩
        refine J_select (PV' := [.row ((tInt .i64)).o 3 v_2 x_3, .row (t_Gdiff_Leq).o 37 v_51 s_52, .row (t_Gdiff_Leq).o 37 v_48 (⟨[(⟨goal_9.Y, goal_9.X, IntKind.i64.wrap ((IntKind.i64.wrap (0 - goal_9.C)) - 1)⟩ : Gdiff_Leq)], true⟩ : Sl Gdiff_Leq), .row (t_Gdiff_Leq).o 37 v_11 x_12, .cell c_16 [.int .i64 goal_9.X, .int .i64 goal_9.Y, .int .i64 goal_9.C], .cell c_14 [.bool Yes_1, v_2, v_4]]) [5, 0, 1, 2, 3, 4] (by decide) rfl ?_
        have hS_63 : HeldOK σ [.row (t_Gdiff_Leq).o 37 v_11 x_12, .cell c_16 [.int .i64 goal_9.X, .int .i64 goal_9.Y, .int .i64 goal_9.C], .cell c_14 [.bool Yes_1, v_2, v_4], .row ((tInt .i64)).o 3 v_2 x_3] σ [.row ((tInt .i64)).o 3 v_2 x_3, .row (t_Gdiff_Leq).o 37 v_51 s_52, .row (t_Gdiff_Leq).o 37 v_48 (⟨[(⟨goal_9.Y, goal_9.X, IntKind.i64.wrap ((IntKind.i64.wrap (0 - goal_9.C)) - 1)⟩ : Gdiff_Leq)], true⟩ : Sl Gdiff_Leq), .row (t_Gdiff_Leq).o 37 v_11 x_12, .cell c_16 [.int .i64 goal_9.X, .int .i64 goal_9.Y, .int .i64 goal_9.C], .cell c_14 [.bool Yes_1, v_2, v_4]] := HeldOK.same [3, 4, 5, 0] (by decide) rfl
        refine J_assoc ?_
        refine JA_opg (i := 13) (by kernel_rfl) rfl rfl rfl hc_28 (op_call (f := 10) (fn := Try.f10) (args := [v_2, v_51]) (post := cert_Circle_post σ v_2 x_3 v_51 s_52) [.row ((tInt .i64)).o 3 v_2 x_3, .row (t_Gdiff_Leq).o 37 v_51 s_52] [.row (t_Gdiff_Leq).o 37 v_48 (⟨[(⟨goal_9.Y, goal_9.X, IntKind.i64.wrap ((IntKind.i64.wrap (0 - goal_9.C)) - 1)⟩ : Gdiff_Leq)], true⟩ : Sl Gdiff_Leq), .row (t_Gdiff_Leq).o 37 v_11 x_12, .cell c_16 [.int .i64 goal_9.X, .int .i64 goal_9.Y, .int .i64 goal_9.C], .cell c_14 [.bool Yes_1, v_2, v_4]] rfl rfl rfl Try.func10 Try.pn10 rfl rfl (fun y st hy hpre => cert_Circle_ref st σ v_2 x_3 v_51 s_52 hpre y hy) ?_)
        intro r_56 v_58 s_61 PV_59 hr_57 hle_62 hp_60
        obtain ⟨rfl, rfl, rfl⟩ := hp_60
        have hS_64 : HeldOK σ [.row (t_Gdiff_Leq).o 37 v_11 x_12, .cell c_16 [.int .i64 goal_9.X, .int .i64 goal_9.Y, .int .i64 goal_9.C], .cell c_14 [.bool Yes_1, v_2, v_4], .row ((tInt .i64)).o 3 v_2 x_3] σ [.row ((tInt .i64)).o 3 v_2 x_3, .row (t_Gdiff_Leq).o 37 v_51 s_52, .row (t_Gdiff_Leq).o 37 v_48 (⟨[(⟨goal_9.Y, goal_9.X, IntKind.i64.wrap ((IntKind.i64.wrap (0 - goal_9.C)) - 1)⟩ : Gdiff_Leq)], true⟩ : Sl Gdiff_Leq), .row (t_Gdiff_Leq).o 37 v_11 x_12, .cell c_16 [.int .i64 goal_9.X, .int .i64 goal_9.Y, .int .i64 goal_9.C], .cell c_14 [.bool Yes_1, v_2, v_4]] := HeldOK.same [3, 4, 5, 0] (by decide) rfl
        refine ⟨.inr hS_64, ?_⟩
        refine JA_takep 14 rfl hns (by kernel_rfl) (by kernel_rfl) rfl (.inr hS_64) rfl rfl rfl (r_pick_t (v := .bool r_56) rfl hc_28 rfl) ?_
        refine J_select (PV' := [.row (t_Gdiff_Leq).o 37 v_11 x_12, .cell c_16 [.int .i64 goal_9.X, .int .i64 goal_9.Y, .int .i64 goal_9.C], .cell c_14 [.bool Yes_1, v_2, v_4], .row ((tInt .i64)).o 3 v_2 x_3]) [3, 4, 5, 0] (by decide) rfl ?_
        refine J_prune _ ?_ fun b => hk r_56 _ b _ _ ⟨rfl, rfl, rfl⟩
        exact ⟨rfl, rfl, trivial⟩
      · refine JA_skip (y := some (decide (Numbers_5.len = 0))) 5 rfl hns (by kernel_rfl) (by kernel_rfl) rfl (.inr hS_27) rfl rfl (by rw [hc_28]; decide) rfl rfl ?_
        refine JA_skip (y := some (decide (Numbers_5.len = 0))) 6 rfl hns (by kernel_rfl) (by kernel_rfl) rfl (.inr hS_27) rfl rfl (by rw [hc_28]; decide) rfl rfl ?_
        refine JA_skip (y := some (decide (Numbers_5.len = 0))) 7 rfl hns (by kernel_rfl) (by kernel_rfl) rfl (.inr hS_27) rfl rfl (by rw [hc_28]; decide) rfl rfl ?_
        refine JA_skip (y := some (decide (Numbers_5.len = 0))) 8 rfl hns (by kernel_rfl) (by kernel_rfl) rfl (.inr hS_27) rfl rfl (by rw [hc_28]; decide) rfl rfl ?_
        refine JA_skip (y := some (decide (Numbers_5.len = 0))) 9 rfl hns (by kernel_rfl) (by kernel_rfl) rfl (.inr hS_27) rfl rfl (by rw [hc_28]; decide) rfl rfl ?_
        refine JA_skip (y := some (decide (Numbers_5.len = 0))) 10 rfl hns (by kernel_rfl) (by kernel_rfl) rfl (.inr hS_27) rfl rfl (by rw [hc_28]; decide) rfl rfl ?_
        refine JA_skip (y := some (decide (Numbers_5.len = 0))) 11 rfl hns (by kernel_rfl) (by kernel_rfl) rfl (.inr hS_27) rfl rfl (by rw [hc_28]; decide) rfl rfl ?_
        refine JA_skip (y := some (decide (Numbers_5.len = 0))) 12 rfl hns (by kernel_rfl) (by kernel_rfl) rfl (.inr hS_27) rfl rfl (by rw [hc_28]; decide) rfl rfl ?_
        refine JA_skip (y := some (decide (Numbers_5.len = 0))) 13 rfl hns (by kernel_rfl) (by kernel_rfl) rfl (.inr hS_27) rfl rfl (by rw [hc_28]; decide) rfl rfl ?_
        refine JA_takep 14 rfl hns (by kernel_rfl) (by kernel_rfl) rfl (.inr hS_27) rfl rfl rfl (r_pick_f (v := .bool false) rfl hc_28 rfl) ?_
        refine J_prune _ ?_ fun b => hk false _ b _ _ ⟨rfl, rfl, rfl⟩
        exact ⟨rfl, rfl, trivial⟩
      · rintro y_29 _ b s_67 _ ⟨rfl, rfl, rfl⟩
        have hS_68 : HeldOK σ [.row (t_Gdiff_Leq).o 37 v_11 x_12, .cell c_16 [.int .i64 goal_9.X, .int .i64 goal_9.Y, .int .i64 goal_9.C], .cell c_14 [.bool Yes_1, v_2, v_4], .row ((tInt .i64)).o 3 v_2 x_3] σ [.row (t_Gdiff_Leq).o 37 v_11 x_12, .cell c_16 [.int .i64 goal_9.X, .int .i64 goal_9.Y, .int .i64 goal_9.C], .cell c_14 [.bool Yes_1, v_2, v_4], .row ((tInt .i64)).o 3 v_2 x_3] := HeldOK.same [0, 1, 2, 3] (by decide) rfl
        refine JA_takep 15 rfl hns (by kernel_rfl) (by kernel_rfl) rfl (.inr hS_68) rfl rfl rfl (r_assign (v := .bool y_29) rfl) ?_
        refine JA_done (by kernel_rfl) ?_
        refine J_then ?_
        refine J_ret ?_
        refine J_then_ret ?_
        exact J_returnV1 (PV' := [.row ((tInt .i64)).o 3 v_2 x_3, .row (t_Gdiff_Leq).o 37 v_11 x_12]) rfl rv_tmp [3, 0] (by decide) rfl ⟨rfl, rfl, rfl⟩
    · refine J_skip ?_
      refine J_then ?_
      refine J_seq ?_
      refine J_region_any 23 [.row (t_Gdiff_Leq).o 37 v_11 x_12, .cell c_16 [.int .i64 goal_9.X, .int .i64 goal_9.Y, .int .i64 goal_9.C], .cell c_14 [.bool Yes_1, v_2, v_4], .row ((tInt .i64)).o 3 v_2 x_3] Try.mixed (by kernel_rfl) fun hns => ?_
      have hS_69 : HeldOK σ [.row (t_Gdiff_Leq).o 37 v_11 x_12, .cell c_16 [.int .i64 goal_9.X, .int .i64 goal_9.Y, .int .i64 goal_9.C], .cell c_14 [.bool Yes_1, v_2, v_4], .row ((tInt .i64)).o 3 v_2 x_3] σ [.row (t_Gdiff_Leq).o 37 v_11 x_12, .cell c_16 [.int .i64 goal_9.X, .int .i64 goal_9.Y, .int .i64 goal_9.C], .cell c_14 [.bool Yes_1, v_2, v_4], .row ((tInt .i64)).o 3 v_2 x_3] := HeldOK.same [0, 1, 2, 3] (by decide) rfl
      refine JA_takep 0 rfl hns (by kernel_rfl) (by kernel_rfl) rfl (.inr hS_69) rfl rfl rfl (r_fieldAddr (r := Addr.add c_14 1) Try.pu35 (f := Try.pf35.getD 1 default) rfl Try.pi22 (by decide) rfl (Addr.add_add _ _ _)) ?_
      refine JA_take 1 rfl hns (by kernel_rfl) (by kernel_rfl) (by kernel_rfl) rfl (by kernel_rfl) hS_69 rfl rfl rfl (r_load_priv (a := c_14) (off := 1) (cs' := [v_2]) (v := v_2) 2 Try.pu22 Try.pi22 rfl rfl rfl rfl (by decide) rfl) ?_
      refine JA_take 2 rfl hns (by kernel_rfl) (by kernel_rfl) (by kernel_rfl) rfl (by kernel_rfl) hS_69 rfl rfl rfl (r_len_row (v := v_2) 3 Try.pu22 rfl rfl) ?_
      refine JA_takep 3 rfl hns (by kernel_rfl) (by kernel_rfl) rfl (.inr hS_69) rfl rfl rfl (r_eql rfl rfl) ?_
      refine JA_takep 4 rfl hns (by kernel_rfl) (by kernel_rfl) rfl (.inr hS_69) rfl rfl rfl (r_move (v := .bool (decide (x_3.len = 0))) rfl) ?_
      refine J_forkA (e := (decide (x_3.len = 0))) 12 #[true, true, true, true, true, true, true, true, true, true, true, false, false, false, false, false, false, false, false, false, false, false, false] [(3, v_11), (4, .pointer (some (Addr.add c_14 0))), (6, .pointer (some (Addr.add c_16 0))), (8, .bool false), (47, .bool (decide (x_3.len = 0) && decide (Numbers_5.len = n_7)))] (fun hc_70 hk => ?_) (fun hc_70 hk => ?_) (fun b => ?_)
      · refine JA_takepg 5 rfl hns (by kernel_rfl) (by kernel_rfl) rfl (.inr hS_69) rfl rfl hc_70 rfl rfl (r_fieldAddr (r := Addr.add c_14 2) Try.pu35 (f := Try.pf35.getD 2 default) rfl Try.pi30 (by decide) rfl (Addr.add_add _ _ _)) ?_
        refine JA_takeg 6 rfl hns (by kernel_rfl) (by kernel_rfl) (by kernel_rfl) rfl (by kernel_rfl) hS_69 rfl rfl hc_70 rfl rfl (r_load_priv (a := c_14) (off := 2) (cs' := [v_4]) (v := v_4) 2 Try.pu30 Try.pi30 rfl rfl rfl rfl (by decide) rfl) ?_
        refine JA_takepg 7 rfl hns (by kernel_rfl) (by kernel_rfl) rfl (.inr hS_69) rfl rfl hc_70 rfl rfl (r_len_frozen (v := v_4) Try.pu30 rfl h_6) ?_
        refine JA_takepg 8 rfl hns (by kernel_rfl) (by kernel_rfl) rfl (.inr hS_69) rfl rfl hc_70 rfl rfl (r_move (v := .int .i64 n_7) rfl) ?_
        refine JA_takepg 9 rfl hns (by kernel_rfl) (by kernel_rfl) rfl (.inr hS_69) rfl rfl hc_70 rfl rfl (r_eql rfl rfl) ?_
        refine JA_takep 10 rfl hns (by kernel_rfl) (by kernel_rfl) rfl (.inr hS_69) rfl rfl rfl (r_pick_t (v := .bool (decide (Numbers_5.len = n_7))) rfl hc_70 rfl) ?_
        refine J_prune [(3, v_11), (4, .pointer (some (Addr.add c_14 0))), (6, .pointer (some (Addr.add c_16 0))), (8, .bool false), (47, .bool (decide (x_3.len = 0) && decide (Numbers_5.len = n_7)))] ⟨rfl, rfl, rfl, rfl, (by show Value.bool _ = Value.bool _; rw [hc_70]; rfl), trivial⟩ hk
      · refine JA_skip (y := some (decide (x_3.len = 0))) 5 rfl hns (by kernel_rfl) (by kernel_rfl) rfl (.inr hS_69) rfl rfl (by rw [hc_70]; decide) rfl rfl ?_
        refine JA_skip (y := some (decide (x_3.len = 0))) 6 rfl hns (by kernel_rfl) (by kernel_rfl) rfl (.inr hS_69) rfl rfl (by rw [hc_70]; decide) rfl rfl ?_
        refine JA_skip (y := some (decide (x_3.len = 0))) 7 rfl hns (by kernel_rfl) (by kernel_rfl) rfl (.inr hS_69) rfl rfl (by rw [hc_70]; decide) rfl rfl ?_
        refine JA_skip (y := some (decide (x_3.len = 0))) 8 rfl hns (by kernel_rfl) (by kernel_rfl) rfl (.inr hS_69) rfl rfl (by rw [hc_70]; decide) rfl rfl ?_
        refine JA_skip (y := some (decide (x_3.len = 0))) 9 rfl hns (by kernel_rfl) (by kernel_rfl) rfl (.inr hS_69) rfl rfl (by rw [hc_70]; decide) rfl rfl ?_
        refine JA_takep 10 rfl hns (by kernel_rfl) (by kernel_rfl) rfl (.inr hS_69) rfl rfl rfl (r_pick_f (v := .bool false) rfl hc_70 rfl) ?_
        refine J_prune [(3, v_11), (4, .pointer (some (Addr.add c_14 0))), (6, .pointer (some (Addr.add c_16 0))), (8, .bool false), (47, .bool (decide (x_3.len = 0) && decide (Numbers_5.len = n_7)))] ⟨rfl, rfl, rfl, rfl, (by show Value.bool _ = Value.bool _; rw [hc_70]; rfl), trivial⟩ hk
      · refine JA_takep 11 rfl hns (by kernel_rfl) (by kernel_rfl) rfl (.inr hS_69) rfl rfl rfl (r_move (v := .bool (decide (x_3.len = 0) && decide (Numbers_5.len = n_7))) rfl) ?_
        refine J_forkAB (e := (decide (x_3.len = 0) && decide (Numbers_5.len = n_7))) 1 #[true, true, true, true, true, true, true, true, true, true, true, true, true, true, true, true, true, true, true, true, true, true, false] (fun (y : Bool) L τ PV => σ = τ ∧ L = [(8, .bool false), (58, .bool y)] ∧ PV = [.row (t_Gdiff_Leq).o 37 v_11 x_12, .cell c_16 [.int .i64 goal_9.X, .int .i64 goal_9.Y, .int .i64 goal_9.C], .cell c_14 [.bool Yes_1, v_2, v_4], .row ((tInt .i64)).o 3 v_2 x_3]) (fun hc_71 hk => ?_) (fun hc_71 hk => ?_) ?_
        · refine JA_takepg 12 rfl hns (by kernel_rfl) (by kernel_rfl) rfl (.inr hS_69) rfl rfl hc_71 rfl rfl (r_fieldAddr (r := Addr.add c_14 2) Try.pu35 (f := Try.pf35.getD 2 default) rfl Try.pi30 (by decide) rfl (Addr.add_add _ _ _)) ?_
          refine JA_takeg 13 rfl hns (by kernel_rfl) (by kernel_rfl) (by kernel_rfl) rfl (by kernel_rfl) hS_69 rfl rfl hc_71 rfl rfl (r_load_priv (a := c_14) (off := 2) (cs' := [v_4]) (v := v_4) 2 Try.pu30 Try.pi30 rfl rfl rfl rfl (by decide) rfl) ?_
          refine JA_takepg 14 rfl hns (by kernel_rfl) (by kernel_rfl) rfl (.inr hS_69) rfl rfl hc_71 rfl rfl (r_move (v := v_11) rfl) ?_
          refine JA_takeg 16 rfl hns (by kernel_rfl) (by kernel_rfl) (by kernel_rfl) rfl (by kernel_rfl) hS_69 rfl rfl hc_71 rfl rfl (r_load_priv (a := c_16) (off := 0) (cs' := [.int .i64 goal_9.X, .int .i64 goal_9.Y, .int .i64 goal_9.C]) (v := .agg #[.int .i64 goal_9.X, .int .i64 goal_9.Y, .int .i64 goal_9.C]) 1 Try.pu37 Try.pi37 rfl rfl rfl rfl (by decide) rfl) ?_
          refine J_assoc ?_
          refine JA_opg (i := 15) (by kernel_rfl) rfl rfl rfl hc_71 (op_call (f := 24) (fn := Try.f24) (args := [v_11]) (post := slices_Clone_post σ v_11 x_12) [.row (t_Gdiff_Leq).o 37 v_11 x_12] [.cell c_16 [.int .i64 goal_9.X, .int .i64 goal_9.Y, .int .i64 goal_9.C], .cell c_14 [.bool Yes_1, v_2, v_4], .row ((tInt .i64)).o 3 v_2 x_3] rfl rfl rfl Try.func24 Try.pn24 rfl rfl (fun y st hy hpre => slices_Clone_ref st σ v_11 x_12 hpre y hy) ?_)
          intro r_73 v_75 s_78 PV_76 hr_74 hle_79 hp_77
          obtain ⟨v_81, rfl, rfl, rfl⟩ := hp_77
          have hS_82 : HeldOK σ [.row (t_Gdiff_Leq).o 37 v_11 x_12, .cell c_16 [.int .i64 goal_9.X, .int .i64 goal_9.Y, .int .i64 goal_9.C], .cell c_14 [.bool Yes_1, v_2, v_4], .row ((tInt .i64)).o 3 v_2 x_3] σ [.row (t_Gdiff_Leq).o 37 v_81 r_73, .row (t_Gdiff_Leq).o 37 v_11 x_12, .cell c_16 [.int .i64 goal_9.X, .int .i64 goal_9.Y, .int .i64 goal_9.C], .cell c_14 [.bool Yes_1, v_2, v_4], .row ((tInt .i64)).o 3 v_2 x_3] := HeldOK.same [1, 2, 3, 4] (by decide) rfl
          refine ⟨.inr hS_82, ?_⟩
          refine J_assoc ?_
          refine JA_opg (i := 17) (by kernel_rfl) rfl rfl rfl hc_71 (op_call (f := 25) (fn := Try.f25) (args := [.agg #[.int .i64 goal_9.X, .int .i64 goal_9.Y, .int .i64 goal_9.C]]) (post := cert_turned_post σ (.agg #[.int .i64 goal_9.X, .int .i64 goal_9.Y, .int .i64 goal_9.C]) goal_9) [] [.row (t_Gdiff_Leq).o 37 v_81 r_73, .row (t_Gdiff_Leq).o 37 v_11 x_12, .cell c_16 [.int .i64 goal_9.X, .int .i64 goal_9.Y, .int .i64 goal_9.C], .cell c_14 [.bool Yes_1, v_2, v_4], .row ((tInt .i64)).o 3 v_2 x_3] rfl rfl rfl Try.func25 Try.pn25 rfl rfl (fun y st hy hpre => cert_turned_ref st σ (.agg #[.int .i64 goal_9.X, .int .i64 goal_9.Y, .int .i64 goal_9.C]) goal_9 (t_Gdiff_Leq_v.2 rfl) hpre y hy) ?_)
          intro r_83 v_85 s_88 PV_86 hr_84 hle_89 hp_87
          obtain ⟨rfl, rfl, rfl⟩ := hp_87
          have hS_90 : HeldOK σ [.row (t_Gdiff_Leq).o 37 v_11 x_12, .cell c_16 [.int .i64 goal_9.X, .int .i64 goal_9.Y, .int .i64 goal_9.C], .cell c_14 [.bool Yes_1, v_2, v_4], .row ((tInt .i64)).o 3 v_2 x_3] σ [.row (t_Gdiff_Leq).o 37 v_81 r_73, .row (t_Gdiff_Leq).o 37 v_11 x_12, .cell c_16 [.int .i64 goal_9.X, .int .i64 goal_9.Y, .int .i64 goal_9.C], .cell c_14 [.bool Yes_1, v_2, v_4], .row ((tInt .i64)).o 3 v_2 x_3] := HeldOK.same [1, 2, 3, 4] (by decide) rfl
          refine ⟨.inr hS_90, ?_⟩
          refine JA_opg (i := 18) (by kernel_rfl) rfl rfl rfl hc_71 (op_buildSlice (T := (t_Gdiff_Leq).o) (vs := [.agg #[.int .i64 goal_9.Y, .int .i64 goal_9.X, .int .i64 (IntKind.i64.wrap ((IntKind.i64.wrap (0 - goal_9.C)) - 1))]]) (xs := [(⟨goal_9.Y, goal_9.X, IntKind.i64.wrap ((IntKind.i64.wrap (0 - goal_9.C)) - 1)⟩ : Gdiff_Leq)]) [] [.row (t_Gdiff_Leq).o 37 v_81 r_73, .row (t_Gdiff_Leq).o 37 v_11 x_12, .cell c_16 [.int .i64 goal_9.X, .int .i64 goal_9.Y, .int .i64 goal_9.C], .cell c_14 [.bool Yes_1, v_2, v_4], .row ((tInt .i64)).o 3 v_2 x_3] rfl Try.pu23 Try.pi37 rfl rfl rfl rfl rfl rfl (relsO_cons (A := []) (B := []) (u := .agg #[.int .i64 goal_9.Y, .int .i64 goal_9.X, .int .i64 (IntKind.i64.wrap ((IntKind.i64.wrap (0 - goal_9.C)) - 1))]) (x := (⟨goal_9.Y, goal_9.X, IntKind.i64.wrap ((IntKind.i64.wrap (0 - goal_9.C)) - 1)⟩ : Gdiff_Leq)) (fix_vrel (T := (t_Gdiff_Leq).o) rfl (t_Gdiff_Leq_v.2 rfl)) relsO_nil) ?_)
          intro v_91
          have hS_93 : HeldOK σ [.row (t_Gdiff_Leq).o 37 v_11 x_12, .cell c_16 [.int .i64 goal_9.X, .int .i64 goal_9.Y, .int .i64 goal_9.C], .cell c_14 [.bool Yes_1, v_2, v_4], .row ((tInt .i64)).o 3 v_2 x_3] σ [.row (t_Gdiff_Leq).o 37 v_91 (⟨[(⟨goal_9.Y, goal_9.X, IntKind.i64.wrap ((IntKind.i64.wrap (0 - goal_9.C)) - 1)⟩ : Gdiff_Leq)], true⟩ : Sl Gdiff_Leq), .row (t_Gdiff_Leq).o 37 v_81 r_73, .row (t_Gdiff_Leq).o 37 v_11 x_12, .cell c_16 [.int .i64 goal_9.X, .int .i64 goal_9.Y, .int .i64 goal_9.C], .cell c_14 [.bool Yes_1, v_2, v_4], .row ((tInt .i64)).o 3 v_2 x_3] := HeldOK.same [2, 3, 4, 5] (by decide) rfl
          refine ⟨.inr hS_93, ?_⟩
          refine J_select (PV' := [.row (t_Gdiff_Leq).o 37 v_81 r_73, .row (t_Gdiff_Leq).o 37 v_91 (⟨[(⟨goal_9.Y, goal_9.X, IntKind.i64.wrap ((IntKind.i64.wrap (0 - goal_9.C)) - 1)⟩ : Gdiff_Leq)], true⟩ : Sl Gdiff_Leq), .row (t_Gdiff_Leq).o 37 v_11 x_12, .cell c_16 [.int .i64 goal_9.X, .int .i64 goal_9.Y, .int .i64 goal_9.C], .cell c_14 [.bool Yes_1, v_2, v_4], .row ((tInt .i64)).o 3 v_2 x_3]) [1, 0, 2, 3, 4, 5] (by decide) rfl ?_
          have hS_97 : HeldOK σ [.row (t_Gdiff_Leq).o 37 v_11 x_12, .cell c_16 [.int .i64 goal_9.X, .int .i64 goal_9.Y, .int .i64 goal_9.C], .cell c_14 [.bool Yes_1, v_2, v_4], .row ((tInt .i64)).o 3 v_2 x_3] σ [.row (t_Gdiff_Leq).o 37 v_81 r_73, .row (t_Gdiff_Leq).o 37 v_91 (⟨[(⟨goal_9.Y, goal_9.X, IntKind.i64.wrap ((IntKind.i64.wrap (0 - goal_9.C)) - 1)⟩ : Gdiff_Leq)], true⟩ : Sl Gdiff_Leq), .row (t_Gdiff_Leq).o 37 v_11 x_12, .cell c_16 [.int .i64 goal_9.X, .int .i64 goal_9.Y, .int .i64 goal_9.C], .cell c_14 [.bool Yes_1, v_2, v_4], .row ((tInt .i64)).o 3 v_2 x_3] := HeldOK.same [2, 3, 4, 5] (by decide) rfl
          refine J_assoc ?_
          refine JA_opg (i := 19) (by kernel_rfl) rfl rfl rfl hc_71 (op_append (v := v_81) (u := v_91) (T := (t_Gdiff_Leq).o) (ts := [(⟨goal_9.Y, goal_9.X, IntKind.i64.wrap ((IntKind.i64.wrap (0 - goal_9.C)) - 1)⟩ : Gdiff_Leq)]) [] [.row (t_Gdiff_Leq).o 37 v_91 (⟨[(⟨goal_9.Y, goal_9.X, IntKind.i64.wrap ((IntKind.i64.wrap (0 - goal_9.C)) - 1)⟩ : Gdiff_Leq)], true⟩ : Sl Gdiff_Leq), .row (t_Gdiff_Leq).o 37 v_11 x_12, .cell c_16 [.int .i64 goal_9.X, .int .i64 goal_9.Y, .int .i64 goal_9.C], .cell c_14 [.bool Yes_1, v_2, v_4], .row ((tInt .i64)).o 3 v_2 x_3] rfl Try.pu23 Try.pi37 rfl rfl rfl rfl rfl rfl (source_copy (s := (⟨[(⟨goal_9.Y, goal_9.X, IntKind.i64.wrap ((IntKind.i64.wrap (0 - goal_9.C)) - 1)⟩ : Gdiff_Leq)], true⟩ : Sl Gdiff_Leq)) 1 rfl) ?_)
          intro s_95 v_94 hs_96
          have hS_98 : HeldOK σ [.row (t_Gdiff_Leq).o 37 v_11 x_12, .cell c_16 [.int .i64 goal_9.X, .int .i64 goal_9.Y, .int .i64 goal_9.C], .cell c_14 [.bool Yes_1, v_2, v_4], .row ((tInt .i64)).o 3 v_2 x_3] σ [.row (t_Gdiff_Leq).o 37 v_94 s_95, .row (t_Gdiff_Leq).o 37 v_91 (⟨[(⟨goal_9.Y, goal_9.X, IntKind.i64.wrap ((IntKind.i64.wrap (0 - goal_9.C)) - 1)⟩ : Gdiff_Leq)], true⟩ : Sl Gdiff_Leq), .row (t_Gdiff_Leq).o 37 v_11 x_12, .cell c_16 [.int .i64 goal_9.X, .int .i64 goal_9.Y, .int .i64 goal_9.C], .cell c_14 [.bool Yes_1, v_2, v_4], .row ((tInt .i64)).o 3 v_2 x_3] := HeldOK.same [2, 3, 4, 5] (by decide) rfl
          refine ⟨.inr hS_98, ?_⟩
          refine J_assoc ?_
          refine JA_opg (i := 20) (by kernel_rfl) rfl rfl rfl hc_71 (op_call (f := 13) (fn := Try.f13) (args := [v_4, v_94]) (post := cert_Holds_post σ v_4 Numbers_5 v_94 s_95) [.row (t_Gdiff_Leq).o 37 v_94 s_95] [.row (t_Gdiff_Leq).o 37 v_91 (⟨[(⟨goal_9.Y, goal_9.X, IntKind.i64.wrap ((IntKind.i64.wrap (0 - goal_9.C)) - 1)⟩ : Gdiff_Leq)], true⟩ : Sl Gdiff_Leq), .row (t_Gdiff_Leq).o 37 v_11 x_12, .cell c_16 [.int .i64 goal_9.X, .int .i64 goal_9.Y, .int .i64 goal_9.C], .cell c_14 [.bool Yes_1, v_2, v_4], .row ((tInt .i64)).o 3 v_2 x_3] rfl rfl rfl Try.func13 Try.pn13 rfl rfl (fun y st hy hpre => cert_Holds_ref st σ v_4 Numbers_5 h_6 v_94 s_95 hpre y hy) ?_)
          intro r_99 v_101 s_104 PV_102 hr_100 hle_105 hp_103
          obtain ⟨rfl, rfl, rfl⟩ := hp_103
          have hS_106 : HeldOK σ [.row (t_Gdiff_Leq).o 37 v_11 x_12, .cell c_16 [.int .i64 goal_9.X, .int .i64 goal_9.Y, .int .i64 goal_9.C], .cell c_14 [.bool Yes_1, v_2, v_4], .row ((tInt .i64)).o 3 v_2 x_3] σ [.row (t_Gdiff_Leq).o 37 v_94 s_95, .row (t_Gdiff_Leq).o 37 v_91 (⟨[(⟨goal_9.Y, goal_9.X, IntKind.i64.wrap ((IntKind.i64.wrap (0 - goal_9.C)) - 1)⟩ : Gdiff_Leq)], true⟩ : Sl Gdiff_Leq), .row (t_Gdiff_Leq).o 37 v_11 x_12, .cell c_16 [.int .i64 goal_9.X, .int .i64 goal_9.Y, .int .i64 goal_9.C], .cell c_14 [.bool Yes_1, v_2, v_4], .row ((tInt .i64)).o 3 v_2 x_3] := HeldOK.same [2, 3, 4, 5] (by decide) rfl
          refine ⟨.inr hS_106, ?_⟩
          refine JA_takep 21 rfl hns (by kernel_rfl) (by kernel_rfl) rfl (.inr hS_106) rfl rfl rfl (r_pick_t (v := .bool r_99) rfl hc_71 rfl) ?_
          refine J_select (PV' := [.row (t_Gdiff_Leq).o 37 v_11 x_12, .cell c_16 [.int .i64 goal_9.X, .int .i64 goal_9.Y, .int .i64 goal_9.C], .cell c_14 [.bool Yes_1, v_2, v_4], .row ((tInt .i64)).o 3 v_2 x_3]) [2, 3, 4, 5] (by decide) rfl ?_
          refine J_prune _ ?_ fun b => hk r_99 _ b _ _ ⟨rfl, rfl, rfl⟩
          exact ⟨rfl, rfl, trivial⟩
        · refine JA_skip (y := some (decide (x_3.len = 0) && decide (Numbers_5.len = n_7))) 12 rfl hns (by kernel_rfl) (by kernel_rfl) rfl (.inr hS_69) rfl rfl (by rw [hc_71]; decide) rfl rfl ?_
          refine JA_skip (y := some (decide (x_3.len = 0) && decide (Numbers_5.len = n_7))) 13 rfl hns (by kernel_rfl) (by kernel_rfl) rfl (.inr hS_69) rfl rfl (by rw [hc_71]; decide) rfl rfl ?_
          refine JA_skip (y := some (decide (x_3.len = 0) && decide (Numbers_5.len = n_7))) 14 rfl hns (by kernel_rfl) (by kernel_rfl) rfl (.inr hS_69) rfl rfl (by rw [hc_71]; decide) rfl rfl ?_
          refine JA_skip (y := some (decide (x_3.len = 0) && decide (Numbers_5.len = n_7))) 15 rfl hns (by kernel_rfl) (by kernel_rfl) rfl (.inr hS_69) rfl rfl (by rw [hc_71]; decide) rfl rfl ?_
          refine JA_skip (y := some (decide (x_3.len = 0) && decide (Numbers_5.len = n_7))) 16 rfl hns (by kernel_rfl) (by kernel_rfl) rfl (.inr hS_69) rfl rfl (by rw [hc_71]; decide) rfl rfl ?_
          refine JA_skip (y := some (decide (x_3.len = 0) && decide (Numbers_5.len = n_7))) 17 rfl hns (by kernel_rfl) (by kernel_rfl) rfl (.inr hS_69) rfl rfl (by rw [hc_71]; decide) rfl rfl ?_
          refine JA_skip (y := some (decide (x_3.len = 0) && decide (Numbers_5.len = n_7))) 18 rfl hns (by kernel_rfl) (by kernel_rfl) rfl (.inr hS_69) rfl rfl (by rw [hc_71]; decide) rfl rfl ?_
          refine JA_skip (y := some (decide (x_3.len = 0) && decide (Numbers_5.len = n_7))) 19 rfl hns (by kernel_rfl) (by kernel_rfl) rfl (.inr hS_69) rfl rfl (by rw [hc_71]; decide) rfl rfl ?_
          refine JA_skip (y := some (decide (x_3.len = 0) && decide (Numbers_5.len = n_7))) 20 rfl hns (by kernel_rfl) (by kernel_rfl) rfl (.inr hS_69) rfl rfl (by rw [hc_71]; decide) rfl rfl ?_
          refine JA_takep 21 rfl hns (by kernel_rfl) (by kernel_rfl) rfl (.inr hS_69) rfl rfl rfl (r_pick_f (v := .bool false) rfl hc_71 rfl) ?_
          refine J_prune _ ?_ fun b => hk false _ b _ _ ⟨rfl, rfl, rfl⟩
          exact ⟨rfl, rfl, trivial⟩
        · rintro y_72 _ b s_109 _ ⟨rfl, rfl, rfl⟩
          have hS_110 : HeldOK σ [.row (t_Gdiff_Leq).o 37 v_11 x_12, .cell c_16 [.int .i64 goal_9.X, .int .i64 goal_9.Y, .int .i64 goal_9.C], .cell c_14 [.bool Yes_1, v_2, v_4], .row ((tInt .i64)).o 3 v_2 x_3] σ [.row (t_Gdiff_Leq).o 37 v_11 x_12, .cell c_16 [.int .i64 goal_9.X, .int .i64 goal_9.Y, .int .i64 goal_9.C], .cell c_14 [.bool Yes_1, v_2, v_4], .row ((tInt .i64)).o 3 v_2 x_3] := HeldOK.same [0, 1, 2, 3] (by decide) rfl
          refine JA_takep 22 rfl hns (by kernel_rfl) (by kernel_rfl) rfl (.inr hS_110) rfl rfl rfl (r_assign (v := .bool y_72) rfl) ?_
          refine JA_done (by kernel_rfl) ?_
          refine J_then ?_
          refine J_ret ?_
          exact J_returnV1 (PV' := [.row ((tInt .i64)).o 3 v_2 x_3, .row (t_Gdiff_Leq).o 37 v_11 x_12]) rfl rv_tmp [3, 0] (by decide) rfl ⟨rfl, rfl, rfl⟩
def slices_IndexFunc_v4_post (σ0 : FS) (v_1 : Value) (s_2 : Sl Int) (a_4 : Addr) (v_5 : Value) (x_6 : Sl Gdiff_Leq) (r : Int) (σ : FS) (PV : List Priv) (v : Value) : Prop :=
  σ0 = σ ∧ .int .i64 r = v ∧ PV = [.cell a_4 [v_5], .row (t_Gdiff_Leq).o 37 v_5 x_6]
set_option maxRecDepth 100000 in
theorem slices_IndexFunc_v4_ref (s : Start) (σ : FS) (v_1 : Value) (s_2 : Sl Int) (h_3 : (tSl (tInt .i64)).vrel σ v_1 s_2) (a_4 : Addr) (v_5 : Value) (x_6 : Sl Gdiff_Leq) (hs : Pre s σ [.cell a_4 [v_5], .row (t_Gdiff_Leq).o 37 v_5 x_6]) (r : Int) (hr : slices_IndexFunc_v4 s_2 x_6 = some r) : Does Try.prog 30 [v_1, .func (.func 20) #[] #[.pointer (some (Addr.add a_4 0))]] s σ (slices_IndexFunc_v4_post σ v_1 s_2 a_4 v_5 x_6 r) := by
  unfold slices_IndexFunc_v4 at hr
  refine does_of_J Try.func30 rfl (n := 19) rfl rfl hs hr ?_
  refine J_seq ?_
  refine J_region ?_
  refine JL_op rfl (op_read rfl rfl (r_assign (v := .int .i64 0) rfl) ?_)
  refine JL_nil ?_
  refine J_then ?_
  refine J_seq ?_
  refine J_seq ?_
  refine J_region ?_
  refine JL_op rfl (op_read rfl rfl (r_move (v := v_1) rfl) ?_)
  refine JL_op rfl (op_read rfl rfl (r_len_frozen (v := v_1) Try.pu22 rfl h_3) ?_)
  refine JL_op rfl (op_read rfl rfl (r_move (v := .int .i64 0) rfl) ?_)
  refine JL_nil ?_
  refine J_then ?_
  refine J_block ?_
  refine J_loop (fun (y : Int) L τ PV => σ = τ ∧ L = [(0, v_1), (1, .func (.func 20) #[] #[.pointer (some (Addr.add a_4 0))]), (7, .int .i64 s_2.len), (8, .int .i64 y)] ∧ PV = [.cell a_4 [v_5], .row (t_Gdiff_Leq).o 37 v_5 x_6]) (fun (y : W2 Unit Int) e L τ PV => match y, e with | .a y, e => e = .exit 0 ∧ (σ = τ ∧ L = [] ∧ PV = [.cell a_4 [v_5], .row (t_Gdiff_Leq).o 37 v_5 x_6]) | .b y, e => e = .ret ∧ (σ = τ ∧ L = [(4, .int .i64 y)] ∧ PV = [.cell a_4 [v_5], .row (t_Gdiff_Leq).o 37 v_5 x_6])) _ ?_ ⟨rfl, rfl, rfl⟩ ?_ ?_
  · exact ⟨rfl, rfl, rfl, rfl, trivial⟩
  · rintro x_7 _ b s_10 _ ⟨rfl, rfl, rfl⟩
    unfold slices_IndexFunc_v4_L1
    refine J_seq ?_
    refine J_region ?_
    refine JL_op rfl (op_read rfl rfl (r_lss rfl rfl) ?_)
    refine JL_nil ?_
    refine J_then ?_
    refine J_seq ?_
    refine J_cond rfl (fun hc_11 => ?_) (fun hc_11 => ?_)
    · refine J_skip ?_
      refine J_then ?_
      refine J_seq ?_
      refine J_block ?_
      refine J_seq ?_
      refine J_region ?_
      refine JL_op rfl (op_read rfl rfl (r_move (v := .int .i64 x_7) rfl) ?_)
      refine JL_op rfl (op_read rfl rfl (r_assign (v := .int .i64 x_7) rfl) ?_)
      refine JL_nil ?_
      refine J_then ?_
      refine J_seq ?_
      refine J_region ?_
      refine JL_op rfl (op_read rfl rfl (r_move (v := .func (.func 20) #[] #[.pointer (some (Addr.add a_4 0))]) rfl) ?_)
      refine JL_op rfl (op_read rfl rfl (r_move (v := v_1) rfl) ?_)
      refine JL_op rfl (op_read rfl rfl (r_move (v := .int .i64 x_7) rfl) ?_)
      refine J_bind fun x_12 hx_13 => ?_
      refine JL_op rfl (op_read rfl rfl (r_index_frozen (v := v_1) (T := (tInt .i64)) (q := x_12) Try.pu22 Try.pi3 rfl rfl rfl h_3 hx_13) ?_)
      refine JL_op rfl (op_reads rfl rfl (l_elem_frozen (v := v_1) (T := (tInt .i64)) (Tf := (tInt .i64)) (q := x_12) (i := x_7) (off := 0) Try.pu3 Try.pi3 rfl rfl rfl h_3 hx_13 (FieldAt.self _) (by decide)) ?_)
      intro v_14 h_15
      obtain rfl := tInt_v.1 h_15
      refine JL_op rfl (op_call (f := 20) (fn := Try.f20) (args := [.int .i64 x_12, .pointer (some (Addr.add a_4 0))]) (post := cert_Circle_1_post σ x_12 a_4 v_5 x_6) [.cell a_4 [v_5], .row (t_Gdiff_Leq).o 37 v_5 x_6] [] rfl rfl rfl Try.func20 Try.pn20 rfl rfl (fun y st hy hpre => cert_Circle_1_ref st σ x_12 a_4 v_5 x_6 hpre y hy) ?_)
      intro r_16 v_18 s_21 PV_19 hr_17 hle_22 hp_20
      obtain ⟨rfl, rfl, rfl⟩ := hp_20
      refine JL_nil ?_
      refine J_then ?_
      refine J_cond rfl (fun hc_23 => ?_) (fun hc_23 => ?_)
      · refine J_seq ?_
        refine J_region ?_
        refine JL_op rfl (op_read rfl rfl (r_move (v := .int .i64 x_7) rfl) ?_)
        refine JL_op rfl (op_read rfl rfl (r_assign (v := .int .i64 x_7) rfl) ?_)
        refine JL_nil ?_
        refine J_then ?_
        refine J_ret ?_
        refine J_in_ret ?_
        refine J_then_ret ?_
        refine J_done trivial _ ?_ ⟨rfl, rfl, rfl, rfl⟩
        exact ⟨rfl, trivial⟩
      · refine J_skip ?_
        refine J_in_normal ?_
        refine J_then ?_
        refine J_region ?_
        refine JL_op rfl (op_read rfl rfl (r_add rfl rfl) ?_)
        refine JL_op rfl (op_read rfl rfl (r_move (v := .int .i64 (IntKind.i64.wrap (x_7 + 1))) rfl) ?_)
        refine JL_nil ?_
        refine J_next _ ?_ ⟨rfl, rfl, rfl⟩
        exact ⟨rfl, rfl, rfl, rfl, trivial⟩
    · refine J_exit ?_
      refine J_then_exit ?_
      refine J_done trivial _ ?_ ⟨rfl, rfl, rfl, rfl⟩
      exact trivial
  · rintro (y_25 | y_29) e L b τ PV ht
    · obtain ⟨rfl, ht⟩ := ht
      revert ht; revert PV; revert τ; revert b; revert L
      rintro _ b s_28 _ ⟨rfl, rfl, rfl⟩
      refine J_in_exit ?_
      refine J_then ?_
      refine J_seq ?_
      refine J_region ?_
      refine JL_op rfl (op_read rfl rfl (r_assign (v := .int .i64 (-1)) rfl) ?_)
      refine JL_nil ?_
      refine J_then ?_
      refine J_ret ?_
      exact J_returnV1 (PV' := [.cell a_4 [v_5], .row (t_Gdiff_Leq).o 37 v_5 x_6]) rfl rv_tmp [0, 1] (by decide) rfl ⟨rfl, rfl, rfl⟩
    · obtain ⟨rfl, ht⟩ := ht
      revert ht; revert PV; revert τ; revert b; revert L
      rintro _ b s_32 _ ⟨rfl, rfl, rfl⟩
      refine J_in_ret ?_
      refine J_then_ret ?_
      exact J_returnV1 (PV' := [.cell a_4 [v_5], .row (t_Gdiff_Leq).o 37 v_5 x_6]) rfl rv_tmp [0, 1] (by decide) rfl ⟨rfl, rfl, rfl⟩
def slices_ContainsFunc_v4_post (σ0 : FS) (v_1 : Value) (s_2 : Sl Int) (a_4 : Addr) (v_5 : Value) (x_6 : Sl Gdiff_Leq) (r : Bool) (σ : FS) (PV : List Priv) (v : Value) : Prop :=
  σ0 = σ ∧ .bool r = v ∧ PV = [.cell a_4 [v_5], .row (t_Gdiff_Leq).o 37 v_5 x_6]
set_option maxRecDepth 100000 in
theorem slices_ContainsFunc_v4_ref (s : Start) (σ : FS) (v_1 : Value) (s_2 : Sl Int) (h_3 : (tSl (tInt .i64)).vrel σ v_1 s_2) (a_4 : Addr) (v_5 : Value) (x_6 : Sl Gdiff_Leq) (hs : Pre s σ [.cell a_4 [v_5], .row (t_Gdiff_Leq).o 37 v_5 x_6]) (r : Bool) (hr : slices_ContainsFunc_v4 s_2 x_6 = some r) : Does Try.prog 19 [v_1, .func (.func 20) #[] #[.pointer (some (Addr.add a_4 0))]] s σ (slices_ContainsFunc_v4_post σ v_1 s_2 a_4 v_5 x_6 r) := by
  unfold slices_ContainsFunc_v4 at hr
  refine does_of_J Try.func19 rfl (n := 9) rfl rfl hs hr ?_
  refine J_seq ?_
  refine J_region ?_
  refine JL_op rfl (op_read rfl rfl (r_assign (v := .bool false) rfl) ?_)
  refine JL_nil ?_
  refine J_then ?_
  refine J_seq ?_
  refine J_region ?_
  refine JL_op rfl (op_read rfl rfl (r_move (v := v_1) rfl) ?_)
  refine JL_op rfl (op_read rfl rfl (r_move (v := .func (.func 20) #[] #[.pointer (some (Addr.add a_4 0))]) rfl) ?_)
  refine JL_op rfl (op_call (f := 30) (fn := Try.f30) (args := [v_1, .func (.func 20) #[] #[.pointer (some (Addr.add a_4 0))]]) (post := slices_IndexFunc_v4_post σ v_1 s_2 a_4 v_5 x_6) [.cell a_4 [v_5], .row (t_Gdiff_Leq).o 37 v_5 x_6] [] rfl rfl rfl Try.func30 Try.pn30 rfl rfl (fun y st hy hpre => slices_IndexFunc_v4_ref st σ v_1 s_2 h_3 a_4 v_5 x_6 hpre y hy) ?_)
  intro r_7 v_9 s_12 PV_10 hr_8 hle_13 hp_11
  obtain ⟨rfl, rfl, rfl⟩ := hp_11
  refine JL_op rfl (op_read rfl rfl (r_geq rfl rfl) ?_)
  refine JL_op rfl (op_read rfl rfl (r_assign (v := .bool (decide (0 ≤ r_7))) rfl) ?_)
  refine JL_nil ?_
  refine J_then ?_
  refine J_ret ?_
  exact J_returnV1 (PV' := [.cell a_4 [v_5], .row (t_Gdiff_Leq).o 37 v_5 x_6]) rfl rv_tmp [0, 1] (by decide) rfl ⟨rfl, rfl, rfl⟩
end Go.Px
