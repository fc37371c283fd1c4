/- The calls do what the models say, part 2. -/
import Derived.Test.YtpeglggahhlabaaRf1
namespace Go.Px
open Go.Proofs
set_option linter.unusedVariables false
def lychgateref05_Holds_post (r : Bool) (σ : FS) (PV : List Priv) (v : Value) : Prop :=
  v = .bool r ∧ PV = []
set_option maxRecDepth 100000 in
theorem lychgateref05_Holds_ref (w : World) (σ : FS) (hs : σ.sub w) (v_2 : Value) (numbers_1 : Sl Int) (h_3 : (tSl (tInt .i64)).vrel σ v_2 numbers_1) (v_5 : Value) (facts_4 : Sl Glychgateref04_Leq) (h_6 : (tSl t_Glychgateref04_Leq).vrel σ v_5 facts_4) (r : Bool) (hr : lychgateref05_Holds numbers_1 facts_4 = some r) : Does Try.prog 14 [v_2, v_5] w σ (lychgateref05_Holds_post r) := by
  unfold lychgateref05_Holds at hr
  refine does_of_J Try.func14 rfl (n := 83) rfl rfl hs hr ?_
  refine J_seq ?_
  refine J_region ?_
  refine JL_op rfl (op_read rfl rfl (r_assign (v := .bool false) rfl) ?_)
  refine JL_nil ?_
  refine J_then ?_
  refine J_seq ?_
  refine J_seq ?_
  refine J_region ?_
  refine JL_op rfl (op_read rfl rfl (r_assign (v := .int .i64 0) rfl) ?_)
  refine JL_nil ?_
  refine J_then ?_
  refine J_block ?_
  refine J_loop (fun (y : Int) L τ PV => σ.le τ ∧ L = [(0, v_2), (1, v_5), (5, .int .i64 y)] ∧ PV = []) (fun (y : W2 Unit Unit) e L τ PV => match y, e with | .a y, e => e = .exit 0 ∧ (σ.le τ ∧ L = [] ∧ PV = []) | .b y, e => e = .ret ∧ (σ.le τ ∧ L = [(4, .bool false)] ∧ PV = [])) _ ?_ ⟨(FS.le.refl _), rfl, rfl⟩ ?_ ?_
  · exact ⟨rfl, rfl, rfl, trivial⟩
  · rintro x_7 _ b s_8 _ ⟨hle_9, rfl, rfl⟩
    unfold lychgateref05_Holds_L1
    refine J_seq ?_
    refine J_seq ?_
    refine J_region ?_
    refine JL_op rfl (op_read rfl rfl (r_move (v := .int .i64 x_7) rfl) ?_)
    refine JL_op rfl (op_read rfl rfl (r_move (v := v_5) rfl) ?_)
    refine JL_op rfl (op_read rfl rfl (r_len_frozen (v := v_5) Try.pu27 rfl (Ty.vmono _ hle_9 h_6)) ?_)
    refine JL_op rfl (op_read rfl rfl (r_lss rfl rfl) ?_)
    refine JL_nil ?_
    refine J_then ?_
    refine J_cond rfl (fun hc_10 => ?_) (fun hc_10 => ?_)
    · refine J_skip ?_
      refine J_then ?_
      refine J_seq ?_
      refine J_block ?_
      refine J_seq ?_
      refine J_region ?_
      refine JL_op rfl (op_read rfl rfl (r_move (v := v_5) rfl) ?_)
      refine JL_op rfl (op_read rfl rfl (r_move (v := .int .i64 x_7) rfl) ?_)
      refine J_bind fun x_11 hx_12 => ?_
      refine JL_op rfl (op_read rfl rfl (r_index_frozen (v := v_5) (T := t_Glychgateref04_Leq) (q := x_11) Try.pu27 Try.pi40 rfl rfl rfl (Ty.vmono _ hle_9 h_6) hx_12) ?_)
      refine JL_op rfl (op_reads rfl rfl (l_elem_frozen (v := v_5) (T := t_Glychgateref04_Leq) (Tf := t_Glychgateref04_Leq) (q := x_11) (i := x_7) (off := 0) Try.pu40 Try.pi40 rfl rfl rfl (Ty.vmono _ hle_9 h_6) hx_12 (FieldAt.self _) (by decide)) ?_)
      intro v_13 h_14
      obtain rfl := t_Glychgateref04_Leq_v.1 h_14
      refine JL_op rfl (op_alloc (cs := [.int .i64 0, .int .i64 0, .int .i64 0]) rfl Try.pi40 rfl rfl ?_)
      intro c_15
      refine JL_op rfl (op_store_priv (vs := [.int .i64 x_11.X, .int .i64 x_11.Y, .int .i64 x_11.C]) (cs' := [.int .i64 x_11.X, .int .i64 x_11.Y, .int .i64 x_11.C]) (PV' := [.cell c_15 [.int .i64 x_11.X, .int .i64 x_11.Y, .int .i64 x_11.C] 40]) 0 Try.pi40 rfl rfl rfl ⟨rfl, rfl, rfl, trivial⟩ rfl rfl rfl rfl ?_)
      refine JL_nil ?_
      refine J_then ?_
      refine J_seq ?_
      refine J_seq ?_
      refine J_region ?_
      refine JL_op rfl (op_read rfl rfl (r_fieldAddr (r := ⟨c_15, 0, none⟩) Try.pu40 (f := Try.pf40.getD 0 default) rfl Try.pi3 (by decide) rfl rfl) ?_)
      refine JL_op rfl (op_read rfl rfl (r_load_priv (cs' := [.int .i64 x_11.X]) (v := .int .i64 x_11.X) 0 Try.pu3 Try.pi3 rfl rfl rfl rfl (by decide) rfl) ?_)
      refine JL_op rfl (op_read rfl rfl (r_lss rfl rfl) ?_)
      refine JL_op rfl (op_read rfl rfl (r_move (v := .bool (decide (x_11.X < 0))) rfl) ?_)
      refine J_forkL (e := (decide (x_11.X < 0))) 6 [(0, v_2), (1, v_5), (5, .int .i64 x_7), (6, .pointer (some ⟨c_15, 0, none⟩)), (28, .bool (decide (x_11.X < 0) || decide (numbers_1.len ≤ x_11.X)))] (fun hc_17 hk => ?_) (fun hc_17 hk => ?_) (fun b => ?_)
      · refine JL_skip rfl rfl hc_17 rfl rfl ?_
        refine JL_skip rfl rfl hc_17 rfl rfl ?_
        refine JL_skip rfl rfl hc_17 rfl rfl ?_
        refine JL_skip rfl rfl hc_17 rfl rfl ?_
        refine JL_skip rfl rfl hc_17 rfl rfl ?_
        refine JL_op rfl (op_read rfl rfl (r_pick_t (v := .bool true) rfl hc_17 rfl) ?_)
        refine J_prune [(0, v_2), (1, v_5), (5, .int .i64 x_7), (6, .pointer (some ⟨c_15, 0, none⟩)), (28, .bool (decide (x_11.X < 0) || decide (numbers_1.len ≤ x_11.X)))] ⟨rfl, rfl, rfl, rfl, (by show Value.bool _ = Value.bool _; rw [hc_17]; rfl), trivial⟩ hk
      · refine JL_opg rfl rfl hc_17 (op_read rfl rfl (r_fieldAddr (r := ⟨c_15, 0, none⟩) Try.pu40 (f := Try.pf40.getD 0 default) rfl Try.pi3 (by decide) rfl rfl) ?_)
        refine JL_opg rfl rfl hc_17 (op_read rfl rfl (r_load_priv (cs' := [.int .i64 x_11.X]) (v := .int .i64 x_11.X) 0 Try.pu3 Try.pi3 rfl rfl rfl rfl (by decide) rfl) ?_)
        refine JL_opg rfl rfl hc_17 (op_read rfl rfl (r_move (v := v_2) rfl) ?_)
        refine JL_opg rfl rfl hc_17 (op_read rfl rfl (r_len_frozen (v := v_2) Try.pu30 rfl (Ty.vmono _ hle_9 h_3)) ?_)
        refine JL_opg rfl rfl hc_17 (op_read rfl rfl (r_geq rfl rfl) ?_)
        refine JL_op rfl (op_read rfl rfl (r_pick_f (v := .bool (decide (numbers_1.len ≤ x_11.X))) rfl hc_17 rfl) ?_)
        refine J_prune [(0, v_2), (1, v_5), (5, .int .i64 x_7), (6, .pointer (some ⟨c_15, 0, none⟩)), (28, .bool (decide (x_11.X < 0) || decide (numbers_1.len ≤ x_11.X)))] ⟨rfl, rfl, rfl, rfl, (by show Value.bool _ = Value.bool _; rw [hc_17]; rfl), trivial⟩ hk
      · refine JL_op rfl (op_read rfl rfl (r_move (v := .bool (decide (x_11.X < 0) || decide (numbers_1.len ≤ x_11.X))) rfl) ?_)
        refine J_forkL (e := (decide (x_11.X < 0) || decide (numbers_1.len ≤ x_11.X))) 4 [(0, v_2), (1, v_5), (5, .int .i64 x_7), (6, .pointer (some ⟨c_15, 0, none⟩)), (33, .bool ((decide (x_11.X < 0) || decide (numbers_1.len ≤ x_11.X)) || decide (x_11.Y < 0)))] (fun hc_18 hk => ?_) (fun hc_18 hk => ?_) (fun b => ?_)
        · refine JL_skip rfl rfl hc_18 rfl rfl ?_
          refine JL_skip rfl rfl hc_18 rfl rfl ?_
          refine JL_skip rfl rfl hc_18 rfl rfl ?_
          refine JL_op rfl (op_read rfl rfl (r_pick_t (v := .bool true) rfl hc_18 rfl) ?_)
          refine J_prune [(0, v_2), (1, v_5), (5, .int .i64 x_7), (6, .pointer (some ⟨c_15, 0, none⟩)), (33, .bool ((decide (x_11.X < 0) || decide (numbers_1.len ≤ x_11.X)) || decide (x_11.Y < 0)))] ⟨rfl, rfl, rfl, rfl, (by show Value.bool _ = Value.bool _; rw [hc_18]; rfl), trivial⟩ hk
        · refine JL_opg rfl rfl hc_18 (op_read rfl rfl (r_fieldAddr (r := ⟨c_15, 1, none⟩) Try.pu40 (f := Try.pf40.getD 1 default) rfl Try.pi3 (by decide) rfl rfl) ?_)
          refine JL_opg rfl rfl hc_18 (op_read rfl rfl (r_load_priv (cs' := [.int .i64 x_11.Y]) (v := .int .i64 x_11.Y) 0 Try.pu3 Try.pi3 rfl rfl rfl rfl (by decide) rfl) ?_)
          refine JL_opg rfl rfl hc_18 (op_read rfl rfl (r_lss rfl rfl) ?_)
          refine JL_op rfl (op_read rfl rfl (r_pick_f (v := .bool (decide (x_11.Y < 0))) rfl hc_18 rfl) ?_)
          refine J_prune [(0, v_2), (1, v_5), (5, .int .i64 x_7), (6, .pointer (some ⟨c_15, 0, none⟩)), (33, .bool ((decide (x_11.X < 0) || decide (numbers_1.len ≤ x_11.X)) || decide (x_11.Y < 0)))] ⟨rfl, rfl, rfl, rfl, (by show Value.bool _ = Value.bool _; rw [hc_18]; rfl), trivial⟩ hk
        · refine JL_op rfl (op_read rfl rfl (r_move (v := .bool ((decide (x_11.X < 0) || decide (numbers_1.len ≤ x_11.X)) || decide (x_11.Y < 0))) rfl) ?_)
          refine J_forkL (e := ((decide (x_11.X < 0) || decide (numbers_1.len ≤ x_11.X)) || decide (x_11.Y < 0))) 6 [(0, v_2), (1, v_5), (5, .int .i64 x_7), (6, .pointer (some ⟨c_15, 0, none⟩)), (40, .bool (((decide (x_11.X < 0) || decide (numbers_1.len ≤ x_11.X)) || decide (x_11.Y < 0)) || decide (numbers_1.len ≤ x_11.Y)))] (fun hc_19 hk => ?_) (fun hc_19 hk => ?_) (fun b => ?_)
          · refine JL_skip rfl rfl hc_19 rfl rfl ?_
            refine JL_skip rfl rfl hc_19 rfl rfl ?_
            refine JL_skip rfl rfl hc_19 rfl rfl ?_
            refine JL_skip rfl rfl hc_19 rfl rfl ?_
            refine JL_skip rfl rfl hc_19 rfl rfl ?_
            refine JL_op rfl (op_read rfl rfl (r_pick_t (v := .bool true) rfl hc_19 rfl) ?_)
            refine J_prune [(0, v_2), (1, v_5), (5, .int .i64 x_7), (6, .pointer (some ⟨c_15, 0, none⟩)), (40, .bool (((decide (x_11.X < 0) || decide (numbers_1.len ≤ x_11.X)) || decide (x_11.Y < 0)) || decide (numbers_1.len ≤ x_11.Y)))] ⟨rfl, rfl, rfl, rfl, (by show Value.bool _ = Value.bool _; rw [hc_19]; rfl), trivial⟩ hk
          · refine JL_opg rfl rfl hc_19 (op_read rfl rfl (r_fieldAddr (r := ⟨c_15, 1, none⟩) Try.pu40 (f := Try.pf40.getD 1 default) rfl Try.pi3 (by decide) rfl rfl) ?_)
            refine JL_opg rfl rfl hc_19 (op_read rfl rfl (r_load_priv (cs' := [.int .i64 x_11.Y]) (v := .int .i64 x_11.Y) 0 Try.pu3 Try.pi3 rfl rfl rfl rfl (by decide) rfl) ?_)
            refine JL_opg rfl rfl hc_19 (op_read rfl rfl (r_move (v := v_2) rfl) ?_)
            refine JL_opg rfl rfl hc_19 (op_read rfl rfl (r_len_frozen (v := v_2) Try.pu30 rfl (Ty.vmono _ hle_9 h_3)) ?_)
            refine JL_opg rfl rfl hc_19 (op_read rfl rfl (r_geq rfl rfl) ?_)
            refine JL_op rfl (op_read rfl rfl (r_pick_f (v := .bool (decide (numbers_1.len ≤ x_11.Y))) rfl hc_19 rfl) ?_)
            refine J_prune [(0, v_2), (1, v_5), (5, .int .i64 x_7), (6, .pointer (some ⟨c_15, 0, none⟩)), (40, .bool (((decide (x_11.X < 0) || decide (numbers_1.len ≤ x_11.X)) || decide (x_11.Y < 0)) || decide (numbers_1.len ≤ x_11.Y)))] ⟨rfl, rfl, rfl, rfl, (by show Value.bool _ = Value.bool _; rw [hc_19]; rfl), trivial⟩ hk
          · refine JL_op rfl (op_read rfl rfl (r_move (v := .bool (((decide (x_11.X < 0) || decide (numbers_1.len ≤ x_11.X)) || decide (x_11.Y < 0)) || decide (numbers_1.len ≤ x_11.Y))) rfl) ?_)
            refine J_forkL (e := (((decide (x_11.X < 0) || decide (numbers_1.len ≤ x_11.X)) || decide (x_11.Y < 0)) || decide (numbers_1.len ≤ x_11.Y))) 4 [(0, v_2), (1, v_5), (5, .int .i64 x_7), (6, .pointer (some ⟨c_15, 0, none⟩)), (45, .bool ((((decide (x_11.X < 0) || decide (numbers_1.len ≤ x_11.X)) || decide (x_11.Y < 0)) || decide (numbers_1.len ≤ x_11.Y)) || decide (17592186044416 < x_11.C)))] (fun hc_20 hk => ?_) (fun hc_20 hk => ?_) (fun b => ?_)
            · refine JL_skip rfl rfl hc_20 rfl rfl ?_
              refine JL_skip rfl rfl hc_20 rfl rfl ?_
              refine JL_skip rfl rfl hc_20 rfl rfl ?_
              refine JL_op rfl (op_read rfl rfl (r_pick_t (v := .bool true) rfl hc_20 rfl) ?_)
              refine J_prune [(0, v_2), (1, v_5), (5, .int .i64 x_7), (6, .pointer (some ⟨c_15, 0, none⟩)), (45, .bool ((((decide (x_11.X < 0) || decide (numbers_1.len ≤ x_11.X)) || decide (x_11.Y < 0)) || decide (numbers_1.len ≤ x_11.Y)) || decide (17592186044416 < x_11.C)))] ⟨rfl, rfl, rfl, rfl, (by show Value.bool _ = Value.bool _; rw [hc_20]; rfl), trivial⟩ hk
            · refine JL_opg rfl rfl hc_20 (op_read rfl rfl (r_fieldAddr (r := ⟨c_15, 2, none⟩) Try.pu40 (f := Try.pf40.getD 2 default) rfl Try.pi2 (by decide) rfl rfl) ?_)
              refine JL_opg rfl rfl hc_20 (op_read rfl rfl (r_load_priv (cs' := [.int .i64 x_11.C]) (v := .int .i64 x_11.C) 0 Try.pu2 Try.pi2 rfl rfl rfl rfl (by decide) rfl) ?_)
              refine JL_opg rfl rfl hc_20 (op_read rfl rfl (r_gtr rfl rfl) ?_)
              refine JL_op rfl (op_read rfl rfl (r_pick_f (v := .bool (decide (17592186044416 < x_11.C))) rfl hc_20 rfl) ?_)
              refine J_prune [(0, v_2), (1, v_5), (5, .int .i64 x_7), (6, .pointer (some ⟨c_15, 0, none⟩)), (45, .bool ((((decide (x_11.X < 0) || decide (numbers_1.len ≤ x_11.X)) || decide (x_11.Y < 0)) || decide (numbers_1.len ≤ x_11.Y)) || decide (17592186044416 < x_11.C)))] ⟨rfl, rfl, rfl, rfl, (by show Value.bool _ = Value.bool _; rw [hc_20]; rfl), trivial⟩ hk
            · refine JL_op rfl (op_read rfl rfl (r_move (v := .bool ((((decide (x_11.X < 0) || decide (numbers_1.len ≤ x_11.X)) || decide (x_11.Y < 0)) || decide (numbers_1.len ≤ x_11.Y)) || decide (17592186044416 < x_11.C))) rfl) ?_)
              refine J_forkL (e := ((((decide (x_11.X < 0) || decide (numbers_1.len ≤ x_11.X)) || decide (x_11.Y < 0)) || decide (numbers_1.len ≤ x_11.Y)) || decide (17592186044416 < x_11.C))) 4 [(0, v_2), (1, v_5), (5, .int .i64 x_7), (6, .pointer (some ⟨c_15, 0, none⟩)), (50, .bool (((((decide (x_11.X < 0) || decide (numbers_1.len ≤ x_11.X)) || decide (x_11.Y < 0)) || decide (numbers_1.len ≤ x_11.Y)) || decide (17592186044416 < x_11.C)) || decide (x_11.C < (-17592186044416))))] (fun hc_21 hk => ?_) (fun hc_21 hk => ?_) (fun b => ?_)
              · refine JL_skip rfl rfl hc_21 rfl rfl ?_
                refine JL_skip rfl rfl hc_21 rfl rfl ?_
                refine JL_skip rfl rfl hc_21 rfl rfl ?_
                refine JL_op rfl (op_read rfl rfl (r_pick_t (v := .bool true) rfl hc_21 rfl) ?_)
                refine J_prune [(0, v_2), (1, v_5), (5, .int .i64 x_7), (6, .pointer (some ⟨c_15, 0, none⟩)), (50, .bool (((((decide (x_11.X < 0) || decide (numbers_1.len ≤ x_11.X)) || decide (x_11.Y < 0)) || decide (numbers_1.len ≤ x_11.Y)) || decide (17592186044416 < x_11.C)) || decide (x_11.C < (-17592186044416))))] ⟨rfl, rfl, rfl, rfl, (by show Value.bool _ = Value.bool _; rw [hc_21]; rfl), trivial⟩ hk
              · refine JL_opg rfl rfl hc_21 (op_read rfl rfl (r_fieldAddr (r := ⟨c_15, 2, none⟩) Try.pu40 (f := Try.pf40.getD 2 default) rfl Try.pi2 (by decide) rfl rfl) ?_)
                refine JL_opg rfl rfl hc_21 (op_read rfl rfl (r_load_priv (cs' := [.int .i64 x_11.C]) (v := .int .i64 x_11.C) 0 Try.pu2 Try.pi2 rfl rfl rfl rfl (by decide) rfl) ?_)
                refine JL_opg rfl rfl hc_21 (op_read rfl rfl (r_lss rfl rfl) ?_)
                refine JL_op rfl (op_read rfl rfl (r_pick_f (v := .bool (decide (x_11.C < (-17592186044416)))) rfl hc_21 rfl) ?_)
                refine J_prune [(0, v_2), (1, v_5), (5, .int .i64 x_7), (6, .pointer (some ⟨c_15, 0, none⟩)), (50, .bool (((((decide (x_11.X < 0) || decide (numbers_1.len ≤ x_11.X)) || decide (x_11.Y < 0)) || decide (numbers_1.len ≤ x_11.Y)) || decide (17592186044416 < x_11.C)) || decide (x_11.C < (-17592186044416))))] ⟨rfl, rfl, rfl, rfl, (by show Value.bool _ = Value.bool _; rw [hc_21]; rfl), trivial⟩ hk
              · refine JL_nil ?_
                refine J_then ?_
                refine J_cond rfl (fun hc_22 => ?_) (fun hc_22 => ?_)
                · refine J_seq ?_
                  refine J_region ?_
                  refine JL_op rfl (op_read rfl rfl (r_assign (v := .bool false) rfl) ?_)
                  refine JL_nil ?_
                  refine J_then ?_
                  refine J_ret ?_
                  refine J_then_ret ?_
                  refine J_in_ret ?_
                  refine J_then_ret ?_
                  refine J_select (PV' := []) [] (by decide) rfl ?_
                  refine J_done trivial _ ?_ ⟨rfl, hle_9, rfl, rfl⟩
                  exact ⟨rfl, trivial⟩
                · refine J_skip ?_
                  refine J_then ?_
                  refine J_seq ?_
                  refine J_region ?_
                  refine JL_op rfl (op_read rfl rfl (r_move (v := v_2) rfl) ?_)
                  refine JL_op rfl (op_read rfl rfl (r_fieldAddr (r := ⟨c_15, 0, none⟩) Try.pu40 (f := Try.pf40.getD 0 default) rfl Try.pi3 (by decide) rfl rfl) ?_)
                  refine JL_op rfl (op_read rfl rfl (r_load_priv (cs' := [.int .i64 x_11.X]) (v := .int .i64 x_11.X) 0 Try.pu3 Try.pi3 rfl rfl rfl rfl (by decide) rfl) ?_)
                  refine J_bind fun x_23 hx_24 => ?_
                  refine JL_op rfl (op_read rfl rfl (r_index_frozen (v := v_2) (T := (tInt .i64)) (q := x_23) Try.pu30 Try.pi2 rfl rfl rfl (Ty.vmono _ hle_9 h_3) hx_24) ?_)
                  refine JL_op rfl (op_reads rfl rfl (l_elem_frozen (v := v_2) (T := (tInt .i64)) (Tf := (tInt .i64)) (q := x_23) (i := x_11.X) (off := 0) Try.pu2 Try.pi2 rfl rfl rfl (Ty.vmono _ hle_9 h_3) hx_24 (FieldAt.self _) (by decide)) ?_)
                  intro v_25 h_26
                  obtain rfl := tInt_v.1 h_26
                  refine JL_op rfl (op_read rfl rfl (r_assign (v := .int .i64 x_23) rfl) ?_)
                  refine JL_nil ?_
                  refine J_then ?_
                  refine J_seq ?_
                  refine J_region ?_
                  refine JL_op rfl (op_read rfl rfl (r_move (v := v_2) rfl) ?_)
                  refine JL_op rfl (op_read rfl rfl (r_fieldAddr (r := ⟨c_15, 1, none⟩) Try.pu40 (f := Try.pf40.getD 1 default) rfl Try.pi3 (by decide) rfl rfl) ?_)
                  refine JL_op rfl (op_read rfl rfl (r_load_priv (cs' := [.int .i64 x_11.Y]) (v := .int .i64 x_11.Y) 0 Try.pu3 Try.pi3 rfl rfl rfl rfl (by decide) rfl) ?_)
                  refine J_bind fun x_27 hx_28 => ?_
                  refine JL_op rfl (op_read rfl rfl (r_index_frozen (v := v_2) (T := (tInt .i64)) (q := x_27) Try.pu30 Try.pi2 rfl rfl rfl (Ty.vmono _ hle_9 h_3) hx_28) ?_)
                  refine JL_op rfl (op_reads rfl rfl (l_elem_frozen (v := v_2) (T := (tInt .i64)) (Tf := (tInt .i64)) (q := x_27) (i := x_11.Y) (off := 0) Try.pu2 Try.pi2 rfl rfl rfl (Ty.vmono _ hle_9 h_3) hx_28 (FieldAt.self _) (by decide)) ?_)
                  intro v_29 h_30
                  obtain rfl := tInt_v.1 h_30
                  refine JL_op rfl (op_read rfl rfl (r_assign (v := .int .i64 x_27) rfl) ?_)
                  refine JL_nil ?_
                  refine J_then ?_
                  refine J_seq ?_
                  refine J_region ?_
                  refine JL_op rfl (op_read rfl rfl (r_move (v := .int .i64 x_23) rfl) ?_)
                  refine JL_op rfl (op_read rfl rfl (r_gtr rfl rfl) ?_)
                  refine JL_op rfl (op_read rfl rfl (r_move (v := .bool (decide (4503599627370496 < x_23))) rfl) ?_)
                  refine J_forkL (e := (decide (4503599627370496 < x_23))) 3 [(0, v_2), (1, v_5), (5, .int .i64 x_7), (6, .pointer (some ⟨c_15, 0, none⟩)), (7, .int .i64 x_23), (8, .int .i64 x_27), (66, .bool (decide (4503599627370496 < x_23) || decide (x_23 < (-4503599627370496))))] (fun hc_31 hk => ?_) (fun hc_31 hk => ?_) (fun b => ?_)
                  · refine JL_skip rfl rfl hc_31 rfl rfl ?_
                    refine JL_skip rfl rfl hc_31 rfl rfl ?_
                    refine JL_op rfl (op_read rfl rfl (r_pick_t (v := .bool true) rfl hc_31 rfl) ?_)
                    refine J_prune [(0, v_2), (1, v_5), (5, .int .i64 x_7), (6, .pointer (some ⟨c_15, 0, none⟩)), (7, .int .i64 x_23), (8, .int .i64 x_27), (66, .bool (decide (4503599627370496 < x_23) || decide (x_23 < (-4503599627370496))))] ⟨rfl, rfl, rfl, rfl, rfl, rfl, (by show Value.bool _ = Value.bool _; rw [hc_31]; rfl), trivial⟩ hk
                  · refine JL_opg rfl rfl hc_31 (op_read rfl rfl (r_move (v := .int .i64 x_23) rfl) ?_)
                    refine JL_opg rfl rfl hc_31 (op_read rfl rfl (r_lss rfl rfl) ?_)
                    refine JL_op rfl (op_read rfl rfl (r_pick_f (v := .bool (decide (x_23 < (-4503599627370496)))) rfl hc_31 rfl) ?_)
                    refine J_prune [(0, v_2), (1, v_5), (5, .int .i64 x_7), (6, .pointer (some ⟨c_15, 0, none⟩)), (7, .int .i64 x_23), (8, .int .i64 x_27), (66, .bool (decide (4503599627370496 < x_23) || decide (x_23 < (-4503599627370496))))] ⟨rfl, rfl, rfl, rfl, rfl, rfl, (by show Value.bool _ = Value.bool _; rw [hc_31]; rfl), trivial⟩ hk
                  · refine JL_op rfl (op_read rfl rfl (r_move (v := .bool (decide (4503599627370496 < x_23) || decide (x_23 < (-4503599627370496)))) rfl) ?_)
                    refine J_forkL (e := (decide (4503599627370496 < x_23) || decide (x_23 < (-4503599627370496)))) 3 [(0, v_2), (1, v_5), (5, .int .i64 x_7), (6, .pointer (some ⟨c_15, 0, none⟩)), (7, .int .i64 x_23), (8, .int .i64 x_27), (70, .bool ((decide (4503599627370496 < x_23) || decide (x_23 < (-4503599627370496))) || decide (4503599627370496 < x_27)))] (fun hc_32 hk => ?_) (fun hc_32 hk => ?_) (fun b => ?_)
                    · refine JL_skip rfl rfl hc_32 rfl rfl ?_
                      refine JL_skip rfl rfl hc_32 rfl rfl ?_
                      refine JL_op rfl (op_read rfl rfl (r_pick_t (v := .bool true) rfl hc_32 rfl) ?_)
                      refine J_prune [(0, v_2), (1, v_5), (5, .int .i64 x_7), (6, .pointer (some ⟨c_15, 0, none⟩)), (7, .int .i64 x_23), (8, .int .i64 x_27), (70, .bool ((decide (4503599627370496 < x_23) || decide (x_23 < (-4503599627370496))) || decide (4503599627370496 < x_27)))] ⟨rfl, rfl, rfl, rfl, rfl, rfl, (by show Value.bool _ = Value.bool _; rw [hc_32]; rfl), trivial⟩ hk
                    · refine JL_opg rfl rfl hc_32 (op_read rfl rfl (r_move (v := .int .i64 x_27) rfl) ?_)
                      refine JL_opg rfl rfl hc_32 (op_read rfl rfl (r_gtr rfl rfl) ?_)
                      refine JL_op rfl (op_read rfl rfl (r_pick_f (v := .bool (decide (4503599627370496 < x_27))) rfl hc_32 rfl) ?_)
                      refine J_prune [(0, v_2), (1, v_5), (5, .int .i64 x_7), (6, .pointer (some ⟨c_15, 0, none⟩)), (7, .int .i64 x_23), (8, .int .i64 x_27), (70, .bool ((decide (4503599627370496 < x_23) || decide (x_23 < (-4503599627370496))) || decide (4503599627370496 < x_27)))] ⟨rfl, rfl, rfl, rfl, rfl, rfl, (by show Value.bool _ = Value.bool _; rw [hc_32]; rfl), trivial⟩ hk
                    · refine JL_op rfl (op_read rfl rfl (r_move (v := .bool ((decide (4503599627370496 < x_23) || decide (x_23 < (-4503599627370496))) || decide (4503599627370496 < x_27))) rfl) ?_)
                      refine J_forkL (e := ((decide (4503599627370496 < x_23) || decide (x_23 < (-4503599627370496))) || decide (4503599627370496 < x_27))) 3 [(0, v_2), (1, v_5), (5, .int .i64 x_7), (6, .pointer (some ⟨c_15, 0, none⟩)), (7, .int .i64 x_23), (8, .int .i64 x_27), (74, .bool (((decide (4503599627370496 < x_23) || decide (x_23 < (-4503599627370496))) || decide (4503599627370496 < x_27)) || decide (x_27 < (-4503599627370496))))] (fun hc_33 hk => ?_) (fun hc_33 hk => ?_) (fun b => ?_)
                      · refine JL_skip rfl rfl hc_33 rfl rfl ?_
                        refine JL_skip rfl rfl hc_33 rfl rfl ?_
                        refine JL_op rfl (op_read rfl rfl (r_pick_t (v := .bool true) rfl hc_33 rfl) ?_)
                        refine J_prune [(0, v_2), (1, v_5), (5, .int .i64 x_7), (6, .pointer (some ⟨c_15, 0, none⟩)), (7, .int .i64 x_23), (8, .int .i64 x_27), (74, .bool (((decide (4503599627370496 < x_23) || decide (x_23 < (-4503599627370496))) || decide (4503599627370496 < x_27)) || decide (x_27 < (-4503599627370496))))] ⟨rfl, rfl, rfl, rfl, rfl, rfl, (by show Value.bool _ = Value.bool _; rw [hc_33]; rfl), trivial⟩ hk
                      · refine JL_opg rfl rfl hc_33 (op_read rfl rfl (r_move (v := .int .i64 x_27) rfl) ?_)
                        refine JL_opg rfl rfl hc_33 (op_read rfl rfl (r_lss rfl rfl) ?_)
                        refine JL_op rfl (op_read rfl rfl (r_pick_f (v := .bool (decide (x_27 < (-4503599627370496)))) rfl hc_33 rfl) ?_)
                        refine J_prune [(0, v_2), (1, v_5), (5, .int .i64 x_7), (6, .pointer (some ⟨c_15, 0, none⟩)), (7, .int .i64 x_23), (8, .int .i64 x_27), (74, .bool (((decide (4503599627370496 < x_23) || decide (x_23 < (-4503599627370496))) || decide (4503599627370496 < x_27)) || decide (x_27 < (-4503599627370496))))] ⟨rfl, rfl, rfl, rfl, rfl, rfl, (by show Value.bool _ = Value.bool _; rw [hc_33]; rfl), trivial⟩ hk
                      · refine JL_op rfl (op_read rfl rfl (r_move (v := .bool (((decide (4503599627370496 < x_23) || decide (x_23 < (-4503599627370496))) || decide (4503599627370496 < x_27)) || decide (x_27 < (-4503599627370496)))) rfl) ?_)
                        refine J_forkL (e := (((decide (4503599627370496 < x_23) || decide (x_23 < (-4503599627370496))) || decide (4503599627370496 < x_27)) || decide (x_27 < (-4503599627370496)))) 7 [(0, v_2), (1, v_5), (5, .int .i64 x_7), (82, .bool ((((decide (4503599627370496 < x_23) || decide (x_23 < (-4503599627370496))) || decide (4503599627370496 < x_27)) || decide (x_27 < (-4503599627370496))) || decide (x_11.C < (IntKind.i64.wrap (x_23 - x_27)))))] (fun hc_34 hk => ?_) (fun hc_34 hk => ?_) (fun b => ?_)
                        · refine JL_skip rfl rfl hc_34 rfl rfl ?_
                          refine JL_skip rfl rfl hc_34 rfl rfl ?_
                          refine JL_skip rfl rfl hc_34 rfl rfl ?_
                          refine JL_skip rfl rfl hc_34 rfl rfl ?_
                          refine JL_skip rfl rfl hc_34 rfl rfl ?_
                          refine JL_skip rfl rfl hc_34 rfl rfl ?_
                          refine JL_op rfl (op_read rfl rfl (r_pick_t (v := .bool true) rfl hc_34 rfl) ?_)
                          refine J_prune [(0, v_2), (1, v_5), (5, .int .i64 x_7), (82, .bool ((((decide (4503599627370496 < x_23) || decide (x_23 < (-4503599627370496))) || decide (4503599627370496 < x_27)) || decide (x_27 < (-4503599627370496))) || decide (x_11.C < (IntKind.i64.wrap (x_23 - x_27)))))] ⟨rfl, rfl, rfl, (by show Value.bool _ = Value.bool _; rw [hc_34]; rfl), trivial⟩ hk
                        · refine JL_opg rfl rfl hc_34 (op_read rfl rfl (r_move (v := .int .i64 x_23) rfl) ?_)
                          refine JL_opg rfl rfl hc_34 (op_read rfl rfl (r_move (v := .int .i64 x_27) rfl) ?_)
                          refine JL_opg rfl rfl hc_34 (op_read rfl rfl (r_sub rfl rfl) ?_)
                          refine JL_opg rfl rfl hc_34 (op_read rfl rfl (r_fieldAddr (r := ⟨c_15, 2, none⟩) Try.pu40 (f := Try.pf40.getD 2 default) rfl Try.pi2 (by decide) rfl rfl) ?_)
                          refine JL_opg rfl rfl hc_34 (op_read rfl rfl (r_load_priv (cs' := [.int .i64 x_11.C]) (v := .int .i64 x_11.C) 0 Try.pu2 Try.pi2 rfl rfl rfl rfl (by decide) rfl) ?_)
                          refine JL_opg rfl rfl hc_34 (op_read rfl rfl (r_gtr rfl rfl) ?_)
                          refine JL_op rfl (op_read rfl rfl (r_pick_f (v := .bool (decide (x_11.C < (IntKind.i64.wrap (x_23 - x_27))))) rfl hc_34 rfl) ?_)
                          refine J_prune [(0, v_2), (1, v_5), (5, .int .i64 x_7), (82, .bool ((((decide (4503599627370496 < x_23) || decide (x_23 < (-4503599627370496))) || decide (4503599627370496 < x_27)) || decide (x_27 < (-4503599627370496))) || decide (x_11.C < (IntKind.i64.wrap (x_23 - x_27)))))] ⟨rfl, rfl, rfl, (by show Value.bool _ = Value.bool _; rw [hc_34]; rfl), trivial⟩ hk
                        · refine JL_nil ?_
                          refine J_then ?_
                          refine J_cond rfl (fun hc_35 => ?_) (fun hc_35 => ?_)
                          · refine J_seq ?_
                            refine J_region ?_
                            refine JL_op rfl (op_read rfl rfl (r_assign (v := .bool false) rfl) ?_)
                            refine JL_nil ?_
                            refine J_then ?_
                            refine J_ret ?_
                            refine J_in_ret ?_
                            refine J_then_ret ?_
                            refine J_select (PV' := []) [] (by decide) rfl ?_
                            refine J_done trivial _ ?_ ⟨rfl, hle_9, rfl, rfl⟩
                            exact ⟨rfl, trivial⟩
                          · refine J_skip ?_
                            refine J_in_normal ?_
                            refine J_then ?_
                            refine J_region ?_
                            refine JL_op rfl (op_read rfl rfl (r_move (v := .int .i64 x_7) rfl) ?_)
                            refine JL_op rfl (op_read rfl rfl (r_add rfl rfl) ?_)
                            refine JL_op rfl (op_read rfl rfl (r_assign (v := .int .i64 (IntKind.i64.wrap (x_7 + 1))) rfl) ?_)
                            refine JL_nil ?_
                            refine J_select (PV' := []) [] (by decide) rfl ?_
                            refine J_next _ ?_ ⟨hle_9, rfl, rfl⟩
                            exact ⟨rfl, rfl, rfl, trivial⟩
    · refine J_exit ?_
      refine J_then_exit ?_
      refine J_done trivial _ ?_ ⟨rfl, hle_9, rfl, rfl⟩
      exact trivial
  · rintro (y_37 | y_40) e L b τ PV ht
    · obtain ⟨rfl, ht⟩ := ht
      revert ht; revert PV; revert τ; revert b; revert L
      rintro _ b s_38 _ ⟨hle_39, rfl, rfl⟩
      refine J_in_exit ?_
      refine J_then ?_
      refine J_seq ?_
      refine J_region ?_
      refine JL_op rfl (op_read rfl rfl (r_assign (v := .bool true) rfl) ?_)
      refine JL_nil ?_
      refine J_then ?_
      refine J_ret ?_
      exact J_return1 rfl ⟨rfl, rfl⟩
    · obtain ⟨rfl, ht⟩ := ht
      revert ht; revert PV; revert τ; revert b; revert L
      rintro _ b s_41 _ ⟨hle_42, rfl, rfl⟩
      refine J_in_ret ?_
      refine J_then_ret ?_
      exact J_return1 rfl ⟨rfl, rfl⟩
def lychgatelaw05_CertHolds_post (r : Bool) (σ : FS) (PV : List Priv) (v : Value) : Prop :=
  v = .bool r ∧ PV = []
set_option maxRecDepth 100000 in
theorem lychgatelaw05_CertHolds_ref (w : World) (σ : FS) (hs : σ.sub w) (v_2 : Value) (numbers_1 : Sl Int) (h_3 : (tSl (tInt .i64)).vrel σ v_2 numbers_1) (v_5 : Value) (facts_4 : Sl Gdiff_Leq) (h_6 : (tSl t_Gdiff_Leq).vrel σ v_5 facts_4) (r : Bool) (hr : lychgatelaw05_CertHolds numbers_1 facts_4 = some r) : Does Try.prog 4 [v_2, v_5] w σ (lychgatelaw05_CertHolds_post r) := by
  unfold lychgatelaw05_CertHolds at hr
  refine does_of_J Try.func4 rfl (n := 16) rfl rfl hs hr ?_
  refine J_seq ?_
  refine J_region ?_
  refine JL_op rfl (op_read rfl rfl (r_assign (v := .bool false) rfl) ?_)
  refine JL_nil ?_
  refine J_then ?_
  refine J_seq ?_
  refine J_region ?_
  refine JL_op rfl (op_call (f := 9) (fn := Try.f9) (args := []) (post := lychgatelaw05_wakes_post) rfl rfl rfl Try.func9 Try.pn9 rfl rfl (fun y w hy hs => lychgatelaw05_wakes_ref w _ hs  y hy) ?_)
  intro r_7 v_9 s_10 PV_12 hy_8 hle_11 hp_13
  obtain ⟨rfl, rfl⟩ := hp_13
  refine JL_op rfl (op_read rfl rfl (r_move (v := .bool r_7) rfl) ?_)
  refine J_forkLB (e := r_7) 9 (fun (b_15 : Bool) L τ PV => s_10.le τ ∧ L = [(15, .bool b_15)] ∧ PV = []) (fun hc_14 hk => ?_) (fun hc_14 hk => ?_) ?_
  · refine JL_opg rfl rfl hc_14 (op_read rfl rfl (r_move (v := v_2) rfl) ?_)
    refine JL_opg rfl rfl hc_14 (op_read rfl rfl (r_move (v := v_5) rfl) ?_)
    refine J_assoc ?_
    refine JL_opg rfl rfl hc_14 (op_call (f := 13) (fn := Try.f13) (args := [v_2, v_5]) (post := cert_Holds_post) rfl rfl rfl Try.func13 Try.pn13 rfl rfl (fun y w hy hs => cert_Holds_ref w _ hs v_2 numbers_1 (Ty.vmono _ hle_11 h_3) v_5 facts_4 (Ty.vmono _ hle_11 h_6) y hy) ?_)
    intro r_16 v_18 s_19 PV_21 hy_17 hle_20 hp_22
    obtain ⟨rfl, rfl⟩ := hp_22
    refine JL_opg rfl rfl hc_14 (op_read rfl rfl (r_move (v := v_2) rfl) ?_)
    refine JL_opg rfl rfl hc_14 (op_read rfl rfl (r_move (v := v_5) rfl) ?_)
    refine J_assoc ?_
    refine JL_opg rfl rfl hc_14 (op_call (f := 12) (fn := Try.f12) (args := [v_5]) (post := lychgatelaw05_refs_post) rfl rfl rfl Try.func12 Try.pn12 rfl rfl (fun y w hy hs => lychgatelaw05_refs_ref w _ hs v_5 facts_4 (Ty.vmono _ (FS.le.trans hle_11 hle_20) h_6) y hy) ?_)
    intro r_23 v_25 s_26 PV_28 hy_24 hle_27 hp_29
    obtain ⟨_, rfl, rfl⟩ := hp_29
    refine J_assoc ?_
    refine JL_opg rfl rfl hc_14 (op_call_lend (f := 14) (fn := Try.f14) (args := [v_2, v_25]) (post := lychgateref05_Holds_post) rfl rfl rfl Try.func14 Try.pn14 rfl rfl (fun y w τ hy hle hs hrow => lychgateref05_Holds_ref w τ hs v_2 numbers_1 (Ty.vmono _ hle (Ty.vmono _ (FS.le.trans (FS.le.trans hle_11 hle_20) hle_27) h_3)) v_25 r_23 (hrow 0 _ _ _ _ _ rfl) y hy) (fun y σ' PV' v hp => by obtain ⟨rfl, rfl⟩ := hp; exact trivial) ?_)
    intro r_31 v_33 s_34 PV_36 hy_32 hp_37
    obtain ⟨rfl, rfl⟩ := hp_37
    refine JL_opg rfl rfl hc_14 (op_read rfl rfl (r_beql Try.pu4 rfl rfl) ?_)
    refine JL_op rfl (op_read rfl rfl (r_pick_t (v := .bool (r_16 == r_31)) rfl hc_14 rfl) ?_)
    refine J_select (PV' := []) [] (by decide) rfl ?_
    refine J_prune _ ?_ fun b => hk (r_16 == r_31) _ b _ _ ⟨(FS.le.trans hle_20 hle_27), rfl, rfl⟩
    exact ⟨rfl, trivial⟩
  · refine JL_skip rfl rfl hc_14 rfl rfl ?_
    refine JL_skip rfl rfl hc_14 rfl rfl ?_
    refine JL_skip rfl rfl hc_14 rfl rfl ?_
    refine JL_skip rfl rfl hc_14 rfl rfl ?_
    refine JL_skip rfl rfl hc_14 rfl rfl ?_
    refine JL_skip rfl rfl hc_14 rfl rfl ?_
    refine JL_skip rfl rfl hc_14 rfl rfl ?_
    refine JL_skip rfl rfl hc_14 rfl rfl ?_
    refine JL_op rfl (op_read rfl rfl (r_pick_f (v := .bool false) rfl hc_14 rfl) ?_)
    refine J_prune _ ?_ fun b => hk false _ b _ _ ⟨(FS.le.refl _), rfl, rfl⟩
    exact ⟨rfl, trivial⟩
  · rintro b_15 _ b s_38 _ ⟨hle_39, rfl, rfl⟩
    refine JL_op rfl (op_read rfl rfl (r_assign (v := .bool b_15) rfl) ?_)
    refine JL_nil ?_
    refine J_then ?_
    refine J_ret ?_
    exact J_return1 rfl ⟨rfl, rfl⟩
def lychgatelaw05_CertOne_post (r : Bool) (σ : FS) (PV : List Priv) (v : Value) : Prop :=
  v = .bool r ∧ PV = []
set_option maxRecDepth 100000 in
theorem lychgatelaw05_CertOne_ref (w : World) (σ : FS) (hs : σ.sub w) (v_2 : Value) (b_1 : Glychgatelaw05_Both) (h_3 : t_Glychgatelaw05_Both.vrel σ v_2 b_1) (v_9 : Value) (goal_8 : Gdiff_Leq) (h_10 : t_Gdiff_Leq.vrel σ v_9 goal_8) (v_12 : Value) (facts_11 : Sl Gdiff_Leq) (h_13 : (tSl t_Gdiff_Leq).vrel σ v_12 facts_11) (r : Bool) (hr : lychgatelaw05_CertOne b_1 goal_8 facts_11 = some r) : Does Try.prog 7 [v_2, v_9, v_12] w σ (lychgatelaw05_CertOne_post r) := by
  unfold lychgatelaw05_CertOne at hr
  obtain ⟨v_4, v_6, rfl, h_5, h_7⟩ := t_Glychgatelaw05_Both_v.1 h_3
  obtain rfl := t_Gdiff_Leq_v.1 h_10
  refine does_of_J Try.func7 rfl (n := 35) rfl rfl hs hr ?_
  refine J_seq ?_
  refine J_region ?_
  refine JL_op rfl (op_box (cs := [v_4, v_6]) rfl rfl ?_)
  intro c_14
  refine JL_op rfl (op_box (cs := [.int .i64 goal_8.X, .int .i64 goal_8.Y, .int .i64 goal_8.C]) rfl rfl ?_)
  intro c_16
  refine JL_op rfl (op_read rfl rfl (r_assign (v := .bool false) rfl) ?_)
  refine JL_nil ?_
  refine J_then ?_
  refine J_seq ?_
  refine J_region ?_
  refine JL_op rfl (op_read rfl rfl (r_fieldAddr (r := ⟨c_14, 1, none⟩) Try.pu44 (f := Try.pf44.getD 1 default) rfl Try.pi30 (by decide) rfl rfl) ?_)
  refine JL_op rfl (op_read rfl rfl (r_load_priv (cs' := [v_6]) (v := v_6) 1 Try.pu30 Try.pi30 rfl rfl rfl rfl (by decide) rfl) ?_)
  refine JL_op rfl (op_read rfl rfl (r_len_frozen (v := v_6) Try.pu30 rfl h_7) ?_)
  refine JL_op rfl (op_read rfl rfl (r_assign (v := .int .i64 b_1.Numbers.len) rfl) ?_)
  refine JL_nil ?_
  refine J_then ?_
  refine J_seq ?_
  refine J_region ?_
  refine JL_op rfl (op_read rfl rfl (r_fieldAddr (r := ⟨c_14, 0, none⟩) Try.pu44 (f := Try.pf44.getD 0 default) rfl Try.pi22 (by decide) rfl rfl) ?_)
  refine JL_op rfl (op_read rfl rfl (r_load_priv (cs' := [v_4]) (v := v_4) 1 Try.pu22 Try.pi22 rfl rfl rfl rfl (by decide) rfl) ?_)
  refine JL_op rfl (op_read rfl rfl (r_build (cs := [.bool true, v_4, .slice none 0 0]) (vs := [(0, .bool true), (1, v_4)]) (pcs := [(0, [.bool true]), (1, [v_4])]) (pls := [(0, 1), (1, 1), (2, 1)]) Try.pu35 Try.pi35 rfl (by kernel_rfl) rfl ⟨rfl, rfl, ⟨rfl, (sl_cells h_5), trivial⟩⟩ rfl) ?_)
  refine JL_op rfl (op_read rfl rfl (r_move (v := .int .i64 b_1.Numbers.len) rfl) ?_)
  refine JL_op rfl (op_read rfl rfl (r_load_priv (cs' := [.int .i64 goal_8.X, .int .i64 goal_8.Y, .int .i64 goal_8.C]) (v := .agg #[.int .i64 goal_8.X, .int .i64 goal_8.Y, .int .i64 goal_8.C]) 0 Try.pu37 Try.pi37 rfl rfl rfl rfl (by decide) rfl) ?_)
  refine JL_op rfl (op_read rfl rfl (r_move (v := v_12) rfl) ?_)
  refine JL_op rfl (op_call (f := 15) (fn := Try.f15) (args := [.agg #[.bool true, v_4, .slice none 0 0], .int .i64 b_1.Numbers.len, .agg #[.int .i64 goal_8.X, .int .i64 goal_8.Y, .int .i64 goal_8.C], v_12]) (post := cert_Check_post) rfl rfl rfl Try.func15 Try.pn15 rfl rfl (fun y w hy hs => cert_Check_ref w _ hs (.agg #[.bool true, v_4, .slice none 0 0]) (⟨true, b_1.Cycle, (⟨[], false⟩ : Sl Int)⟩ : Gcert_Proof) (t_Gcert_Proof_v.2 ⟨_, _, rfl, h_5, nil_vrel⟩) b_1.Numbers.len (.agg #[.int .i64 goal_8.X, .int .i64 goal_8.Y, .int .i64 goal_8.C]) goal_8 (t_Gdiff_Leq_v.2 rfl) v_12 facts_11 h_13 y hy) ?_)
  intro r_18 v_20 s_21 PV_23 hy_19 hle_22 hp_24
  obtain ⟨rfl, rfl⟩ := hp_24
  refine JL_op rfl (op_read rfl rfl (r_assign (v := .bool r_18) rfl) ?_)
  refine JL_nil ?_
  refine J_then ?_
  refine J_seq ?_
  refine J_region ?_
  refine JL_op rfl (op_read rfl rfl (r_fieldAddr (r := ⟨c_14, 1, none⟩) Try.pu44 (f := Try.pf44.getD 1 default) rfl Try.pi30 (by decide) rfl rfl) ?_)
  refine JL_op rfl (op_read rfl rfl (r_load_priv (cs' := [v_6]) (v := v_6) 1 Try.pu30 Try.pi30 rfl rfl rfl rfl (by decide) rfl) ?_)
  refine JL_op rfl (op_read rfl rfl (r_build (cs := [.bool false, .slice none 0 0, v_6]) (vs := [(2, v_6)]) (pcs := [(2, [v_6])]) (pls := [(0, 1), (1, 1), (2, 1)]) Try.pu35 Try.pi35 rfl (by kernel_rfl) rfl ⟨rfl, (sl_cells h_7), trivial⟩ rfl) ?_)
  refine JL_op rfl (op_read rfl rfl (r_move (v := .int .i64 b_1.Numbers.len) rfl) ?_)
  refine JL_op rfl (op_read rfl rfl (r_load_priv (cs' := [.int .i64 goal_8.X, .int .i64 goal_8.Y, .int .i64 goal_8.C]) (v := .agg #[.int .i64 goal_8.X, .int .i64 goal_8.Y, .int .i64 goal_8.C]) 0 Try.pu37 Try.pi37 rfl rfl rfl rfl (by decide) rfl) ?_)
  refine JL_op rfl (op_read rfl rfl (r_move (v := v_12) rfl) ?_)
  refine JL_op rfl (op_call (f := 15) (fn := Try.f15) (args := [.agg #[.bool false, .slice none 0 0, v_6], .int .i64 b_1.Numbers.len, .agg #[.int .i64 goal_8.X, .int .i64 goal_8.Y, .int .i64 goal_8.C], v_12]) (post := cert_Check_post) rfl rfl rfl Try.func15 Try.pn15 rfl rfl (fun y w hy hs => cert_Check_ref w _ hs (.agg #[.bool false, .slice none 0 0, v_6]) (⟨false, (⟨[], false⟩ : Sl Int), b_1.Numbers⟩ : Gcert_Proof) (t_Gcert_Proof_v.2 ⟨_, _, rfl, nil_vrel, (Ty.vmono _ hle_22 h_7)⟩) b_1.Numbers.len (.agg #[.int .i64 goal_8.X, .int .i64 goal_8.Y, .int .i64 goal_8.C]) goal_8 (t_Gdiff_Leq_v.2 rfl) v_12 facts_11 (Ty.vmono _ hle_22 h_13) y hy) ?_)
  intro r_25 v_27 s_28 PV_30 hy_26 hle_29 hp_31
  obtain ⟨rfl, rfl⟩ := hp_31
  refine JL_op rfl (op_read rfl rfl (r_assign (v := .bool r_25) rfl) ?_)
  refine JL_nil ?_
  refine J_then ?_
  refine J_seq ?_
  refine J_region ?_
  refine JL_op rfl (op_call (f := 9) (fn := Try.f9) (args := []) (post := lychgatelaw05_wakes_post) rfl rfl rfl Try.func9 Try.pn9 rfl rfl (fun y w hy hs => lychgatelaw05_wakes_ref w _ hs  y hy) ?_)
  intro r_32 v_34 s_35 PV_37 hy_33 hle_36 hp_38
  obtain ⟨rfl, rfl⟩ := hp_38
  refine JL_op rfl (op_read rfl rfl (r_move (v := .bool r_32) rfl) ?_)
  refine J_forkL (e := r_32) 6 [(34, .bool (r_32 && !(r_18 && r_25)))] (fun hc_39 hk => ?_) (fun hc_39 hk => ?_) (fun b => ?_)
  · refine JL_opg rfl rfl hc_39 (op_read rfl rfl (r_move (v := .bool r_18) rfl) ?_)
    refine JL_opg rfl rfl hc_39 (op_read rfl rfl (r_move (v := .bool r_18) rfl) ?_)
    refine J_forkL (e := r_18) 2 [(6, .bool false), (28, .bool r_32), (32, .bool (r_18 && r_25))] (fun hc_40 hk => ?_) (fun hc_40 hk => ?_) (fun b => ?_)
    · refine JL_opg rfl rfl hc_40 (op_read rfl rfl (r_move (v := .bool r_25) rfl) ?_)
      refine JL_opg rfl rfl hc_39 (op_read rfl rfl (r_pick_t (v := .bool r_25) rfl hc_40 rfl) ?_)
      refine J_prune [(6, .bool false), (28, .bool r_32), (32, .bool (r_18 && r_25))] ⟨rfl, rfl, (by show Value.bool _ = Value.bool _; rw [hc_40]; rfl), trivial⟩ hk
    · refine JL_skip rfl rfl hc_40 rfl rfl ?_
      refine JL_opg rfl rfl hc_39 (op_read rfl rfl (r_pick_f (v := .bool false) rfl hc_40 rfl) ?_)
      refine J_prune [(6, .bool false), (28, .bool r_32), (32, .bool (r_18 && r_25))] ⟨rfl, rfl, (by show Value.bool _ = Value.bool _; rw [hc_40]; rfl), trivial⟩ hk
    · refine JL_opg rfl rfl hc_39 (op_read rfl rfl (r_not rfl) ?_)
      refine JL_op rfl (op_read rfl rfl (r_pick_t (v := .bool (!(r_18 && r_25))) rfl hc_39 rfl) ?_)
      refine J_prune [(34, .bool (r_32 && !(r_18 && r_25)))] ⟨(by show Value.bool _ = Value.bool _; rw [hc_39]; rfl), trivial⟩ hk
  · refine JL_skip rfl rfl hc_39 rfl rfl ?_
    refine JL_skip rfl rfl hc_39 rfl rfl ?_
    refine JL_skipn rfl rfl rfl rfl ?_
    refine JL_skip rfl rfl hc_39 rfl rfl ?_
    refine JL_skip rfl rfl hc_39 rfl rfl ?_
    refine JL_op rfl (op_read rfl rfl (r_pick_f (v := .bool false) rfl hc_39 rfl) ?_)
    refine J_prune [(34, .bool (r_32 && !(r_18 && r_25)))] ⟨(by show Value.bool _ = Value.bool _; rw [hc_39]; rfl), trivial⟩ hk
  · refine JL_op rfl (op_read rfl rfl (r_assign (v := .bool (r_32 && !(r_18 && r_25))) rfl) ?_)
    refine JL_nil ?_
    refine J_then ?_
    refine J_ret ?_
    refine J_select (PV' := []) [] (by decide) rfl ?_
    exact J_return1 rfl ⟨rfl, rfl⟩
def diff_Solve_post (r : (Sl Int) × (Sl Int) × Int) (σ : FS) (PV : List Priv) (v : Value) : Prop :=
  ∃ v0 v1 : Value, v = .tuple #[v0, v1, .int .i64 r.2.2] ∧ PV = [.row Int (tInt .i64) 2 v0 r.1, .row Int (tInt .i64) 3 v1 r.2.1]
set_option maxRecDepth 100000 in
theorem diff_Solve_ref (w : World) (σ : FS) (hs : σ.sub w) (n_1 : Int) (v_3 : Value) (facts_2 : Sl Gdiff_Leq) (h_4 : (tSl t_Gdiff_Leq).vrel σ v_3 facts_2) (r : (Sl Int) × (Sl Int) × Int) (hr : diff_Solve n_1 facts_2 = some r) : Does Try.prog 27 [.int .i64 n_1, v_3] w σ (diff_Solve_post r) := by
  unfold diff_Solve at hr
  refine does_of_J Try.func27 rfl (n := 42) rfl rfl hs hr ?_
  refine J_seq ?_
  refine J_region ?_
  refine JL_op rfl (op_read rfl rfl (r_assign (v := .slice none 0 0) rfl) ?_)
  refine JL_op rfl (op_read rfl rfl (r_assign (v := .slice none 0 0) rfl) ?_)
  refine JL_op rfl (op_read rfl rfl (r_assign (v := .int .i64 0) rfl) ?_)
  refine JL_nil ?_
  refine J_then ?_
  refine J_seq ?_
  refine J_seq ?_
  refine J_region ?_
  refine JL_op rfl (op_read rfl rfl (r_move (v := .int .i64 n_1) rfl) ?_)
  refine JL_op rfl (op_read rfl rfl (r_move (v := v_3) rfl) ?_)
  refine JL_op rfl (op_call (f := 28) (fn := Try.f28) (args := [.int .i64 n_1, v_3]) (post := diff_fit_post) rfl rfl rfl Try.func28 Try.pn28 rfl rfl (fun y w hy hs => diff_fit_ref w _ hs n_1 v_3 facts_2 h_4 y hy) ?_)
  intro r_5 v_7 s_8 PV_10 hy_6 hle_9 hp_11
  obtain ⟨rfl, rfl⟩ := hp_11
  refine JL_op rfl (op_read rfl rfl (r_assign (v := .int .i64 r_5) rfl) ?_)
  refine JL_nil ?_
  refine J_then ?_
  refine J_seq ?_
  refine J_region ?_
  refine JL_op rfl (op_read rfl rfl (r_move (v := .int .i64 r_5) rfl) ?_)
  refine JL_op rfl (op_read rfl rfl (r_neq rfl rfl) ?_)
  refine JL_nil ?_
  refine J_then ?_
  refine J_cond rfl (fun hc_12 => ?_) (fun hc_12 => ?_)
  · refine J_seq ?_
    refine J_region ?_
    refine JL_op rfl (op_read rfl rfl (r_move (v := .int .i64 r_5) rfl) ?_)
    refine JL_op rfl (op_read rfl rfl (r_assign (v := .slice none 0 0) rfl) ?_)
    refine JL_op rfl (op_read rfl rfl (r_assign (v := .slice none 0 0) rfl) ?_)
    refine JL_op rfl (op_read rfl rfl (r_assign (v := .int .i64 r_5) rfl) ?_)
    refine JL_nil ?_
    refine J_then ?_
    refine J_ret ?_
    refine J_then_ret ?_
    refine J_nil_row (tInt .i64) 2 ?_
    refine J_nil_row (tInt .i64) 3 ?_
    refine J_select (PV' := [.row Int (tInt .i64) 2 (.slice none 0 0) (⟨[], false⟩ : Sl Int), .row Int (tInt .i64) 3 (.slice none 0 0) (⟨[], false⟩ : Sl Int)]) [1, 0] (by decide) rfl ?_
    exact J_return3 rfl ⟨_, _, rfl, rfl⟩
  · refine J_skip ?_
    refine J_then ?_
    refine J_seq ?_
    refine J_region ?_
    refine JL_op rfl (op_read rfl rfl (r_move (v := .int .i64 n_1) rfl) ?_)
    refine JL_op rfl (op_read rfl rfl (r_move (v := v_3) rfl) ?_)
    refine JL_op rfl (op_call (f := 29) (fn := Try.f29) (args := [.int .i64 n_1, v_3]) (post := diff_solve_post) rfl rfl rfl Try.func29 Try.pn29 rfl rfl (fun y w hy hs => diff_solve_ref w _ hs n_1 v_3 facts_2 (Ty.vmono _ hle_9 h_4) y hy) ?_)
    intro r_15 v_17 s_18 PV_20 hy_16 hle_19 hp_21
    obtain ⟨v_22, v_24, rfl, rfl⟩ := hp_21
    refine JL_op rfl (op_read rfl rfl (r_move (v := .tuple #[v_22, v_24]) rfl) ?_)
    refine JL_op rfl (op_read rfl rfl (r_extract (v := v_22) rfl rfl) ?_)
    refine JL_op rfl (op_read rfl rfl (r_extract (v := v_24) rfl rfl) ?_)
    refine JL_op rfl (op_read rfl rfl (r_assign (v := v_22) rfl) ?_)
    refine JL_op rfl (op_read rfl rfl (r_assign (v := v_24) rfl) ?_)
    refine JL_nil ?_
    refine J_then ?_
    refine J_seq ?_
    refine J_seq ?_
    refine J_region ?_
    refine JL_op rfl (op_read rfl rfl (r_move (v := v_24) rfl) ?_)
    refine JL_op rfl (op_read rfl rfl (r_nenil_row (v := v_24) 1 Try.pu22 rfl rfl rfl) ?_)
    refine JL_nil ?_
    refine J_then ?_
    refine J_cond rfl (fun hc_26 => ?_) (fun hc_26 => ?_)
    · refine J_seq ?_
      refine J_region ?_
      refine JL_op rfl (op_read rfl rfl (r_move (v := v_24) rfl) ?_)
      refine JL_op rfl (op_read rfl rfl (r_assign (v := .slice none 0 0) rfl) ?_)
      refine JL_op rfl (op_read rfl rfl (r_assign (v := v_24) rfl) ?_)
      refine JL_op rfl (op_read rfl rfl (r_assign (v := .int .i64 0) rfl) ?_)
      refine JL_nil ?_
      refine J_then ?_
      refine J_ret ?_
      refine J_then_ret ?_
      refine J_nil_row (tInt .i64) 2 ?_
      refine J_select (PV' := [.row Int (tInt .i64) 2 (.slice none 0 0) (⟨[], false⟩ : Sl Int), .row Int (tInt .i64) 3 v_24 r_15.2]) [0, 2] (by decide) rfl ?_
      exact J_return3 rfl ⟨_, _, rfl, rfl⟩
    · refine J_skip ?_
      refine J_then ?_
      refine J_seq ?_
      refine J_region ?_
      refine JL_op rfl (op_read rfl rfl (r_move (v := v_22) rfl) ?_)
      refine J_bind fun x_28 hx_29 => ?_
      refine JL_op rfl (op_read rfl rfl (r_index_row (v := v_22) (T := (tInt .i64)) (q := x_28) 0 Try.pu30 Try.pi2 rfl rfl rfl rfl hx_29) ?_)
      refine JL_op rfl (op_reads rfl rfl (l_elem_row (v := v_22) (T := (tInt .i64)) (Tf := (tInt .i64)) (q := x_28) (i := 0) (off := 0) 0 Try.pu2 Try.pi2 rfl rfl rfl rfl hx_29 (FieldAt.self _) (by decide)) ?_)
      intro v_30 h_31
      obtain rfl := tInt_v.1 h_31
      refine JL_op rfl (op_read rfl rfl (r_assign (v := .int .i64 x_28) rfl) ?_)
      refine JL_nil ?_
      refine J_then ?_
      refine J_seq ?_
      refine J_seq ?_
      refine J_region ?_
      refine JL_op rfl (op_read rfl rfl (r_move (v := v_22) rfl) ?_)
      refine JL_op rfl (op_read rfl rfl (r_len_row (v := v_22) 0 Try.pu30 rfl rfl) ?_)
      refine JL_op rfl (op_read rfl rfl (r_move (v := .int .i64 0) rfl) ?_)
      refine JL_nil ?_
      refine J_then ?_
      refine J_block ?_
      refine J_select (PV' := [.row Int (tInt .i64) 2 v_22 r_15.1]) [0] (by decide) rfl ?_
      refine J_loop (fun (y : (Sl Int) × Int) L τ PV => ∃ (w0 : Value), s_18.le τ ∧ L = [(4, w0), (8, .int .i64 x_28), (29, .int .i64 r_15.1.len), (30, .int .i64 y.2)] ∧ PV = [.row Int (tInt .i64) 2 w0 y.1]) (fun (y : (Sl Int)) e L τ PV => e = .exit 0 ∧ (∃ (w0 : Value), s_18.le τ ∧ L = [(4, w0)] ∧ PV = [.row Int (tInt .i64) 2 w0 y])) _ ?_ ⟨v_22, (FS.le.refl _), rfl, rfl⟩ ?_ ?_
      · exact ⟨rfl, rfl, rfl, rfl, trivial⟩
      · rintro x_32 _ b s_33 _ ⟨v_35, hle_34, rfl, rfl⟩
        unfold diff_Solve_L1
        refine J_seq ?_
        refine J_region ?_
        refine JL_op rfl (op_read rfl rfl (r_lss rfl rfl) ?_)
        refine JL_nil ?_
        refine J_then ?_
        refine J_seq ?_
        refine J_cond rfl (fun hc_36 => ?_) (fun hc_36 => ?_)
        · refine J_skip ?_
          refine J_then ?_
          refine J_seq ?_
          refine J_block ?_
          refine J_seq ?_
          refine J_region ?_
          refine JL_op rfl (op_read rfl rfl (r_move (v := .int .i64 x_32.2) rfl) ?_)
          refine JL_op rfl (op_read rfl rfl (r_assign (v := .int .i64 x_32.2) rfl) ?_)
          refine JL_nil ?_
          refine J_then ?_
          refine J_region ?_
          refine JL_op rfl (op_read rfl rfl (r_move (v := v_35) rfl) ?_)
          refine JL_op rfl (op_read rfl rfl (r_move (v := .int .i64 x_32.2) rfl) ?_)
          refine J_bind fun x_37 hx_38 => ?_
          refine JL_op rfl (op_read rfl rfl (r_index_row (v := v_35) (T := (tInt .i64)) (q := x_37) 0 Try.pu30 Try.pi2 rfl rfl rfl rfl hx_38) ?_)
          refine JL_op rfl (op_reads rfl rfl (l_elem_row (v := v_35) (T := (tInt .i64)) (Tf := (tInt .i64)) (q := x_37) (i := x_32.2) (off := 0) 0 Try.pu2 Try.pi2 rfl rfl rfl rfl hx_38 (FieldAt.self _) (by decide)) ?_)
          intro v_39 h_40
          obtain rfl := tInt_v.1 h_40
          refine JL_op rfl (op_read rfl rfl (r_move (v := .int .i64 x_28) rfl) ?_)
          refine JL_op rfl (op_read rfl rfl (r_sub rfl rfl) ?_)
          refine J_bind fun x_41 hx_42 => ?_
          refine JL_op rfl (op_read rfl rfl (r_index_row (v := v_35) (T := (tInt .i64)) (q := x_41) 0 Try.pu30 Try.pi2 rfl rfl rfl rfl hx_42) ?_)
          refine JL_op rfl (op_store_row (v := v_35) (u := .int .i64 (IntKind.i64.wrap (x_37 - x_28))) (T := (tInt .i64)) (q := (IntKind.i64.wrap (x_37 - x_28))) (i := x_32.2) 0 Try.pi2 rfl rfl rfl (tInt_v.2 rfl) rfl ?_)
          intro s_43 hs_44
          refine JL_nil ?_
          refine J_in_normal ?_
          refine J_then ?_
          refine J_region ?_
          refine JL_op rfl (op_read rfl rfl (r_add rfl rfl) ?_)
          refine JL_op rfl (op_read rfl rfl (r_move (v := .int .i64 (IntKind.i64.wrap (x_32.2 + 1))) rfl) ?_)
          refine JL_nil ?_
          refine J_next _ ?_ ⟨v_35, hle_34, rfl, rfl⟩
          exact ⟨rfl, rfl, rfl, rfl, trivial⟩
        · refine J_exit ?_
          refine J_then_exit ?_
          refine J_done trivial _ ?_ ⟨rfl, v_35, hle_34, rfl, rfl⟩
          exact ⟨rfl, trivial⟩
      · rintro y_45 _ _ b s_46 _ ⟨rfl, ⟨v_48, hle_47, rfl, rfl⟩⟩
        refine J_in_exit ?_
        refine J_then ?_
        refine J_seq ?_
        refine J_region ?_
        refine JL_op rfl (op_read rfl rfl (r_move (v := v_48) rfl) ?_)
        refine JL_op rfl (op_read rfl rfl (r_assign (v := v_48) rfl) ?_)
        refine JL_op rfl (op_read rfl rfl (r_assign (v := .slice none 0 0) rfl) ?_)
        refine JL_op rfl (op_read rfl rfl (r_assign (v := .int .i64 0) rfl) ?_)
        refine JL_nil ?_
        refine J_then ?_
        refine J_ret ?_
        refine J_nil_row (tInt .i64) 3 ?_
        refine J_select (PV' := [.row Int (tInt .i64) 2 v_48 y_45, .row Int (tInt .i64) 3 (.slice none 0 0) (⟨[], false⟩ : Sl Int)]) [1, 0] (by decide) rfl ?_
        exact J_return3 rfl ⟨_, _, rfl, rfl⟩
def cert_Prove_post (r : Gcert_Proof × Int) (σ : FS) (PV : List Priv) (v : Value) : Prop :=
  ∃ v0 : Value, v = .tuple #[v0, .int .i64 r.2] ∧ PV = [] ∧ t_Gcert_Proof.vrel σ v0 r.1
set_option maxRecDepth 100000 in
theorem cert_Prove_ref (w : World) (σ : FS) (hs : σ.sub w) (n_1 : Int) (v_3 : Value) (goal_2 : Gdiff_Leq) (h_4 : t_Gdiff_Leq.vrel σ v_3 goal_2) (v_6 : Value) (facts_5 : Sl Gdiff_Leq) (h_7 : (tSl t_Gdiff_Leq).vrel σ v_6 facts_5) (r : Gcert_Proof × Int) (hr : cert_Prove n_1 goal_2 facts_5 = some r) : Does Try.prog 17 [.int .i64 n_1, v_3, v_6] w σ (cert_Prove_post r) := by
  unfold cert_Prove at hr
  obtain rfl := t_Gdiff_Leq_v.1 h_4
  refine does_of_J Try.func17 rfl (n := 40) rfl rfl hs hr ?_
  refine J_seq ?_
  refine J_region ?_
  refine JL_op rfl (op_box (cs := [.int .i64 goal_2.X, .int .i64 goal_2.Y, .int .i64 goal_2.C]) rfl rfl ?_)
  intro c_8
  refine JL_op rfl (op_alloc (cs := [.bool false, .slice none 0 0, .slice none 0 0]) rfl Try.pi35 rfl rfl ?_)
  intro c_10
  refine JL_op rfl (op_read rfl rfl (r_assign (v := .int .i64 0) rfl) ?_)
  refine JL_nil ?_
  refine J_then ?_
  refine J_seq ?_
  refine J_region ?_
  refine JL_op rfl (op_read rfl rfl (r_move (v := .int .i64 n_1) rfl) ?_)
  refine JL_op rfl (op_read rfl rfl (r_load_priv (cs' := [.int .i64 goal_2.X, .int .i64 goal_2.Y, .int .i64 goal_2.C]) (v := .agg #[.int .i64 goal_2.X, .int .i64 goal_2.Y, .int .i64 goal_2.C]) 1 Try.pu37 Try.pi37 rfl rfl rfl rfl (by decide) rfl) ?_)
  refine JL_op rfl (op_read rfl rfl (r_move (v := v_6) rfl) ?_)
  refine JL_op rfl (op_call (f := 18) (fn := Try.f18) (args := [.int .i64 n_1, .agg #[.int .i64 goal_2.X, .int .i64 goal_2.Y, .int .i64 goal_2.C], v_6]) (post := diff_Entails_post) rfl rfl rfl Try.func18 Try.pn18 rfl rfl (fun y w hy hs => diff_Entails_ref w _ hs n_1 (.agg #[.int .i64 goal_2.X, .int .i64 goal_2.Y, .int .i64 goal_2.C]) goal_2 (t_Gdiff_Leq_v.2 rfl) v_6 facts_5 h_7 y hy) ?_)
  intro r_12 v_14 s_15 PV_17 hy_13 hle_16 hp_18
  obtain ⟨rfl, rfl⟩ := hp_18
  refine JL_op rfl (op_read rfl rfl (r_move (v := .tuple #[.bool r_12.1, .int .i64 r_12.2]) rfl) ?_)
  refine JL_op rfl (op_read rfl rfl (r_extract (v := .bool r_12.1) rfl rfl) ?_)
  refine JL_op rfl (op_read rfl rfl (r_extract (v := .int .i64 r_12.2) rfl rfl) ?_)
  refine JL_op rfl (op_read rfl rfl (r_assign (v := .bool r_12.1) rfl) ?_)
  refine JL_op rfl (op_read rfl rfl (r_assign (v := .int .i64 r_12.2) rfl) ?_)
  refine JL_nil ?_
  refine J_then ?_
  refine J_seq ?_
  refine J_seq ?_
  refine J_region ?_
  refine JL_op rfl (op_read rfl rfl (r_move (v := .int .i64 r_12.2) rfl) ?_)
  refine JL_op rfl (op_read rfl rfl (r_neq rfl rfl) ?_)
  refine JL_nil ?_
  refine J_then ?_
  refine J_cond rfl (fun hc_19 => ?_) (fun hc_19 => ?_)
  · refine J_seq ?_
    refine J_region ?_
    refine JL_op rfl (op_read rfl rfl (r_build (cs := [.bool false, .slice none 0 0, .slice none 0 0]) (vs := []) (pcs := []) (pls := [(0, 1), (1, 1), (2, 1)]) Try.pu35 Try.pi35 rfl (by kernel_rfl) rfl trivial rfl) ?_)
    refine JL_op rfl (op_read rfl rfl (r_move (v := .int .i64 r_12.2) rfl) ?_)
    refine JL_op rfl (op_store_priv (vs := [.bool false, .slice none 0 0, .slice none 0 0]) (cs' := [.bool false, .slice none 0 0, .slice none 0 0]) (PV' := [.cell c_10 [.bool false, .slice none 0 0, .slice none 0 0] 35, .cell c_8 [.int .i64 goal_2.X, .int .i64 goal_2.Y, .int .i64 goal_2.C] 37]) 0 Try.pi35 rfl rfl rfl ⟨rfl, rfl, rfl, trivial⟩ rfl rfl rfl rfl ?_)
    refine JL_op rfl (op_read rfl rfl (r_assign (v := .int .i64 r_12.2) rfl) ?_)
    refine JL_nil ?_
    refine J_then ?_
    refine J_ret ?_
    refine J_then_ret ?_
    exact J_returnV2 (PV' := []) rfl (rv_cell (cs := [.bool false, .slice none 0 0, .slice none 0 0]) (v := .agg #[.bool false, .slice none 0 0, .slice none 0 0]) 0 Try.pu35 Try.pi35 rfl rfl rfl (by decide) rfl) rv_tmp [] (by decide) rfl ⟨_, rfl, rfl, (t_Gcert_Proof_v.2 ⟨_, _, rfl, nil_vrel, nil_vrel⟩)⟩
  · refine J_skip ?_
    refine J_then ?_
    refine J_seq ?_
    refine J_region_any [.cell c_10 [.bool false, .slice none 0 0, .slice none 0 0] 35, .cell c_8 [.int .i64 goal_2.X, .int .i64 goal_2.Y, .int .i64 goal_2.C] 37] Try.mixed (by kernel_rfl) fun hns => ?_
    have hS_20 : HeldOK s_15 [.cell c_10 [.bool false, .slice none 0 0, .slice none 0 0] 35, .cell c_8 [.int .i64 goal_2.X, .int .i64 goal_2.Y, .int .i64 goal_2.C] 37] s_15 [.cell c_10 [.bool false, .slice none 0 0, .slice none 0 0] 35, .cell c_8 [.int .i64 goal_2.X, .int .i64 goal_2.Y, .int .i64 goal_2.C] 37] := HeldOK.same ⟨⟨0, rfl⟩, ⟨1, rfl⟩, trivial⟩
    refine JA_take 0 rfl hns (by kernel_rfl) (by kernel_rfl) hS_20 rfl rfl rfl (r_move (v := .int .i64 n_1) rfl) ?_
    refine JA_take 1 rfl hns (by kernel_rfl) (by kernel_rfl) hS_20 rfl rfl rfl (r_move (v := v_6) rfl) ?_
    refine JA_take 3 rfl hns (by kernel_rfl) (by kernel_rfl) hS_20 rfl rfl rfl (r_load_priv (cs' := [.int .i64 goal_2.X, .int .i64 goal_2.Y, .int .i64 goal_2.C]) (v := .agg #[.int .i64 goal_2.X, .int .i64 goal_2.Y, .int .i64 goal_2.C]) 1 Try.pu37 Try.pi37 rfl rfl rfl rfl (by decide) rfl) ?_
    refine JA_op (i := 2) (by kernel_rfl) rfl rfl (op_call (f := 24) (fn := Try.f24) (args := [v_6]) (post := slices_Clone_post) rfl rfl rfl Try.func24 Try.pn24 rfl rfl (fun y w hy hs => slices_Clone_ref w _ hs v_6 facts_5 (Ty.vmono _ hle_16 h_7) y hy) ?_)
    intro r_21 v_23 s_24 PV_26 hy_22 hle_25 hp_27
    obtain ⟨_, rfl, rfl⟩ := hp_27
    have hS_29 : HeldOK s_15 [.cell c_10 [.bool false, .slice none 0 0, .slice none 0 0] 35, .cell c_8 [.int .i64 goal_2.X, .int .i64 goal_2.Y, .int .i64 goal_2.C] 37] s_24 [.row Gdiff_Leq t_Gdiff_Leq 37 v_23 r_21, .cell c_10 [.bool false, .slice none 0 0, .slice none 0 0] 35, .cell c_8 [.int .i64 goal_2.X, .int .i64 goal_2.Y, .int .i64 goal_2.C] 37] := HeldOK.plain hle_25 ⟨⟨1, rfl⟩, ⟨2, rfl⟩, trivial⟩ trivial
    refine ⟨hS_29, ?_⟩
    refine JA_op (i := 4) (by kernel_rfl) rfl rfl (op_call (f := 25) (fn := Try.f25) (args := [.agg #[.int .i64 goal_2.X, .int .i64 goal_2.Y, .int .i64 goal_2.C]]) (post := cert_turned_post) rfl rfl rfl Try.func25 Try.pn25 rfl rfl (fun y w hy hs => cert_turned_ref w _ hs (.agg #[.int .i64 goal_2.X, .int .i64 goal_2.Y, .int .i64 goal_2.C]) goal_2 (t_Gdiff_Leq_v.2 rfl) y hy) ?_)
    intro r_30 v_32 s_33 PV_35 hy_31 hle_34 hp_36
    obtain ⟨_, rfl, rfl, h_37⟩ := hp_36
    obtain rfl := t_Gdiff_Leq_v.1 h_37
    have hS_38 : HeldOK s_15 [.cell c_10 [.bool false, .slice none 0 0, .slice none 0 0] 35, .cell c_8 [.int .i64 goal_2.X, .int .i64 goal_2.Y, .int .i64 goal_2.C] 37] s_33 [.row Gdiff_Leq t_Gdiff_Leq 37 v_23 r_21, .cell c_10 [.bool false, .slice none 0 0, .slice none 0 0] 35, .cell c_8 [.int .i64 goal_2.X, .int .i64 goal_2.Y, .int .i64 goal_2.C] 37] := HeldOK.plain (FS.le.trans hle_25 hle_34) ⟨⟨1, rfl⟩, ⟨2, rfl⟩, trivial⟩ trivial
    refine ⟨hS_38, ?_⟩
    refine JA_op (i := 5) (by kernel_rfl) rfl rfl (op_buildSlice (T := t_Gdiff_Leq) (vs := [.agg #[.int .i64 r_30.X, .int .i64 r_30.Y, .int .i64 r_30.C]]) (xs := [r_30]) rfl Try.pu23 Try.pi37 rfl rfl rfl rfl rfl rfl ⟨(t_Gdiff_Leq_v.2 rfl), trivial⟩ ?_)
    intro v_39
    have hS_41 : HeldOK s_15 [.cell c_10 [.bool false, .slice none 0 0, .slice none 0 0] 35, .cell c_8 [.int .i64 goal_2.X, .int .i64 goal_2.Y, .int .i64 goal_2.C] 37] s_33 [.row Gdiff_Leq t_Gdiff_Leq 37 v_39 (⟨[r_30], true⟩ : Sl Gdiff_Leq), .row Gdiff_Leq t_Gdiff_Leq 37 v_23 r_21, .cell c_10 [.bool false, .slice none 0 0, .slice none 0 0] 35, .cell c_8 [.int .i64 goal_2.X, .int .i64 goal_2.Y, .int .i64 goal_2.C] 37] := HeldOK.plain (FS.le.trans hle_25 hle_34) ⟨⟨2, rfl⟩, ⟨3, rfl⟩, trivial⟩ trivial
    refine ⟨hS_41, ?_⟩
    refine JA_op (i := 6) (by kernel_rfl) rfl rfl (op_append (v := v_23) (u := v_39) (T := t_Gdiff_Leq) (ts := [r_30]) 1 rfl Try.pu23 Try.pi37 rfl rfl rfl rfl rfl rfl rfl (source_row (s := (⟨[r_30], true⟩ : Sl Gdiff_Leq)) 0 rfl) ?_)
    intro s_42 v_44 ha_43
    have hS_45 : HeldOK s_15 [.cell c_10 [.bool false, .slice none 0 0, .slice none 0 0] 35, .cell c_8 [.int .i64 goal_2.X, .int .i64 goal_2.Y, .int .i64 goal_2.C] 37] s_33 [.row Gdiff_Leq t_Gdiff_Leq 37 v_39 (⟨[r_30], true⟩ : Sl Gdiff_Leq), .row Gdiff_Leq t_Gdiff_Leq 37 v_44 s_42, .cell c_10 [.bool false, .slice none 0 0, .slice none 0 0] 35, .cell c_8 [.int .i64 goal_2.X, .int .i64 goal_2.Y, .int .i64 goal_2.C] 37] := HeldOK.plain (FS.le.trans hle_25 hle_34) ⟨⟨2, rfl⟩, ⟨3, rfl⟩, trivial⟩ trivial
    refine ⟨hS_45, ?_⟩
    refine JA_op (i := 7) (by kernel_rfl) rfl rfl (op_call_lend (f := 27) (fn := Try.f27) (args := [.int .i64 n_1, v_44]) (post := diff_Solve_post) rfl rfl rfl Try.func27 Try.pn27 rfl rfl (fun y w τ hy hle hs hrow => diff_Solve_ref w τ hs n_1 v_44 s_42 (hrow 1 _ _ _ _ _ rfl) y hy) (fun y σ' PV' v hp => by obtain ⟨_, _, rfl, rfl⟩ := hp; exact ⟨⟨inferInstance⟩, ⟨⟨inferInstance⟩, trivial⟩⟩) ?_)
    intro r_46 v_48 s_49 PV_51 hy_47 hp_52
    obtain ⟨v_53, v_55, rfl, rfl⟩ := hp_52
    have hS_57 : HeldOK s_15 [.cell c_10 [.bool false, .slice none 0 0, .slice none 0 0] 35, .cell c_8 [.int .i64 goal_2.X, .int .i64 goal_2.Y, .int .i64 goal_2.C] 37] s_33 [.row Int (tInt .i64) 2 v_53 r_46.1, .row Int (tInt .i64) 3 v_55 r_46.2.1, .row Gdiff_Leq t_Gdiff_Leq 37 v_39 (⟨[r_30], true⟩ : Sl Gdiff_Leq), .row Gdiff_Leq t_Gdiff_Leq 37 v_44 s_42, .cell c_10 [.bool false, .slice none 0 0, .slice none 0 0] 35, .cell c_8 [.int .i64 goal_2.X, .int .i64 goal_2.Y, .int .i64 goal_2.C] 37] := HeldOK.plain (FS.le.trans hle_25 hle_34) ⟨⟨4, rfl⟩, ⟨5, rfl⟩, trivial⟩ trivial
    refine ⟨hS_57, ?_⟩
    refine JA_take 8 rfl hns (by kernel_rfl) (by kernel_rfl) hS_57 rfl rfl rfl (r_move (v := .tuple #[v_53, v_55, .int .i64 r_46.2.2]) rfl) ?_
    refine JA_take 9 rfl hns (by kernel_rfl) (by kernel_rfl) hS_57 rfl rfl rfl (r_extract (v := v_53) rfl rfl) ?_
    refine JA_take 10 rfl hns (by kernel_rfl) (by kernel_rfl) hS_57 rfl rfl rfl (r_extract (v := v_55) rfl rfl) ?_
    refine JA_take 11 rfl hns (by kernel_rfl) (by kernel_rfl) hS_57 rfl rfl rfl (r_extract (v := .int .i64 r_46.2.2) rfl rfl) ?_
    refine JA_take 12 rfl hns (by kernel_rfl) (by kernel_rfl) hS_57 rfl rfl rfl (r_assign (v := v_53) rfl) ?_
    refine JA_take 13 rfl hns (by kernel_rfl) (by kernel_rfl) hS_57 rfl rfl rfl (r_assign (v := v_55) rfl) ?_
    refine JA_take 14 rfl hns (by kernel_rfl) (by kernel_rfl) hS_57 rfl rfl rfl (r_assign (v := .int .i64 r_46.2.2) rfl) ?_
    refine JA_done (by kernel_rfl) ?_
    refine J_then ?_
    refine J_seq ?_
    refine J_region ?_
    refine JL_op rfl (op_read rfl rfl (r_move (v := .bool r_12.1) rfl) ?_)
    refine JL_op rfl (op_read rfl rfl (r_move (v := v_55) rfl) ?_)
    refine JL_op rfl (op_read rfl rfl (r_move (v := v_53) rfl) ?_)
    refine J_freeze_row 1 rfl rfl fun s_58 hle_59 h_60 => ?_
    refine J_freeze_row 0 rfl rfl fun s_61 hle_62 h_63 => ?_
    refine JL_op rfl (op_read rfl rfl (r_build (cs := [.bool r_12.1, v_55, v_53]) (vs := [(0, .bool r_12.1), (1, v_55), (2, v_53)]) (pcs := [(0, [.bool r_12.1]), (1, [v_55]), (2, [v_53])]) (pls := [(0, 1), (1, 1), (2, 1)]) Try.pu35 Try.pi35 rfl (by kernel_rfl) rfl ⟨rfl, rfl, ⟨rfl, (sl_cells h_60), ⟨rfl, (sl_cells h_63), trivial⟩⟩⟩ rfl) ?_)
    refine JL_op rfl (op_read rfl rfl (r_move (v := .int .i64 r_46.2.2) rfl) ?_)
    refine JL_op rfl (op_store_priv (vs := [.bool r_12.1, v_55, v_53]) (cs' := [.bool r_12.1, v_55, v_53]) (PV' := [.row Gdiff_Leq t_Gdiff_Leq 37 v_39 (⟨[r_30], true⟩ : Sl Gdiff_Leq), .row Gdiff_Leq t_Gdiff_Leq 37 v_44 s_42, .cell c_10 [.bool r_12.1, v_55, v_53] 35, .cell c_8 [.int .i64 goal_2.X, .int .i64 goal_2.Y, .int .i64 goal_2.C] 37]) 2 Try.pi35 rfl rfl rfl ⟨rfl, sl_one h_60, sl_one h_63, trivial⟩ rfl rfl rfl rfl ?_)
    refine JL_op rfl (op_read rfl rfl (r_assign (v := .int .i64 r_46.2.2) rfl) ?_)
    refine JL_nil ?_
    refine J_then ?_
    refine J_ret ?_
    exact J_returnV2 (PV' := []) rfl (rv_cell (cs := [.bool r_12.1, v_55, v_53]) (v := .agg #[.bool r_12.1, v_55, v_53]) 2 Try.pu35 Try.pi35 rfl rfl rfl (by decide) rfl) rv_tmp [] (by decide) rfl ⟨_, rfl, rfl, (t_Gcert_Proof_v.2 ⟨_, _, rfl, (Ty.vmono _ hle_62 h_60), h_63⟩)⟩
def lychgatelaw05_CertProves_post (r : Bool) (σ : FS) (PV : List Priv) (v : Value) : Prop :=
  v = .bool r ∧ PV = []
set_option maxRecDepth 100000 in
theorem lychgatelaw05_CertProves_ref (w : World) (σ : FS) (hs : σ.sub w) (n_1 : Int) (v_3 : Value) (goal_2 : Gdiff_Leq) (h_4 : t_Gdiff_Leq.vrel σ v_3 goal_2) (v_6 : Value) (facts_5 : Sl Gdiff_Leq) (h_7 : (tSl t_Gdiff_Leq).vrel σ v_6 facts_5) (r : Bool) (hr : lychgatelaw05_CertProves n_1 goal_2 facts_5 = some r) : Does Try.prog 8 [.int .i64 n_1, v_3, v_6] w σ (lychgatelaw05_CertProves_post r) := by
  unfold lychgatelaw05_CertProves at hr
  obtain rfl := t_Gdiff_Leq_v.1 h_4
  refine does_of_J Try.func8 rfl (n := 58) rfl rfl hs hr ?_
  refine J_seq ?_
  refine J_region ?_
  refine JL_op rfl (op_box (cs := [.int .i64 goal_2.X, .int .i64 goal_2.Y, .int .i64 goal_2.C]) rfl rfl ?_)
  intro c_8
  refine JL_op rfl (op_read rfl rfl (r_assign (v := .bool false) rfl) ?_)
  refine JL_nil ?_
  refine J_then ?_
  refine J_seq ?_
  refine J_region ?_
  refine JL_op rfl (op_read rfl rfl (r_move (v := .int .i64 n_1) rfl) ?_)
  refine JL_op rfl (op_read rfl rfl (r_load_priv (cs' := [.int .i64 goal_2.X, .int .i64 goal_2.Y, .int .i64 goal_2.C]) (v := .agg #[.int .i64 goal_2.X, .int .i64 goal_2.Y, .int .i64 goal_2.C]) 0 Try.pu37 Try.pi37 rfl rfl rfl rfl (by decide) rfl) ?_)
  refine JL_op rfl (op_read rfl rfl (r_move (v := v_6) rfl) ?_)
  refine JL_op rfl (op_call (f := 17) (fn := Try.f17) (args := [.int .i64 n_1, .agg #[.int .i64 goal_2.X, .int .i64 goal_2.Y, .int .i64 goal_2.C], v_6]) (post := cert_Prove_post) rfl rfl rfl Try.func17 Try.pn17 rfl rfl (fun y w hy hs => cert_Prove_ref w _ hs n_1 (.agg #[.int .i64 goal_2.X, .int .i64 goal_2.Y, .int .i64 goal_2.C]) goal_2 (t_Gdiff_Leq_v.2 rfl) v_6 facts_5 h_7 y hy) ?_)
  intro r_10 v_12 s_13 PV_15 hy_11 hle_14 hp_16
  obtain ⟨v_17, rfl, rfl, h_18⟩ := hp_16
  obtain ⟨v_19, v_21, rfl, h_20, h_22⟩ := t_Gcert_Proof_v.1 h_18
  refine JL_op rfl (op_read rfl rfl (r_move (v := .tuple #[.agg #[.bool r_10.1.Yes, v_19, v_21], .int .i64 r_10.2]) rfl) ?_)
  refine JL_op rfl (op_read rfl rfl (r_extract (v := .agg #[.bool r_10.1.Yes, v_19, v_21]) rfl rfl) ?_)
  refine JL_op rfl (op_read rfl rfl (r_extract (v := .int .i64 r_10.2) rfl rfl) ?_)
  refine JL_op rfl (op_alloc (cs := [.bool false, .slice none 0 0, .slice none 0 0]) rfl Try.pi35 rfl rfl ?_)
  intro c_23
  refine JL_op rfl (op_store_priv (vs := [.bool r_10.1.Yes, v_19, v_21]) (cs' := [.bool r_10.1.Yes, v_19, v_21]) (PV' := [.cell c_23 [.bool r_10.1.Yes, v_19, v_21] 35, .cell c_8 [.int .i64 goal_2.X, .int .i64 goal_2.Y, .int .i64 goal_2.C] 37]) 0 Try.pi35 rfl rfl rfl ⟨rfl, sl_one h_20, sl_one h_22, trivial⟩ rfl rfl rfl rfl ?_)
  refine JL_op rfl (op_read rfl rfl (r_assign (v := .int .i64 r_10.2) rfl) ?_)
  refine JL_nil ?_
  refine J_then ?_
  refine J_seq ?_
  refine J_region ?_
  refine JL_op rfl (op_read rfl rfl (r_move (v := .int .i64 n_1) rfl) ?_)
  refine JL_op rfl (op_read rfl rfl (r_load_priv (cs' := [.int .i64 goal_2.X, .int .i64 goal_2.Y, .int .i64 goal_2.C]) (v := .agg #[.int .i64 goal_2.X, .int .i64 goal_2.Y, .int .i64 goal_2.C]) 1 Try.pu37 Try.pi37 rfl rfl rfl rfl (by decide) rfl) ?_)
  refine JL_op rfl (op_read rfl rfl (r_move (v := v_6) rfl) ?_)
  refine JL_op rfl (op_call (f := 18) (fn := Try.f18) (args := [.int .i64 n_1, .agg #[.int .i64 goal_2.X, .int .i64 goal_2.Y, .int .i64 goal_2.C], v_6]) (post := diff_Entails_post) rfl rfl rfl Try.func18 Try.pn18 rfl rfl (fun y w hy hs => diff_Entails_ref w _ hs n_1 (.agg #[.int .i64 goal_2.X, .int .i64 goal_2.Y, .int .i64 goal_2.C]) goal_2 (t_Gdiff_Leq_v.2 rfl) v_6 facts_5 (Ty.vmono _ hle_14 h_7) y hy) ?_)
  intro r_25 v_27 s_28 PV_30 hy_26 hle_29 hp_31
  obtain ⟨rfl, rfl⟩ := hp_31
  refine JL_op rfl (op_read rfl rfl (r_move (v := .tuple #[.bool r_25.1, .int .i64 r_25.2]) rfl) ?_)
  refine JL_op rfl (op_read rfl rfl (r_extract (v := .bool r_25.1) rfl rfl) ?_)
  refine JL_op rfl (op_read rfl rfl (r_extract (v := .int .i64 r_25.2) rfl rfl) ?_)
  refine JL_op rfl (op_read rfl rfl (r_assign (v := .bool r_25.1) rfl) ?_)
  refine JL_op rfl (op_read rfl rfl (r_assign (v := .int .i64 r_25.2) rfl) ?_)
  refine JL_nil ?_
  refine J_then ?_
  refine J_seq ?_
  refine J_seq ?_
  refine J_region ?_
  refine JL_op rfl (op_call (f := 9) (fn := Try.f9) (args := []) (post := lychgatelaw05_wakes_post) rfl rfl rfl Try.func9 Try.pn9 rfl rfl (fun y w hy hs => lychgatelaw05_wakes_ref w _ hs  y hy) ?_)
  intro r_32 v_34 s_35 PV_37 hy_33 hle_36 hp_38
  obtain ⟨rfl, rfl⟩ := hp_38
  refine JL_op rfl (op_read rfl rfl (r_not rfl) ?_)
  refine JL_op rfl (op_read rfl rfl (r_move (v := .bool (!r_32)) rfl) ?_)
  refine J_forkL (e := (!r_32)) 4 [(0, .int .i64 n_1), (2, v_6), (4, .pointer (some ⟨c_8, 0, none⟩)), (7, .pointer (some ⟨c_23, 0, none⟩)), (8, .int .i64 r_10.2), (9, .bool r_25.1), (31, .bool (!r_32 || decide (r_10.2 ≠ r_25.2)))] (fun hc_39 hk => ?_) (fun hc_39 hk => ?_) (fun b => ?_)
  · refine JL_skip rfl rfl hc_39 rfl rfl ?_
    refine JL_skip rfl rfl hc_39 rfl rfl ?_
    refine JL_skip rfl rfl hc_39 rfl rfl ?_
    refine JL_op rfl (op_read rfl rfl (r_pick_t (v := .bool true) rfl hc_39 rfl) ?_)
    refine J_prune [(0, .int .i64 n_1), (2, v_6), (4, .pointer (some ⟨c_8, 0, none⟩)), (7, .pointer (some ⟨c_23, 0, none⟩)), (8, .int .i64 r_10.2), (9, .bool r_25.1), (31, .bool (!r_32 || decide (r_10.2 ≠ r_25.2)))] ⟨rfl, rfl, rfl, rfl, rfl, rfl, (by show Value.bool _ = Value.bool _; rw [hc_39]; rfl), trivial⟩ hk
  · refine JL_opg rfl rfl hc_39 (op_read rfl rfl (r_move (v := .int .i64 r_10.2) rfl) ?_)
    refine JL_opg rfl rfl hc_39 (op_read rfl rfl (r_move (v := .int .i64 r_25.2) rfl) ?_)
    refine JL_opg rfl rfl hc_39 (op_read rfl rfl (r_neq rfl rfl) ?_)
    refine JL_op rfl (op_read rfl rfl (r_pick_f (v := .bool (decide (r_10.2 ≠ r_25.2))) rfl hc_39 rfl) ?_)
    refine J_prune [(0, .int .i64 n_1), (2, v_6), (4, .pointer (some ⟨c_8, 0, none⟩)), (7, .pointer (some ⟨c_23, 0, none⟩)), (8, .int .i64 r_10.2), (9, .bool r_25.1), (31, .bool (!r_32 || decide (r_10.2 ≠ r_25.2)))] ⟨rfl, rfl, rfl, rfl, rfl, rfl, (by show Value.bool _ = Value.bool _; rw [hc_39]; rfl), trivial⟩ hk
  · refine JL_nil ?_
    refine J_then ?_
    refine J_cond rfl (fun hc_40 => ?_) (fun hc_40 => ?_)
    · refine J_seq ?_
      refine J_region ?_
      refine JL_op rfl (op_read rfl rfl (r_assign (v := .bool false) rfl) ?_)
      refine JL_nil ?_
      refine J_then ?_
      refine J_ret ?_
      refine J_then_ret ?_
      refine J_select (PV' := []) [] (by decide) rfl ?_
      exact J_return1 rfl ⟨rfl, rfl⟩
    · refine J_skip ?_
      refine J_then ?_
      refine J_seq ?_
      refine J_seq ?_
      refine J_region ?_
      refine JL_op rfl (op_read rfl rfl (r_move (v := .int .i64 r_10.2) rfl) ?_)
      refine JL_op rfl (op_read rfl rfl (r_neq rfl rfl) ?_)
      refine JL_nil ?_
      refine J_then ?_
      refine J_cond rfl (fun hc_41 => ?_) (fun hc_41 => ?_)
      · refine J_seq ?_
        refine J_region ?_
        refine JL_op rfl (op_read rfl rfl (r_fieldAddr (r := ⟨c_23, 0, none⟩) Try.pu35 (f := Try.pf35.getD 0 default) rfl Try.pi4 (by decide) rfl rfl) ?_)
        refine JL_op rfl (op_read rfl rfl (r_load_priv (cs' := [.bool r_10.1.Yes]) (v := .bool r_10.1.Yes) 0 Try.pu4 Try.pi4 rfl rfl rfl rfl (by decide) rfl) ?_)
        refine JL_op rfl (op_read rfl rfl (r_not rfl) ?_)
        refine JL_op rfl (op_read rfl rfl (r_move (v := .bool (!r_10.1.Yes)) rfl) ?_)
        refine J_forkL (e := (!r_10.1.Yes)) 9 [(46, .bool (!r_10.1.Yes && decide ((IntKind.i64.wrap (r_10.1.Cycle.len + r_10.1.Numbers.len)) = 0)))] (fun hc_42 hk => ?_) (fun hc_42 hk => ?_) (fun b => ?_)
        · refine JL_opg rfl rfl hc_42 (op_read rfl rfl (r_fieldAddr (r := ⟨c_23, 1, none⟩) Try.pu35 (f := Try.pf35.getD 1 default) rfl Try.pi22 (by decide) rfl rfl) ?_)
          refine JL_opg rfl rfl hc_42 (op_read rfl rfl (r_load_priv (cs' := [v_19]) (v := v_19) 0 Try.pu22 Try.pi22 rfl rfl rfl rfl (by decide) rfl) ?_)
          refine JL_opg rfl rfl hc_42 (op_read rfl rfl (r_len_frozen (v := v_19) Try.pu22 rfl (Ty.vmono _ (FS.le.trans hle_29 hle_36) h_20)) ?_)
          refine JL_opg rfl rfl hc_42 (op_read rfl rfl (r_fieldAddr (r := ⟨c_23, 2, none⟩) Try.pu35 (f := Try.pf35.getD 2 default) rfl Try.pi30 (by decide) rfl rfl) ?_)
          refine JL_opg rfl rfl hc_42 (op_read rfl rfl (r_load_priv (cs' := [v_21]) (v := v_21) 0 Try.pu30 Try.pi30 rfl rfl rfl rfl (by decide) rfl) ?_)
          refine JL_opg rfl rfl hc_42 (op_read rfl rfl (r_len_frozen (v := v_21) Try.pu30 rfl (Ty.vmono _ (FS.le.trans hle_29 hle_36) h_22)) ?_)
          refine JL_opg rfl rfl hc_42 (op_read rfl rfl (r_add rfl rfl) ?_)
          refine JL_opg rfl rfl hc_42 (op_read rfl rfl (r_eql rfl rfl) ?_)
          refine JL_op rfl (op_read rfl rfl (r_pick_t (v := .bool (decide ((IntKind.i64.wrap (r_10.1.Cycle.len + r_10.1.Numbers.len)) = 0))) rfl hc_42 rfl) ?_)
          refine J_prune [(46, .bool (!r_10.1.Yes && decide ((IntKind.i64.wrap (r_10.1.Cycle.len + r_10.1.Numbers.len)) = 0)))] ⟨(by show Value.bool _ = Value.bool _; rw [hc_42]; rfl), trivial⟩ hk
        · refine JL_skip rfl rfl hc_42 rfl rfl ?_
          refine JL_skip rfl rfl hc_42 rfl rfl ?_
          refine JL_skip rfl rfl hc_42 rfl rfl ?_
          refine JL_skip rfl rfl hc_42 rfl rfl ?_
          refine JL_skip rfl rfl hc_42 rfl rfl ?_
          refine JL_skip rfl rfl hc_42 rfl rfl ?_
          refine JL_skip rfl rfl hc_42 rfl rfl ?_
          refine JL_skip rfl rfl hc_42 rfl rfl ?_
          refine JL_op rfl (op_read rfl rfl (r_pick_f (v := .bool false) rfl hc_42 rfl) ?_)
          refine J_prune [(46, .bool (!r_10.1.Yes && decide ((IntKind.i64.wrap (r_10.1.Cycle.len + r_10.1.Numbers.len)) = 0)))] ⟨(by show Value.bool _ = Value.bool _; rw [hc_42]; rfl), trivial⟩ hk
        · refine JL_op rfl (op_read rfl rfl (r_assign (v := .bool (!r_10.1.Yes && decide ((IntKind.i64.wrap (r_10.1.Cycle.len + r_10.1.Numbers.len)) = 0))) rfl) ?_)
          refine JL_nil ?_
          refine J_then ?_
          refine J_ret ?_
          refine J_then_ret ?_
          refine J_select (PV' := []) [] (by decide) rfl ?_
          exact J_return1 rfl ⟨rfl, rfl⟩
      · refine J_skip ?_
        refine J_then ?_
        refine J_seq ?_
        refine J_region ?_
        refine JL_op rfl (op_read rfl rfl (r_fieldAddr (r := ⟨c_23, 0, none⟩) Try.pu35 (f := Try.pf35.getD 0 default) rfl Try.pi4 (by decide) rfl rfl) ?_)
        refine JL_op rfl (op_read rfl rfl (r_load_priv (cs' := [.bool r_10.1.Yes]) (v := .bool r_10.1.Yes) 0 Try.pu4 Try.pi4 rfl rfl rfl rfl (by decide) rfl) ?_)
        refine JL_op rfl (op_read rfl rfl (r_move (v := .bool r_25.1) rfl) ?_)
        refine JL_op rfl (op_read rfl rfl (r_beql Try.pu4 rfl rfl) ?_)
        refine JL_op rfl (op_read rfl rfl (r_move (v := .bool (r_10.1.Yes == r_25.1)) rfl) ?_)
        refine J_forkLB (e := (r_10.1.Yes == r_25.1)) 6 (fun (b_44 : Bool) L τ PV => s_35.le τ ∧ L = [(57, .bool b_44)] ∧ PV = [.cell c_23 [.bool r_10.1.Yes, v_19, v_21] 35, .cell c_8 [.int .i64 goal_2.X, .int .i64 goal_2.Y, .int .i64 goal_2.C] 37]) (fun hc_43 hk => ?_) (fun hc_43 hk => ?_) ?_
        · refine JL_opg rfl rfl hc_43 (op_read rfl rfl (r_load_priv (cs' := [.bool r_10.1.Yes, v_19, v_21]) (v := .agg #[.bool r_10.1.Yes, v_19, v_21]) 0 Try.pu35 Try.pi35 rfl rfl rfl rfl (by decide) rfl) ?_)
          refine JL_opg rfl rfl hc_43 (op_read rfl rfl (r_move (v := .int .i64 n_1) rfl) ?_)
          refine JL_opg rfl rfl hc_43 (op_read rfl rfl (r_load_priv (cs' := [.int .i64 goal_2.X, .int .i64 goal_2.Y, .int .i64 goal_2.C]) (v := .agg #[.int .i64 goal_2.X, .int .i64 goal_2.Y, .int .i64 goal_2.C]) 1 Try.pu37 Try.pi37 rfl rfl rfl rfl (by decide) rfl) ?_)
          refine JL_opg rfl rfl hc_43 (op_read rfl rfl (r_move (v := v_6) rfl) ?_)
          refine J_assoc ?_
          refine JL_opg rfl rfl hc_43 (op_call (f := 15) (fn := Try.f15) (args := [.agg #[.bool r_10.1.Yes, v_19, v_21], .int .i64 n_1, .agg #[.int .i64 goal_2.X, .int .i64 goal_2.Y, .int .i64 goal_2.C], v_6]) (post := cert_Check_post) rfl rfl rfl Try.func15 Try.pn15 rfl rfl (fun y w hy hs => cert_Check_ref w _ hs (.agg #[.bool r_10.1.Yes, v_19, v_21]) r_10.1 (t_Gcert_Proof_v.2 ⟨_, _, rfl, (Ty.vmono _ (FS.le.trans hle_29 hle_36) h_20), (Ty.vmono _ (FS.le.trans hle_29 hle_36) h_22)⟩) n_1 (.agg #[.int .i64 goal_2.X, .int .i64 goal_2.Y, .int .i64 goal_2.C]) goal_2 (t_Gdiff_Leq_v.2 rfl) v_6 facts_5 (Ty.vmono _ (FS.le.trans (FS.le.trans hle_14 hle_29) hle_36) h_7) y hy) ?_)
          intro r_45 v_47 s_48 PV_50 hy_46 hle_49 hp_51
          obtain ⟨rfl, rfl⟩ := hp_51
          refine JL_op rfl (op_read rfl rfl (r_pick_t (v := .bool r_45) rfl hc_43 rfl) ?_)
          refine J_prune _ ?_ fun b => hk r_45 _ b _ _ ⟨hle_49, rfl, rfl⟩
          exact ⟨rfl, trivial⟩
        · refine JL_skip rfl rfl hc_43 rfl rfl ?_
          refine JL_skip rfl rfl hc_43 rfl rfl ?_
          refine JL_skip rfl rfl hc_43 rfl rfl ?_
          refine JL_skip rfl rfl hc_43 rfl rfl ?_
          refine JL_skip rfl rfl hc_43 rfl rfl ?_
          refine JL_op rfl (op_read rfl rfl (r_pick_f (v := .bool false) rfl hc_43 rfl) ?_)
          refine J_prune _ ?_ fun b => hk false _ b _ _ ⟨(FS.le.refl _), rfl, rfl⟩
          exact ⟨rfl, trivial⟩
        · rintro b_44 _ b s_52 _ ⟨hle_53, rfl, rfl⟩
          refine JL_op rfl (op_read rfl rfl (r_assign (v := .bool b_44) rfl) ?_)
          refine JL_nil ?_
          refine J_then ?_
          refine J_ret ?_
          refine J_select (PV' := []) [] (by decide) rfl ?_
          exact J_return1 rfl ⟨rfl, rfl⟩
def lychgateref04_Table_post (r : (Sl Int) × Bool) (σ : FS) (PV : List Priv) (v : Value) : Prop :=
  ∃ v0 : Value, v = .tuple #[v0, .bool r.2] ∧ PV = [.row Int (tInt .i64) 2 v0 r.1]
set_option maxRecDepth 100000 in
theorem lychgateref04_Table_ref (w : World) (σ : FS) (hs : σ.sub w) (n_1 : Int) (v_3 : Value) (facts_2 : Sl Glychgateref04_Leq) (h_4 : (tSl t_Glychgateref04_Leq).vrel σ v_3 facts_2) (r : (Sl Int) × Bool) (hr : lychgateref04_Table n_1 facts_2 = some r) : Does Try.prog 26 [.int .i64 n_1, v_3] w σ (lychgateref04_Table_post r) := by
  unfold lychgateref04_Table at hr
  refine does_of_J Try.func26 rfl (n := 151) rfl rfl hs hr ?_
  refine J_seq ?_
  refine J_region ?_
  refine JL_op rfl (op_read rfl rfl (r_assign (v := .slice none 0 0) rfl) ?_)
  refine JL_op rfl (op_read rfl rfl (r_assign (v := .bool false) rfl) ?_)
  refine JL_nil ?_
  refine J_then ?_
  refine J_seq ?_
  refine J_region ?_
  refine JL_op rfl (op_read rfl rfl (r_move (v := .int .i64 n_1) rfl) ?_)
  refine JL_op rfl (op_read rfl rfl (r_move (v := .int .i64 n_1) rfl) ?_)
  refine JL_op rfl (op_read rfl rfl (r_mul rfl rfl) ?_)
  refine JL_op rfl (op_make (T := (tInt .i64)) (q := 0) rfl Try.pu30 Try.pi2 rfl rfl rfl rfl rfl (fun σ => rfl) ?_)
  intro s_5 v_7 hm_6
  refine JL_op rfl (op_read rfl rfl (r_assign (v := v_7) rfl) ?_)
  refine JL_nil ?_
  refine J_then ?_
  refine J_seq ?_
  refine J_seq ?_
  refine J_region ?_
  refine JL_op rfl (op_read rfl rfl (r_assign (v := .int .i64 0) rfl) ?_)
  refine JL_nil ?_
  refine J_then ?_
  refine J_block ?_
  refine J_loop (fun (y : (Sl Int) × Int) L τ PV => ∃ (w0 : Value), σ.le τ ∧ L = [(0, .int .i64 n_1), (1, v_3), (6, w0), (7, .int .i64 y.2)] ∧ PV = [.row Int (tInt .i64) 2 w0 y.1]) (fun (y : (Sl Int)) e L τ PV => e = .exit 0 ∧ (∃ (w0 : Value), σ.le τ ∧ L = [(0, .int .i64 n_1), (1, v_3), (6, w0)] ∧ PV = [.row Int (tInt .i64) 2 w0 y])) _ ?_ ⟨v_7, (FS.le.refl _), rfl, rfl⟩ ?_ ?_
  · exact ⟨rfl, rfl, rfl, rfl, trivial⟩
  · rintro x_9 _ b s_10 _ ⟨v_12, hle_11, rfl, rfl⟩
    unfold lychgateref04_Table_L1
    refine J_seq ?_
    refine J_seq ?_
    refine J_region ?_
    refine JL_op rfl (op_read rfl rfl (r_move (v := .int .i64 x_9.2) rfl) ?_)
    refine JL_op rfl (op_read rfl rfl (r_move (v := .int .i64 n_1) rfl) ?_)
    refine JL_op rfl (op_read rfl rfl (r_move (v := .int .i64 n_1) rfl) ?_)
    refine JL_op rfl (op_read rfl rfl (r_mul rfl rfl) ?_)
    refine JL_op rfl (op_read rfl rfl (r_lss rfl rfl) ?_)
    refine JL_nil ?_
    refine J_then ?_
    refine J_cond rfl (fun hc_13 => ?_) (fun hc_13 => ?_)
    · refine J_skip ?_
      refine J_then ?_
      refine J_seq ?_
      refine J_cut (fun (y : (Sl Int)) e L τ PV => e = .normal ∧ (∃ (w0 : Value), s_10.le τ ∧ L = [(0, .int .i64 n_1), (1, v_3), (6, w0), (7, .int .i64 x_9.2)] ∧ PV = [.row Int (tInt .i64) 2 w0 y])) ?_ ?_
      · refine J_block ?_
        refine J_seq ?_
        refine J_region ?_
        refine JL_op rfl (op_read rfl rfl (r_move (v := v_12) rfl) ?_)
        refine JL_op rfl (op_read rfl rfl (r_move (v := .int .i64 x_9.2) rfl) ?_)
        refine J_bind fun x_14 hx_15 => ?_
        refine JL_op rfl (op_read rfl rfl (r_index_row (v := v_12) (T := (tInt .i64)) (q := x_14) 0 Try.pu30 Try.pi2 rfl rfl rfl rfl hx_15) ?_)
        refine JL_op rfl (op_store_row (v := v_12) (u := .int .i64 4611686018427387904) (T := (tInt .i64)) (q := 4611686018427387904) (i := x_9.2) 0 Try.pi2 rfl rfl rfl (tInt_v.2 rfl) rfl ?_)
        intro s_16 hs_17
        refine JL_nil ?_
        refine J_then ?_
        refine J_seq ?_
        refine J_region ?_
        refine JL_op rfl (op_read rfl rfl (r_move (v := .int .i64 x_9.2) rfl) ?_)
        refine JL_op rfl (op_read rfl rfl (r_move (v := .int .i64 n_1) rfl) ?_)
        refine JL_op rfl (op_read rfl rfl (r_add rfl rfl) ?_)
        refine J_bind fun q_18 hq_19 => ?_
        refine JL_op rfl (op_read rfl rfl (r_rem rfl rfl hq_19) ?_)
        refine JL_op rfl (op_read rfl rfl (r_eql rfl rfl) ?_)
        refine JL_nil ?_
        refine J_then ?_
        refine J_cut (fun (y : (Sl Int)) e L τ PV => e = .normal ∧ (∃ (w0 : Value), s_10.le τ ∧ L = [(0, .int .i64 n_1), (1, v_3), (6, w0), (7, .int .i64 x_9.2)] ∧ PV = [.row Int (tInt .i64) 2 w0 y])) ?_ ?_
        · refine J_cond rfl (fun hc_20 => ?_) (fun hc_20 => ?_)
          · refine J_region ?_
            refine JL_op rfl (op_read rfl rfl (r_move (v := v_12) rfl) ?_)
            refine JL_op rfl (op_read rfl rfl (r_move (v := .int .i64 x_9.2) rfl) ?_)
            refine J_bind fun x_21 hx_22 => ?_
            refine JL_op rfl (op_read rfl rfl (r_index_row (v := v_12) (T := (tInt .i64)) (q := x_21) 0 Try.pu30 Try.pi2 rfl rfl rfl rfl hx_22) ?_)
            refine JL_op rfl (op_store_row (v := v_12) (u := .int .i64 0) (T := (tInt .i64)) (q := 0) (i := x_9.2) 0 Try.pi2 rfl rfl rfl (tInt_v.2 rfl) rfl ?_)
            intro s_23 hs_24
            refine JL_nil ?_
            refine J_cut_end _ ?_ ⟨rfl, v_12, (FS.le.refl _), rfl, rfl⟩ trivial
            exact ⟨rfl, rfl, rfl, rfl, trivial⟩
          · refine J_skip ?_
            refine J_cut_end _ ?_ ⟨rfl, v_12, (FS.le.refl _), rfl, rfl⟩ trivial
            exact ⟨rfl, rfl, rfl, rfl, trivial⟩
        · rintro y_25 _ _ b s_26 _ ⟨rfl, ⟨v_28, hle_27, rfl, rfl⟩⟩
          refine J_in_normal ?_
          refine J_cut_end _ ?_ ⟨rfl, v_28, hle_27, rfl, rfl⟩ trivial
          exact ⟨rfl, rfl, rfl, rfl, trivial⟩
      · rintro y_29 _ _ b s_30 _ ⟨rfl, ⟨v_32, hle_31, rfl, rfl⟩⟩
        refine J_then ?_
        refine J_region ?_
        refine JL_op rfl (op_read rfl rfl (r_move (v := .int .i64 x_9.2) rfl) ?_)
        refine JL_op rfl (op_read rfl rfl (r_add rfl rfl) ?_)
        refine JL_op rfl (op_read rfl rfl (r_assign (v := .int .i64 (IntKind.i64.wrap (x_9.2 + 1))) rfl) ?_)
        refine JL_nil ?_
        refine J_next _ ?_ ⟨v_32, (FS.le.trans hle_11 hle_31), rfl, rfl⟩
        exact ⟨rfl, rfl, rfl, rfl, trivial⟩
    · refine J_exit ?_
      refine J_then_exit ?_
      refine J_done trivial _ ?_ ⟨rfl, v_12, hle_11, rfl, rfl⟩
      exact ⟨rfl, rfl, rfl, trivial⟩
  · rintro y_33 _ _ b s_34 _ ⟨rfl, ⟨v_36, hle_35, rfl, rfl⟩⟩
    refine J_in_exit ?_
    refine J_then ?_
    refine J_seq ?_
    refine J_seq ?_
    refine J_region ?_
    refine JL_op rfl (op_read rfl rfl (r_assign (v := .int .i64 0) rfl) ?_)
    refine JL_nil ?_
    refine J_then ?_
    refine J_block ?_
    refine J_loop (fun (y : (Sl Int) × Int) L τ PV => ∃ (w0 : Value), s_34.le τ ∧ L = [(0, .int .i64 n_1), (1, v_3), (6, w0), (8, .int .i64 y.2)] ∧ PV = [.row Int (tInt .i64) 2 w0 y.1]) (fun (y : (Sl Int)) e L τ PV => e = .exit 2 ∧ (∃ (w0 : Value), s_34.le τ ∧ L = [(0, .int .i64 n_1), (6, w0)] ∧ PV = [.row Int (tInt .i64) 2 w0 y])) _ ?_ ⟨v_36, (FS.le.refl _), rfl, rfl⟩ ?_ ?_
    · exact ⟨rfl, rfl, rfl, rfl, trivial⟩
    · rintro x_37 _ b s_38 _ ⟨v_40, hle_39, rfl, rfl⟩
      unfold lychgateref04_Table_L2
      refine J_seq ?_
      refine J_seq ?_
      refine J_region ?_
      refine JL_op rfl (op_read rfl rfl (r_move (v := .int .i64 x_37.2) rfl) ?_)
      refine JL_op rfl (op_read rfl rfl (r_move (v := v_3) rfl) ?_)
      refine JL_op rfl (op_read rfl rfl (r_len_frozen (v := v_3) Try.pu27 rfl (Ty.vmono _ (FS.le.trans hle_35 hle_39) h_4)) ?_)
      refine JL_op rfl (op_read rfl rfl (r_lss rfl rfl) ?_)
      refine JL_nil ?_
      refine J_then ?_
      refine J_cond rfl (fun hc_41 => ?_) (fun hc_41 => ?_)
      · refine J_skip ?_
        refine J_then ?_
        refine J_seq ?_
        refine J_cut (fun (y : (Sl Int)) e L τ PV => e = .normal ∧ (∃ (w0 : Value), s_38.le τ ∧ L = [(0, .int .i64 n_1), (1, v_3), (6, w0), (8, .int .i64 x_37.2)] ∧ PV = [.row Int (tInt .i64) 2 w0 y])) ?_ ?_
        · refine J_block ?_
          refine J_seq ?_
          refine J_region_any [.row Int (tInt .i64) 2 v_40 x_37.1] Try.mixed (by kernel_rfl) fun hns => ?_
          have hS_42 : HeldOK s_38 [.row Int (tInt .i64) 2 v_40 x_37.1] s_38 [.row Int (tInt .i64) 2 v_40 x_37.1] := HeldOK.same ⟨⟨0, rfl⟩, trivial⟩
          refine JA_take 0 rfl hns (by kernel_rfl) (by kernel_rfl) hS_42 rfl rfl rfl (r_move (v := v_3) rfl) ?_
          refine JA_take 1 rfl hns (by kernel_rfl) (by kernel_rfl) hS_42 rfl rfl rfl (r_move (v := .int .i64 x_37.2) rfl) ?_
          refine J_bind fun x_43 hx_44 => ?_
          refine JA_take 2 rfl hns (by kernel_rfl) (by kernel_rfl) hS_42 rfl rfl rfl (r_index_frozen (v := v_3) (T := t_Glychgateref04_Leq) (q := x_43) Try.pu27 Try.pi40 rfl rfl rfl (Ty.vmono _ (FS.le.trans hle_35 hle_39) h_4) hx_44) ?_
          refine JA_take 3 rfl hns (by kernel_rfl) (by kernel_rfl) hS_42 rfl rfl rfl (r_fieldAddr (r := elemAddr v_3 ((x_37.2).toNat * t_Glychgateref04_Leq.size + 0)) Try.pu40 (f := Try.pf40.getD 0 default) rfl Try.pi3 (by decide) rfl (elemAddr_add _ _ _)) ?_
          refine JA_takes 4 rfl hns (by kernel_rfl) (by kernel_rfl) hS_42 rfl rfl rfl (l_elem_frozen (v := v_3) (T := t_Glychgateref04_Leq) (Tf := (tInt .i64)) (q := x_43) (i := x_37.2) (off := 0) Try.pu3 Try.pi3 rfl rfl rfl (Ty.vmono _ (FS.le.trans hle_35 hle_39) h_4) hx_44 f_Glychgateref04_Leq_X (by decide)) ?_
          intro v_45 h_46
          obtain rfl := tInt_v.1 h_46
          refine JA_take 5 rfl hns (by kernel_rfl) (by kernel_rfl) hS_42 rfl rfl rfl (r_move (v := .int .i64 n_1) rfl) ?_
          refine JA_take 6 rfl hns (by kernel_rfl) (by kernel_rfl) hS_42 rfl rfl rfl (r_mul rfl rfl) ?_
          refine JA_take 7 rfl hns (by kernel_rfl) (by kernel_rfl) hS_42 rfl rfl rfl (r_move (v := v_3) rfl) ?_
          refine JA_take 8 rfl hns (by kernel_rfl) (by kernel_rfl) hS_42 rfl rfl rfl (r_move (v := .int .i64 x_37.2) rfl) ?_
          refine J_bind fun x_47 hx_48 => ?_
          refine JA_take 9 rfl hns (by kernel_rfl) (by kernel_rfl) hS_42 rfl rfl rfl (r_index_frozen (v := v_3) (T := t_Glychgateref04_Leq) (q := x_47) Try.pu27 Try.pi40 rfl rfl rfl (Ty.vmono _ (FS.le.trans hle_35 hle_39) h_4) hx_48) ?_
          refine JA_take 10 rfl hns (by kernel_rfl) (by kernel_rfl) hS_42 rfl rfl rfl (r_fieldAddr (r := elemAddr v_3 ((x_37.2).toNat * t_Glychgateref04_Leq.size + 1)) Try.pu40 (f := Try.pf40.getD 1 default) rfl Try.pi3 (by decide) rfl (elemAddr_add _ _ _)) ?_
          refine JA_takes 11 rfl hns (by kernel_rfl) (by kernel_rfl) hS_42 rfl rfl rfl (l_elem_frozen (v := v_3) (T := t_Glychgateref04_Leq) (Tf := (tInt .i64)) (q := x_47) (i := x_37.2) (off := 1) Try.pu3 Try.pi3 rfl rfl rfl (Ty.vmono _ (FS.le.trans hle_35 hle_39) h_4) hx_48 f_Glychgateref04_Leq_Y (by decide)) ?_
          intro v_49 h_50
          obtain rfl := tInt_v.1 h_50
          refine JA_take 12 rfl hns (by kernel_rfl) (by kernel_rfl) hS_42 rfl rfl rfl (r_add rfl rfl) ?_
          refine JA_take 13 rfl hns (by kernel_rfl) (by kernel_rfl) hS_42 rfl rfl rfl (r_assign (v := .int .i64 (IntKind.i64.wrap ((IntKind.i64.wrap (x_43.X * n_1)) + x_47.Y))) rfl) ?_
          refine JA_done (by kernel_rfl) ?_
          refine J_then ?_
          refine J_seq ?_
          refine J_region_any [.row Int (tInt .i64) 2 v_40 x_37.1] Try.mixed (by kernel_rfl) fun hns => ?_
          have hS_51 : HeldOK s_38 [.row Int (tInt .i64) 2 v_40 x_37.1] s_38 [.row Int (tInt .i64) 2 v_40 x_37.1] := HeldOK.same ⟨⟨0, rfl⟩, trivial⟩
          refine JA_take 0 rfl hns (by kernel_rfl) (by kernel_rfl) hS_51 rfl rfl rfl (r_move (v := v_3) rfl) ?_
          refine JA_take 1 rfl hns (by kernel_rfl) (by kernel_rfl) hS_51 rfl rfl rfl (r_move (v := .int .i64 x_37.2) rfl) ?_
          refine J_bind fun x_52 hx_53 => ?_
          refine JA_take 2 rfl hns (by kernel_rfl) (by kernel_rfl) hS_51 rfl rfl rfl (r_index_frozen (v := v_3) (T := t_Glychgateref04_Leq) (q := x_52) Try.pu27 Try.pi40 rfl rfl rfl (Ty.vmono _ (FS.le.trans hle_35 hle_39) h_4) hx_53) ?_
          refine JA_take 3 rfl hns (by kernel_rfl) (by kernel_rfl) hS_51 rfl rfl rfl (r_fieldAddr (r := elemAddr v_3 ((x_37.2).toNat * t_Glychgateref04_Leq.size + 2)) Try.pu40 (f := Try.pf40.getD 2 default) rfl Try.pi2 (by decide) rfl (elemAddr_add _ _ _)) ?_
          refine JA_takes 4 rfl hns (by kernel_rfl) (by kernel_rfl) hS_51 rfl rfl rfl (l_elem_frozen (v := v_3) (T := t_Glychgateref04_Leq) (Tf := (tInt .i64)) (q := x_52) (i := x_37.2) (off := 2) Try.pu2 Try.pi2 rfl rfl rfl (Ty.vmono _ (FS.le.trans hle_35 hle_39) h_4) hx_53 f_Glychgateref04_Leq_C (by decide)) ?_
          intro v_54 h_55
          obtain rfl := tInt_v.1 h_55
          refine JA_take 5 rfl hns (by kernel_rfl) (by kernel_rfl) hS_51 rfl rfl rfl (r_move (v := v_40) rfl) ?_
          refine JA_take 6 rfl hns (by kernel_rfl) (by kernel_rfl) hS_51 rfl rfl rfl (r_move (v := .int .i64 (IntKind.i64.wrap ((IntKind.i64.wrap (x_43.X * n_1)) + x_47.Y))) rfl) ?_
          refine J_bind fun x_56 hx_57 => ?_
          refine JA_take 7 rfl hns (by kernel_rfl) (by kernel_rfl) hS_51 rfl rfl rfl (r_index_row (v := v_40) (T := (tInt .i64)) (q := x_56) 0 Try.pu30 Try.pi2 rfl rfl rfl rfl hx_57) ?_
          refine JA_takes 8 rfl hns (by kernel_rfl) (by kernel_rfl) hS_51 rfl rfl rfl (l_elem_row (v := v_40) (T := (tInt .i64)) (Tf := (tInt .i64)) (q := x_56) (i := (IntKind.i64.wrap ((IntKind.i64.wrap (x_43.X * n_1)) + x_47.Y))) (off := 0) 0 Try.pu2 Try.pi2 rfl rfl rfl rfl hx_57 (FieldAt.self _) (by decide)) ?_
          intro v_58 h_59
          obtain rfl := tInt_v.1 h_59
          refine JA_take 9 rfl hns (by kernel_rfl) (by kernel_rfl) hS_51 rfl rfl rfl (r_lss rfl rfl) ?_
          refine JA_done (by kernel_rfl) ?_
          refine J_then ?_
          refine J_cut (fun (y : (Sl Int)) e L τ PV => e = .normal ∧ (∃ (w0 : Value), s_38.le τ ∧ L = [(0, .int .i64 n_1), (1, v_3), (6, w0), (8, .int .i64 x_37.2)] ∧ PV = [.row Int (tInt .i64) 2 w0 y])) ?_ ?_
          · refine J_cond rfl (fun hc_60 => ?_) (fun hc_60 => ?_)
            · refine J_region ?_
              refine JL_op rfl (op_read rfl rfl (r_move (v := v_40) rfl) ?_)
              refine JL_op rfl (op_read rfl rfl (r_move (v := .int .i64 (IntKind.i64.wrap ((IntKind.i64.wrap (x_43.X * n_1)) + x_47.Y))) rfl) ?_)
              refine JL_op rfl (op_read rfl rfl (r_move (v := v_3) rfl) ?_)
              refine JL_op rfl (op_read rfl rfl (r_move (v := .int .i64 x_37.2) rfl) ?_)
              refine J_bind fun x_61 hx_62 => ?_
              refine JL_op rfl (op_read rfl rfl (r_index_frozen (v := v_3) (T := t_Glychgateref04_Leq) (q := x_61) Try.pu27 Try.pi40 rfl rfl rfl (Ty.vmono _ (FS.le.trans hle_35 hle_39) h_4) hx_62) ?_)
              refine JL_op rfl (op_read rfl rfl (r_fieldAddr (r := elemAddr v_3 ((x_37.2).toNat * t_Glychgateref04_Leq.size + 2)) Try.pu40 (f := Try.pf40.getD 2 default) rfl Try.pi2 (by decide) rfl (elemAddr_add _ _ _)) ?_)
              refine JL_op rfl (op_reads rfl rfl (l_elem_frozen (v := v_3) (T := t_Glychgateref04_Leq) (Tf := (tInt .i64)) (q := x_61) (i := x_37.2) (off := 2) Try.pu2 Try.pi2 rfl rfl rfl (Ty.vmono _ (FS.le.trans hle_35 hle_39) h_4) hx_62 f_Glychgateref04_Leq_C (by decide)) ?_)
              intro v_63 h_64
              obtain rfl := tInt_v.1 h_64
              refine J_bind fun x_65 hx_66 => ?_
              refine JL_op rfl (op_read rfl rfl (r_index_row (v := v_40) (T := (tInt .i64)) (q := x_65) 0 Try.pu30 Try.pi2 rfl rfl rfl rfl hx_66) ?_)
              refine JL_op rfl (op_store_row (v := v_40) (u := .int .i64 x_61.C) (T := (tInt .i64)) (q := x_61.C) (i := (IntKind.i64.wrap ((IntKind.i64.wrap (x_43.X * n_1)) + x_47.Y))) 0 Try.pi2 rfl rfl rfl (tInt_v.2 rfl) rfl ?_)
              intro s_67 hs_68
              refine JL_nil ?_
              refine J_cut_end _ ?_ ⟨rfl, v_40, (FS.le.refl _), rfl, rfl⟩ trivial
              exact ⟨rfl, rfl, rfl, rfl, trivial⟩
            · refine J_skip ?_
              refine J_cut_end _ ?_ ⟨rfl, v_40, (FS.le.refl _), rfl, rfl⟩ trivial
              exact ⟨rfl, rfl, rfl, rfl, trivial⟩
          · rintro y_69 _ _ b s_70 _ ⟨rfl, ⟨v_72, hle_71, rfl, rfl⟩⟩
            refine J_in_normal ?_
            refine J_cut_end _ ?_ ⟨rfl, v_72, hle_71, rfl, rfl⟩ trivial
            exact ⟨rfl, rfl, rfl, rfl, trivial⟩
        · rintro y_73 _ _ b s_74 _ ⟨rfl, ⟨v_76, hle_75, rfl, rfl⟩⟩
          refine J_then ?_
          refine J_region ?_
          refine JL_op rfl (op_read rfl rfl (r_move (v := .int .i64 x_37.2) rfl) ?_)
          refine JL_op rfl (op_read rfl rfl (r_add rfl rfl) ?_)
          refine JL_op rfl (op_read rfl rfl (r_assign (v := .int .i64 (IntKind.i64.wrap (x_37.2 + 1))) rfl) ?_)
          refine JL_nil ?_
          refine J_next _ ?_ ⟨v_76, (FS.le.trans hle_39 hle_75), rfl, rfl⟩
          exact ⟨rfl, rfl, rfl, rfl, trivial⟩
      · refine J_exit ?_
        refine J_then_exit ?_
        refine J_done trivial _ ?_ ⟨rfl, v_40, hle_39, rfl, rfl⟩
        exact ⟨rfl, rfl, trivial⟩
    · rintro y_77 _ _ b s_78 _ ⟨rfl, ⟨v_80, hle_79, rfl, rfl⟩⟩
      refine J_in_exit ?_
      refine J_then ?_
      refine J_seq ?_
      refine J_seq ?_
      refine J_region ?_
      refine JL_op rfl (op_read rfl rfl (r_assign (v := .int .i64 0) rfl) ?_)
      refine JL_nil ?_
      refine J_then ?_
      refine J_block ?_
      refine J_loop (fun (y : (Sl Int) × Int) L τ PV => ∃ (w0 : Value), s_78.le τ ∧ L = [(0, .int .i64 n_1), (6, w0), (10, .int .i64 y.2)] ∧ PV = [.row Int (tInt .i64) 2 w0 y.1]) (fun (y : W2 ((Sl Int)) Unit) e L τ PV => match y, e with | .a y, e => e = .exit 4 ∧ (∃ (w0 : Value), s_78.le τ ∧ L = [(6, w0)] ∧ PV = [.row Int (tInt .i64) 2 w0 y]) | .b y, e => e = .ret ∧ (s_78.le τ ∧ L = [(4, .slice none 0 0), (5, .bool false)] ∧ PV = [])) _ ?_ ⟨v_80, (FS.le.refl _), rfl, rfl⟩ ?_ ?_
      · exact ⟨rfl, rfl, rfl, trivial⟩
      · rintro x_81 _ b s_82 _ ⟨v_84, hle_83, rfl, rfl⟩
        unfold lychgateref04_Table_L5
        refine J_seq ?_
        refine J_seq ?_
        refine J_region ?_
        refine JL_op rfl (op_read rfl rfl (r_move (v := .int .i64 x_81.2) rfl) ?_)
        refine JL_op rfl (op_read rfl rfl (r_move (v := .int .i64 n_1) rfl) ?_)
        refine JL_op rfl (op_read rfl rfl (r_lss rfl rfl) ?_)
        refine JL_nil ?_
        refine J_then ?_
        refine J_cond rfl (fun hc_85 => ?_) (fun hc_85 => ?_)
        · refine J_skip ?_
          refine J_then ?_
          refine J_seq ?_
          refine J_block ?_
          refine J_seq ?_
          refine J_region ?_
          refine JL_op rfl (op_read rfl rfl (r_assign (v := .int .i64 0) rfl) ?_)
          refine JL_nil ?_
          refine J_then ?_
          refine J_block ?_
          refine J_loop (fun (y : (Sl Int) × Int) L τ PV => ∃ (w0 : Value), s_82.le τ ∧ L = [(0, .int .i64 n_1), (6, w0), (10, .int .i64 x_81.2), (11, .int .i64 y.2)] ∧ PV = [.row Int (tInt .i64) 2 w0 y.1]) (fun (y : W2 ((Sl Int)) Unit) e L τ PV => match y, e with | .a y, e => e = .exit 6 ∧ (∃ (w0 : Value), s_82.le τ ∧ L = [(0, .int .i64 n_1), (6, w0), (10, .int .i64 x_81.2)] ∧ PV = [.row Int (tInt .i64) 2 w0 y]) | .b y, e => e = .ret ∧ (s_82.le τ ∧ L = [(4, .slice none 0 0), (5, .bool false)] ∧ PV = [])) _ ?_ ⟨v_84, (FS.le.refl _), rfl, rfl⟩ ?_ ?_
          · exact ⟨rfl, rfl, rfl, rfl, trivial⟩
          · rintro x_86 _ b s_87 _ ⟨v_89, hle_88, rfl, rfl⟩
            unfold lychgateref04_Table_L4
            refine J_seq ?_
            refine J_seq ?_
            refine J_region ?_
            refine JL_op rfl (op_read rfl rfl (r_move (v := .int .i64 x_86.2) rfl) ?_)
            refine JL_op rfl (op_read rfl rfl (r_move (v := .int .i64 n_1) rfl) ?_)
            refine JL_op rfl (op_read rfl rfl (r_lss rfl rfl) ?_)
            refine JL_nil ?_
            refine J_then ?_
            refine J_cond rfl (fun hc_90 => ?_) (fun hc_90 => ?_)
            · refine J_skip ?_
              refine J_then ?_
              refine J_seq ?_
              refine J_cut (fun (y : W2 ((Sl Int)) Unit) e L τ PV => match y, e with | .a y, e => e = .normal ∧ (∃ (w0 : Value), s_87.le τ ∧ L = [(0, .int .i64 n_1), (6, w0), (10, .int .i64 x_81.2), (11, .int .i64 x_86.2)] ∧ PV = [.row Int (tInt .i64) 2 w0 y]) | .b y, e => e = .ret ∧ (s_87.le τ ∧ L = [(4, .slice none 0 0), (5, .bool false)] ∧ PV = [])) ?_ ?_
              · refine J_block ?_
                refine J_seq ?_
                refine J_seq ?_
                refine J_region ?_
                refine JL_op rfl (op_read rfl rfl (r_move (v := v_89) rfl) ?_)
                refine JL_op rfl (op_read rfl rfl (r_move (v := .int .i64 x_86.2) rfl) ?_)
                refine JL_op rfl (op_read rfl rfl (r_move (v := .int .i64 n_1) rfl) ?_)
                refine JL_op rfl (op_read rfl rfl (r_mul rfl rfl) ?_)
                refine JL_op rfl (op_read rfl rfl (r_move (v := .int .i64 x_81.2) rfl) ?_)
                refine JL_op rfl (op_read rfl rfl (r_add rfl rfl) ?_)
                refine J_bind fun x_91 hx_92 => ?_
                refine JL_op rfl (op_read rfl rfl (r_index_row (v := v_89) (T := (tInt .i64)) (q := x_91) 0 Try.pu30 Try.pi2 rfl rfl rfl rfl hx_92) ?_)
                refine JL_op rfl (op_reads rfl rfl (l_elem_row (v := v_89) (T := (tInt .i64)) (Tf := (tInt .i64)) (q := x_91) (i := (IntKind.i64.wrap ((IntKind.i64.wrap (x_86.2 * n_1)) + x_81.2))) (off := 0) 0 Try.pu2 Try.pi2 rfl rfl rfl rfl hx_92 (FieldAt.self _) (by decide)) ?_)
                intro v_93 h_94
                obtain rfl := tInt_v.1 h_94
                refine JL_op rfl (op_read rfl rfl (r_eql rfl rfl) ?_)
                refine JL_nil ?_
                refine J_then ?_
                refine J_cond rfl (fun hc_95 => ?_) (fun hc_95 => ?_)
                · refine J_exit ?_
                  refine J_then_exit ?_
                  refine J_in_exit ?_
                  refine J_cut_end _ ?_ ⟨rfl, v_89, (FS.le.refl _), rfl, rfl⟩ trivial
                  exact ⟨rfl, rfl, rfl, rfl, trivial⟩
                · refine J_skip ?_
                  refine J_then ?_
                  refine J_seq ?_
                  refine J_seq ?_
                  refine J_region ?_
                  refine JL_op rfl (op_read rfl rfl (r_assign (v := .int .i64 0) rfl) ?_)
                  refine JL_nil ?_
                  refine J_then ?_
                  refine J_block ?_
                  refine J_loop (fun (y : (Sl Int) × Int) L τ PV => ∃ (w0 : Value), s_87.le τ ∧ L = [(0, .int .i64 n_1), (6, w0), (10, .int .i64 x_81.2), (11, .int .i64 x_86.2), (12, .int .i64 y.2)] ∧ PV = [.row Int (tInt .i64) 2 w0 y.1]) (fun (y : (Sl Int)) e L τ PV => e = .exit 8 ∧ (∃ (w0 : Value), s_87.le τ ∧ L = [(0, .int .i64 n_1), (6, w0), (10, .int .i64 x_81.2), (11, .int .i64 x_86.2)] ∧ PV = [.row Int (tInt .i64) 2 w0 y])) _ ?_ ⟨v_89, (FS.le.refl _), rfl, rfl⟩ ?_ ?_
                  · exact ⟨rfl, rfl, rfl, rfl, rfl, trivial⟩
                  · rintro x_96 _ b s_97 _ ⟨v_99, hle_98, rfl, rfl⟩
                    unfold lychgateref04_Table_L3
                    refine J_seq ?_
                    refine J_seq ?_
                    refine J_region ?_
                    refine JL_op rfl (op_read rfl rfl (r_move (v := .int .i64 x_96.2) rfl) ?_)
                    refine JL_op rfl (op_read rfl rfl (r_move (v := .int .i64 n_1) rfl) ?_)
                    refine JL_op rfl (op_read rfl rfl (r_lss rfl rfl) ?_)
                    refine JL_nil ?_
                    refine J_then ?_
                    refine J_cond rfl (fun hc_100 => ?_) (fun hc_100 => ?_)
                    · refine J_skip ?_
                      refine J_then ?_
                      refine J_seq ?_
                      refine J_cut (fun (y : (Sl Int)) e L τ PV => e = .normal ∧ (∃ (w0 : Value), s_97.le τ ∧ L = [(0, .int .i64 n_1), (6, w0), (10, .int .i64 x_81.2), (11, .int .i64 x_86.2), (12, .int .i64 x_96.2)] ∧ PV = [.row Int (tInt .i64) 2 w0 y])) ?_ ?_
                      · refine J_block ?_
                        refine J_seq ?_
                        refine J_seq ?_
                        refine J_region ?_
                        refine JL_op rfl (op_read rfl rfl (r_move (v := v_99) rfl) ?_)
                        refine JL_op rfl (op_read rfl rfl (r_move (v := .int .i64 x_81.2) rfl) ?_)
                        refine JL_op rfl (op_read rfl rfl (r_move (v := .int .i64 n_1) rfl) ?_)
                        refine JL_op rfl (op_read rfl rfl (r_mul rfl rfl) ?_)
                        refine JL_op rfl (op_read rfl rfl (r_move (v := .int .i64 x_96.2) rfl) ?_)
                        refine JL_op rfl (op_read rfl rfl (r_add rfl rfl) ?_)
                        refine J_bind fun x_101 hx_102 => ?_
                        refine JL_op rfl (op_read rfl rfl (r_index_row (v := v_99) (T := (tInt .i64)) (q := x_101) 0 Try.pu30 Try.pi2 rfl rfl rfl rfl hx_102) ?_)
                        refine JL_op rfl (op_reads rfl rfl (l_elem_row (v := v_99) (T := (tInt .i64)) (Tf := (tInt .i64)) (q := x_101) (i := (IntKind.i64.wrap ((IntKind.i64.wrap (x_81.2 * n_1)) + x_96.2))) (off := 0) 0 Try.pu2 Try.pi2 rfl rfl rfl rfl hx_102 (FieldAt.self _) (by decide)) ?_)
                        intro v_103 h_104
                        obtain rfl := tInt_v.1 h_104
                        refine JL_op rfl (op_read rfl rfl (r_eql rfl rfl) ?_)
                        refine JL_nil ?_
                        refine J_then ?_
                        refine J_cond rfl (fun hc_105 => ?_) (fun hc_105 => ?_)
                        · refine J_exit ?_
                          refine J_then_exit ?_
                          refine J_in_exit ?_
                          refine J_cut_end _ ?_ ⟨rfl, v_99, (FS.le.refl _), rfl, rfl⟩ trivial
                          exact ⟨rfl, rfl, rfl, rfl, rfl, trivial⟩
                        · refine J_skip ?_
                          refine J_then ?_
                          refine J_seq ?_
                          refine J_region_any [.row Int (tInt .i64) 2 v_99 x_96.1] Try.mixed (by kernel_rfl) fun hns => ?_
                          have hS_106 : HeldOK s_97 [.row Int (tInt .i64) 2 v_99 x_96.1] s_97 [.row Int (tInt .i64) 2 v_99 x_96.1] := HeldOK.same ⟨⟨0, rfl⟩, trivial⟩
                          refine JA_take 0 rfl hns (by kernel_rfl) (by kernel_rfl) hS_106 rfl rfl rfl (r_move (v := v_99) rfl) ?_
                          refine JA_take 1 rfl hns (by kernel_rfl) (by kernel_rfl) hS_106 rfl rfl rfl (r_move (v := .int .i64 x_86.2) rfl) ?_
                          refine JA_take 2 rfl hns (by kernel_rfl) (by kernel_rfl) hS_106 rfl rfl rfl (r_move (v := .int .i64 n_1) rfl) ?_
                          refine JA_take 3 rfl hns (by kernel_rfl) (by kernel_rfl) hS_106 rfl rfl rfl (r_mul rfl rfl) ?_
                          refine JA_take 4 rfl hns (by kernel_rfl) (by kernel_rfl) hS_106 rfl rfl rfl (r_move (v := .int .i64 x_81.2) rfl) ?_
                          refine JA_take 5 rfl hns (by kernel_rfl) (by kernel_rfl) hS_106 rfl rfl rfl (r_add rfl rfl) ?_
                          refine J_bind fun x_107 hx_108 => ?_
                          refine JA_take 6 rfl hns (by kernel_rfl) (by kernel_rfl) hS_106 rfl rfl rfl (r_index_row (v := v_99) (T := (tInt .i64)) (q := x_107) 0 Try.pu30 Try.pi2 rfl rfl rfl rfl hx_108) ?_
                          refine JA_takes 7 rfl hns (by kernel_rfl) (by kernel_rfl) hS_106 rfl rfl rfl (l_elem_row (v := v_99) (T := (tInt .i64)) (Tf := (tInt .i64)) (q := x_107) (i := (IntKind.i64.wrap ((IntKind.i64.wrap (x_86.2 * n_1)) + x_81.2))) (off := 0) 0 Try.pu2 Try.pi2 rfl rfl rfl rfl hx_108 (FieldAt.self _) (by decide)) ?_
                          intro v_109 h_110
                          obtain rfl := tInt_v.1 h_110
                          refine JA_take 8 rfl hns (by kernel_rfl) (by kernel_rfl) hS_106 rfl rfl rfl (r_move (v := v_99) rfl) ?_
                          refine JA_take 9 rfl hns (by kernel_rfl) (by kernel_rfl) hS_106 rfl rfl rfl (r_move (v := .int .i64 x_81.2) rfl) ?_
                          refine JA_take 10 rfl hns (by kernel_rfl) (by kernel_rfl) hS_106 rfl rfl rfl (r_move (v := .int .i64 n_1) rfl) ?_
                          refine JA_take 11 rfl hns (by kernel_rfl) (by kernel_rfl) hS_106 rfl rfl rfl (r_mul rfl rfl) ?_
                          refine JA_take 12 rfl hns (by kernel_rfl) (by kernel_rfl) hS_106 rfl rfl rfl (r_move (v := .int .i64 x_96.2) rfl) ?_
                          refine JA_take 13 rfl hns (by kernel_rfl) (by kernel_rfl) hS_106 rfl rfl rfl (r_add rfl rfl) ?_
                          refine J_bind fun x_111 hx_112 => ?_
                          refine JA_take 14 rfl hns (by kernel_rfl) (by kernel_rfl) hS_106 rfl rfl rfl (r_index_row (v := v_99) (T := (tInt .i64)) (q := x_111) 0 Try.pu30 Try.pi2 rfl rfl rfl rfl hx_112) ?_
                          refine JA_takes 15 rfl hns (by kernel_rfl) (by kernel_rfl) hS_106 rfl rfl rfl (l_elem_row (v := v_99) (T := (tInt .i64)) (Tf := (tInt .i64)) (q := x_111) (i := (IntKind.i64.wrap ((IntKind.i64.wrap (x_81.2 * n_1)) + x_96.2))) (off := 0) 0 Try.pu2 Try.pi2 rfl rfl rfl rfl hx_112 (FieldAt.self _) (by decide)) ?_
                          intro v_113 h_114
                          obtain rfl := tInt_v.1 h_114
                          refine JA_take 16 rfl hns (by kernel_rfl) (by kernel_rfl) hS_106 rfl rfl rfl (r_add rfl rfl) ?_
                          refine JA_take 17 rfl hns (by kernel_rfl) (by kernel_rfl) hS_106 rfl rfl rfl (r_assign (v := .int .i64 (IntKind.i64.wrap (x_107 + x_111))) rfl) ?_
                          refine JA_done (by kernel_rfl) ?_
                          refine J_then ?_
                          refine J_seq ?_
                          refine J_region ?_
                          refine JL_op rfl (op_read rfl rfl (r_move (v := .int .i64 (IntKind.i64.wrap (x_107 + x_111))) rfl) ?_)
                          refine JL_op rfl (op_read rfl rfl (r_move (v := v_99) rfl) ?_)
                          refine JL_op rfl (op_read rfl rfl (r_move (v := .int .i64 x_86.2) rfl) ?_)
                          refine JL_op rfl (op_read rfl rfl (r_move (v := .int .i64 n_1) rfl) ?_)
                          refine JL_op rfl (op_read rfl rfl (r_mul rfl rfl) ?_)
                          refine JL_op rfl (op_read rfl rfl (r_move (v := .int .i64 x_96.2) rfl) ?_)
                          refine JL_op rfl (op_read rfl rfl (r_add rfl rfl) ?_)
                          refine J_bind fun x_115 hx_116 => ?_
                          refine JL_op rfl (op_read rfl rfl (r_index_row (v := v_99) (T := (tInt .i64)) (q := x_115) 0 Try.pu30 Try.pi2 rfl rfl rfl rfl hx_116) ?_)
                          refine JL_op rfl (op_reads rfl rfl (l_elem_row (v := v_99) (T := (tInt .i64)) (Tf := (tInt .i64)) (q := x_115) (i := (IntKind.i64.wrap ((IntKind.i64.wrap (x_86.2 * n_1)) + x_96.2))) (off := 0) 0 Try.pu2 Try.pi2 rfl rfl rfl rfl hx_116 (FieldAt.self _) (by decide)) ?_)
                          intro v_117 h_118
                          obtain rfl := tInt_v.1 h_118
                          refine JL_op rfl (op_read rfl rfl (r_lss rfl rfl) ?_)
                          refine JL_nil ?_
                          refine J_then ?_
                          refine J_cut (fun (y : (Sl Int)) e L τ PV => e = .normal ∧ (∃ (w0 : Value), s_97.le τ ∧ L = [(0, .int .i64 n_1), (6, w0), (10, .int .i64 x_81.2), (11, .int .i64 x_86.2), (12, .int .i64 x_96.2)] ∧ PV = [.row Int (tInt .i64) 2 w0 y])) ?_ ?_
                          · refine J_cond rfl (fun hc_119 => ?_) (fun hc_119 => ?_)
                            · refine J_region ?_
                              refine JL_op rfl (op_read rfl rfl (r_move (v := v_99) rfl) ?_)
                              refine JL_op rfl (op_read rfl rfl (r_move (v := .int .i64 x_86.2) rfl) ?_)
                              refine JL_op rfl (op_read rfl rfl (r_move (v := .int .i64 n_1) rfl) ?_)
                              refine JL_op rfl (op_read rfl rfl (r_mul rfl rfl) ?_)
                              refine JL_op rfl (op_read rfl rfl (r_move (v := .int .i64 x_96.2) rfl) ?_)
                              refine JL_op rfl (op_read rfl rfl (r_add rfl rfl) ?_)
                              refine JL_op rfl (op_read rfl rfl (r_move (v := .int .i64 (IntKind.i64.wrap (x_107 + x_111))) rfl) ?_)
                              refine J_bind fun x_120 hx_121 => ?_
                              refine JL_op rfl (op_read rfl rfl (r_index_row (v := v_99) (T := (tInt .i64)) (q := x_120) 0 Try.pu30 Try.pi2 rfl rfl rfl rfl hx_121) ?_)
                              refine JL_op rfl (op_store_row (v := v_99) (u := .int .i64 (IntKind.i64.wrap (x_107 + x_111))) (T := (tInt .i64)) (q := (IntKind.i64.wrap (x_107 + x_111))) (i := (IntKind.i64.wrap ((IntKind.i64.wrap (x_86.2 * n_1)) + x_96.2))) 0 Try.pi2 rfl rfl rfl (tInt_v.2 rfl) rfl ?_)
                              intro s_122 hs_123
                              refine JL_nil ?_
                              refine J_cut_end _ ?_ ⟨rfl, v_99, (FS.le.refl _), rfl, rfl⟩ trivial
                              exact ⟨rfl, rfl, rfl, rfl, rfl, trivial⟩
                            · refine J_skip ?_
                              refine J_cut_end _ ?_ ⟨rfl, v_99, (FS.le.refl _), rfl, rfl⟩ trivial
                              exact ⟨rfl, rfl, rfl, rfl, rfl, trivial⟩
                          · rintro y_124 _ _ b s_125 _ ⟨rfl, ⟨v_127, hle_126, rfl, rfl⟩⟩
                            refine J_in_normal ?_
                            refine J_cut_end _ ?_ ⟨rfl, v_127, hle_126, rfl, rfl⟩ trivial
                            exact ⟨rfl, rfl, rfl, rfl, rfl, trivial⟩
                      · rintro y_128 _ _ b s_129 _ ⟨rfl, ⟨v_131, hle_130, rfl, rfl⟩⟩
                        refine J_then ?_
                        refine J_region ?_
                        refine JL_op rfl (op_read rfl rfl (r_move (v := .int .i64 x_96.2) rfl) ?_)
                        refine JL_op rfl (op_read rfl rfl (r_add rfl rfl) ?_)
                        refine JL_op rfl (op_read rfl rfl (r_assign (v := .int .i64 (IntKind.i64.wrap (x_96.2 + 1))) rfl) ?_)
                        refine JL_nil ?_
                        refine J_next _ ?_ ⟨v_131, (FS.le.trans hle_98 hle_130), rfl, rfl⟩
                        exact ⟨rfl, rfl, rfl, rfl, rfl, trivial⟩
                    · refine J_exit ?_
                      refine J_then_exit ?_
                      refine J_done trivial _ ?_ ⟨rfl, v_99, hle_98, rfl, rfl⟩
                      exact ⟨rfl, rfl, rfl, rfl, trivial⟩
                  · rintro y_132 _ _ b s_133 _ ⟨rfl, ⟨v_135, hle_134, rfl, rfl⟩⟩
                    refine J_in_exit ?_
                    refine J_then ?_
                    refine J_seq ?_
                    refine J_region ?_
                    refine JL_op rfl (op_read rfl rfl (r_move (v := v_135) rfl) ?_)
                    refine JL_op rfl (op_read rfl rfl (r_move (v := .int .i64 x_86.2) rfl) ?_)
                    refine JL_op rfl (op_read rfl rfl (r_move (v := .int .i64 n_1) rfl) ?_)
                    refine JL_op rfl (op_read rfl rfl (r_mul rfl rfl) ?_)
                    refine JL_op rfl (op_read rfl rfl (r_move (v := .int .i64 x_86.2) rfl) ?_)
                    refine JL_op rfl (op_read rfl rfl (r_add rfl rfl) ?_)
                    refine J_bind fun x_136 hx_137 => ?_
                    refine JL_op rfl (op_read rfl rfl (r_index_row (v := v_135) (T := (tInt .i64)) (q := x_136) 0 Try.pu30 Try.pi2 rfl rfl rfl rfl hx_137) ?_)
                    refine JL_op rfl (op_reads rfl rfl (l_elem_row (v := v_135) (T := (tInt .i64)) (Tf := (tInt .i64)) (q := x_136) (i := (IntKind.i64.wrap ((IntKind.i64.wrap (x_86.2 * n_1)) + x_86.2))) (off := 0) 0 Try.pu2 Try.pi2 rfl rfl rfl rfl hx_137 (FieldAt.self _) (by decide)) ?_)
                    intro v_138 h_139
                    obtain rfl := tInt_v.1 h_139
                    refine JL_op rfl (op_read rfl rfl (r_lss rfl rfl) ?_)
                    refine JL_nil ?_
                    refine J_then ?_
                    refine J_cond rfl (fun hc_140 => ?_) (fun hc_140 => ?_)
                    · refine J_seq ?_
                      refine J_region ?_
                      refine JL_op rfl (op_read rfl rfl (r_assign (v := .slice none 0 0) rfl) ?_)
                      refine JL_op rfl (op_read rfl rfl (r_assign (v := .bool false) rfl) ?_)
                      refine JL_nil ?_
                      refine J_then ?_
                      refine J_ret ?_
                      refine J_in_ret ?_
                      refine J_select (PV' := []) [] (by decide) rfl ?_
                      refine J_cut_end _ ?_ ⟨rfl, hle_134, rfl, rfl⟩ trivial
                      exact ⟨rfl, rfl, trivial⟩
                    · refine J_skip ?_
                      refine J_in_normal ?_
                      refine J_cut_end _ ?_ ⟨rfl, v_135, hle_134, rfl, rfl⟩ trivial
                      exact ⟨rfl, rfl, rfl, rfl, trivial⟩
              · rintro (y_142 | y_146) e L b τ PV ht
                · obtain ⟨rfl, ht⟩ := ht
                  revert ht; revert PV; revert τ; revert b; revert L
                  rintro _ b s_143 _ ⟨v_145, hle_144, rfl, rfl⟩
                  refine J_then ?_
                  refine J_region ?_
                  refine JL_op rfl (op_read rfl rfl (r_move (v := .int .i64 x_86.2) rfl) ?_)
                  refine JL_op rfl (op_read rfl rfl (r_add rfl rfl) ?_)
                  refine JL_op rfl (op_read rfl rfl (r_assign (v := .int .i64 (IntKind.i64.wrap (x_86.2 + 1))) rfl) ?_)
                  refine JL_nil ?_
                  refine J_next _ ?_ ⟨v_145, (FS.le.trans hle_88 hle_144), rfl, rfl⟩
                  exact ⟨rfl, rfl, rfl, rfl, trivial⟩
                · obtain ⟨rfl, ht⟩ := ht
                  revert ht; revert PV; revert τ; revert b; revert L
                  rintro _ b s_147 _ ⟨hle_148, rfl, rfl⟩
                  refine J_then_ret ?_
                  refine J_done trivial _ ?_ ⟨rfl, (FS.le.trans hle_88 hle_148), rfl, rfl⟩
                  exact ⟨rfl, rfl, trivial⟩
            · refine J_exit ?_
              refine J_then_exit ?_
              refine J_done trivial _ ?_ ⟨rfl, v_89, hle_88, rfl, rfl⟩
              exact ⟨rfl, rfl, rfl, trivial⟩
          · rintro (y_150 | y_154) e L b τ PV ht
            · obtain ⟨rfl, ht⟩ := ht
              revert ht; revert PV; revert τ; revert b; revert L
              rintro _ b s_151 _ ⟨v_153, hle_152, rfl, rfl⟩
              refine J_in_exit ?_
              refine J_in_normal ?_
              refine J_then ?_
              refine J_region ?_
              refine JL_op rfl (op_read rfl rfl (r_move (v := .int .i64 x_81.2) rfl) ?_)
              refine JL_op rfl (op_read rfl rfl (r_add rfl rfl) ?_)
              refine JL_op rfl (op_read rfl rfl (r_assign (v := .int .i64 (IntKind.i64.wrap (x_81.2 + 1))) rfl) ?_)
              refine JL_nil ?_
              refine J_next _ ?_ ⟨v_153, (FS.le.trans hle_83 hle_152), rfl, rfl⟩
              exact ⟨rfl, rfl, rfl, trivial⟩
            · obtain ⟨rfl, ht⟩ := ht
              revert ht; revert PV; revert τ; revert b; revert L
              rintro _ b s_155 _ ⟨hle_156, rfl, rfl⟩
              refine J_in_ret ?_
              refine J_in_ret ?_
              refine J_then_ret ?_
              refine J_done trivial _ ?_ ⟨rfl, (FS.le.trans hle_83 hle_156), rfl, rfl⟩
              exact ⟨rfl, rfl, trivial⟩
        · refine J_exit ?_
          refine J_then_exit ?_
          refine J_done trivial _ ?_ ⟨rfl, v_84, hle_83, rfl, rfl⟩
          exact ⟨rfl, trivial⟩
      · rintro (y_158 | y_162) e L b τ PV ht
        · obtain ⟨rfl, ht⟩ := ht
          revert ht; revert PV; revert τ; revert b; revert L
          rintro _ b s_159 _ ⟨v_161, hle_160, rfl, rfl⟩
          refine J_in_exit ?_
          refine J_then ?_
          refine J_seq ?_
          refine J_region ?_
          refine JL_op rfl (op_read rfl rfl (r_move (v := v_161) rfl) ?_)
          refine JL_op rfl (op_read rfl rfl (r_assign (v := v_161) rfl) ?_)
          refine JL_op rfl (op_read rfl rfl (r_assign (v := .bool true) rfl) ?_)
          refine JL_nil ?_
          refine J_then ?_
          refine J_ret ?_
          exact J_return2 rfl ⟨_, rfl, rfl⟩
        · obtain ⟨rfl, ht⟩ := ht
          revert ht; revert PV; revert τ; revert b; revert L
          rintro _ b s_163 _ ⟨hle_164, rfl, rfl⟩
          refine J_in_ret ?_
          refine J_then_ret ?_
          refine J_nil_row (tInt .i64) 2 ?_
          exact J_return2 rfl ⟨_, rfl, rfl⟩
def lychgateref04_Entails_post (r : Bool) (σ : FS) (PV : List Priv) (v : Value) : Prop :=
  v = .bool r ∧ PV = []
set_option maxRecDepth 100000 in
theorem lychgateref04_Entails_ref (w : World) (σ : FS) (hs : σ.sub w) (n_1 : Int) (v_3 : Value) (goal_2 : Glychgateref04_Leq) (h_4 : t_Glychgateref04_Leq.vrel σ v_3 goal_2) (v_6 : Value) (facts_5 : Sl Glychgateref04_Leq) (h_7 : (tSl t_Glychgateref04_Leq).vrel σ v_6 facts_5) (r : Bool) (hr : lychgateref04_Entails n_1 goal_2 facts_5 = some r) : Does Try.prog 16 [.int .i64 n_1, v_3, v_6] w σ (lychgateref04_Entails_post r) := by
  unfold lychgateref04_Entails at hr
  obtain rfl := t_Glychgateref04_Leq_v.1 h_4
  refine does_of_J Try.func16 rfl (n := 30) rfl rfl hs hr ?_
  refine J_seq ?_
  refine J_region ?_
  refine JL_op rfl (op_box (cs := [.int .i64 goal_2.X, .int .i64 goal_2.Y, .int .i64 goal_2.C]) rfl rfl ?_)
  intro c_8
  refine JL_op rfl (op_read rfl rfl (r_assign (v := .bool false) rfl) ?_)
  refine JL_nil ?_
  refine J_then ?_
  refine J_seq ?_
  refine J_region ?_
  refine JL_op rfl (op_read rfl rfl (r_move (v := .int .i64 n_1) rfl) ?_)
  refine JL_op rfl (op_read rfl rfl (r_move (v := v_6) rfl) ?_)
  refine JL_op rfl (op_call (f := 26) (fn := Try.f26) (args := [.int .i64 n_1, v_6]) (post := lychgateref04_Table_post) rfl rfl rfl Try.func26 Try.pn26 rfl rfl (fun y w hy hs => lychgateref04_Table_ref w _ hs n_1 v_6 facts_5 h_7 y hy) ?_)
  intro r_10 v_12 s_13 PV_15 hy_11 hle_14 hp_16
  obtain ⟨v_17, rfl, rfl⟩ := hp_16
  refine JL_op rfl (op_read rfl rfl (r_move (v := .tuple #[v_17, .bool r_10.2]) rfl) ?_)
  refine JL_op rfl (op_read rfl rfl (r_extract (v := v_17) rfl rfl) ?_)
  refine JL_op rfl (op_read rfl rfl (r_extract (v := .bool r_10.2) rfl rfl) ?_)
  refine JL_op rfl (op_read rfl rfl (r_assign (v := v_17) rfl) ?_)
  refine JL_op rfl (op_read rfl rfl (r_assign (v := .bool r_10.2) rfl) ?_)
  refine JL_nil ?_
  refine J_then ?_
  refine J_seq ?_
  refine J_seq ?_
  refine J_region ?_
  refine JL_op rfl (op_read rfl rfl (r_move (v := .bool r_10.2) rfl) ?_)
  refine JL_op rfl (op_read rfl rfl (r_not rfl) ?_)
  refine JL_nil ?_
  refine J_then ?_
  refine J_cond rfl (fun hc_19 => ?_) (fun hc_19 => ?_)
  · refine J_seq ?_
    refine J_region ?_
    refine JL_op rfl (op_read rfl rfl (r_assign (v := .bool true) rfl) ?_)
    refine JL_nil ?_
    refine J_then ?_
    refine J_ret ?_
    refine J_then_ret ?_
    refine J_select (PV' := []) [] (by decide) rfl ?_
    exact J_return1 rfl ⟨rfl, rfl⟩
  · refine J_skip ?_
    refine J_then ?_
    refine J_seq ?_
    refine J_region_any [.row Int (tInt .i64) 2 v_17 r_10.1, .cell c_8 [.int .i64 goal_2.X, .int .i64 goal_2.Y, .int .i64 goal_2.C] 40] Try.mixed (by kernel_rfl) fun hns => ?_
    have hS_20 : HeldOK s_13 [.row Int (tInt .i64) 2 v_17 r_10.1, .cell c_8 [.int .i64 goal_2.X, .int .i64 goal_2.Y, .int .i64 goal_2.C] 40] s_13 [.row Int (tInt .i64) 2 v_17 r_10.1, .cell c_8 [.int .i64 goal_2.X, .int .i64 goal_2.Y, .int .i64 goal_2.C] 40] := HeldOK.same ⟨⟨0, rfl⟩, ⟨1, rfl⟩, trivial⟩
    refine JA_take 0 rfl hns (by kernel_rfl) (by kernel_rfl) hS_20 rfl rfl rfl (r_move (v := v_17) rfl) ?_
    refine JA_take 1 rfl hns (by kernel_rfl) (by kernel_rfl) hS_20 rfl rfl rfl (r_fieldAddr (r := ⟨c_8, 0, none⟩) Try.pu40 (f := Try.pf40.getD 0 default) rfl Try.pi3 (by decide) rfl rfl) ?_
    refine JA_take 2 rfl hns (by kernel_rfl) (by kernel_rfl) hS_20 rfl rfl rfl (r_load_priv (cs' := [.int .i64 goal_2.X]) (v := .int .i64 goal_2.X) 1 Try.pu3 Try.pi3 rfl rfl rfl rfl (by decide) rfl) ?_
    refine JA_take 3 rfl hns (by kernel_rfl) (by kernel_rfl) hS_20 rfl rfl rfl (r_move (v := .int .i64 n_1) rfl) ?_
    refine JA_take 4 rfl hns (by kernel_rfl) (by kernel_rfl) hS_20 rfl rfl rfl (r_mul rfl rfl) ?_
    refine JA_take 5 rfl hns (by kernel_rfl) (by kernel_rfl) hS_20 rfl rfl rfl (r_fieldAddr (r := ⟨c_8, 1, none⟩) Try.pu40 (f := Try.pf40.getD 1 default) rfl Try.pi3 (by decide) rfl rfl) ?_
    refine JA_take 6 rfl hns (by kernel_rfl) (by kernel_rfl) hS_20 rfl rfl rfl (r_load_priv (cs' := [.int .i64 goal_2.Y]) (v := .int .i64 goal_2.Y) 1 Try.pu3 Try.pi3 rfl rfl rfl rfl (by decide) rfl) ?_
    refine JA_take 7 rfl hns (by kernel_rfl) (by kernel_rfl) hS_20 rfl rfl rfl (r_add rfl rfl) ?_
    refine J_bind fun x_21 hx_22 => ?_
    refine JA_take 8 rfl hns (by kernel_rfl) (by kernel_rfl) hS_20 rfl rfl rfl (r_index_row (v := v_17) (T := (tInt .i64)) (q := x_21) 0 Try.pu30 Try.pi2 rfl rfl rfl rfl hx_22) ?_
    refine JA_takes 9 rfl hns (by kernel_rfl) (by kernel_rfl) hS_20 rfl rfl rfl (l_elem_row (v := v_17) (T := (tInt .i64)) (Tf := (tInt .i64)) (q := x_21) (i := (IntKind.i64.wrap ((IntKind.i64.wrap (goal_2.X * n_1)) + goal_2.Y))) (off := 0) 0 Try.pu2 Try.pi2 rfl rfl rfl rfl hx_22 (FieldAt.self _) (by decide)) ?_
    intro v_23 h_24
    obtain rfl := tInt_v.1 h_24
    refine JA_take 10 rfl hns (by kernel_rfl) (by kernel_rfl) hS_20 rfl rfl rfl (r_fieldAddr (r := ⟨c_8, 2, none⟩) Try.pu40 (f := Try.pf40.getD 2 default) rfl Try.pi2 (by decide) rfl rfl) ?_
    refine JA_take 11 rfl hns (by kernel_rfl) (by kernel_rfl) hS_20 rfl rfl rfl (r_load_priv (cs' := [.int .i64 goal_2.C]) (v := .int .i64 goal_2.C) 1 Try.pu2 Try.pi2 rfl rfl rfl rfl (by decide) rfl) ?_
    refine JA_take 12 rfl hns (by kernel_rfl) (by kernel_rfl) hS_20 rfl rfl rfl (r_leq rfl rfl) ?_
    refine JA_take 13 rfl hns (by kernel_rfl) (by kernel_rfl) hS_20 rfl rfl rfl (r_assign (v := .bool (decide (x_21 ≤ goal_2.C))) rfl) ?_
    refine JA_done (by kernel_rfl) ?_
    refine J_then ?_
    refine J_ret ?_
    refine J_select (PV' := []) [] (by decide) rfl ?_
    exact J_return1 rfl ⟨rfl, rfl⟩
def lychgatelaw05_CertSound_post (r : Bool) (σ : FS) (PV : List Priv) (v : Value) : Prop :=
  v = .bool r ∧ PV = []
set_option maxRecDepth 100000 in
theorem lychgatelaw05_CertSound_ref (w : World) (σ : FS) (hs : σ.sub w) (v_2 : Value) (p_1 : Gcert_Proof) (h_3 : t_Gcert_Proof.vrel σ v_2 p_1) (v_9 : Value) (goal_8 : Gdiff_Leq) (h_10 : t_Gdiff_Leq.vrel σ v_9 goal_8) (v_12 : Value) (facts_11 : Sl Gdiff_Leq) (h_13 : (tSl t_Gdiff_Leq).vrel σ v_12 facts_11) (r : Bool) (hr : lychgatelaw05_CertSound p_1 goal_8 facts_11 = some r) : Does Try.prog 5 [v_2, v_9, v_12] w σ (lychgatelaw05_CertSound_post r) := by
  unfold lychgatelaw05_CertSound at hr
  obtain ⟨v_4, v_6, rfl, h_5, h_7⟩ := t_Gcert_Proof_v.1 h_3
  obtain rfl := t_Gdiff_Leq_v.1 h_10
  refine does_of_J Try.func5 rfl (n := 41) rfl rfl hs hr ?_
  refine J_seq ?_
  refine J_region ?_
  refine JL_op rfl (op_box (cs := [.bool p_1.Yes, v_4, v_6]) rfl rfl ?_)
  intro c_14
  refine JL_op rfl (op_box (cs := [.int .i64 goal_8.X, .int .i64 goal_8.Y, .int .i64 goal_8.C]) rfl rfl ?_)
  intro c_16
  refine JL_op rfl (op_read rfl rfl (r_assign (v := .bool false) rfl) ?_)
  refine JL_nil ?_
  refine J_then ?_
  refine J_seq ?_
  refine J_region ?_
  refine JL_op rfl (op_read rfl rfl (r_fieldAddr (r := ⟨c_14, 2, none⟩) Try.pu35 (f := Try.pf35.getD 2 default) rfl Try.pi30 (by decide) rfl rfl) ?_)
  refine JL_op rfl (op_read rfl rfl (r_load_priv (cs' := [v_6]) (v := v_6) 1 Try.pu30 Try.pi30 rfl rfl rfl rfl (by decide) rfl) ?_)
  refine JL_op rfl (op_read rfl rfl (r_len_frozen (v := v_6) Try.pu30 rfl h_7) ?_)
  refine JL_op rfl (op_read rfl rfl (r_max rfl rfl) ?_)
  refine JL_op rfl (op_read rfl rfl (r_assign (v := .int .i64 (if 3 < p_1.Numbers.len then p_1.Numbers.len else 3)) rfl) ?_)
  refine JL_nil ?_
  refine J_then ?_
  refine J_seq ?_
  refine J_seq ?_
  refine J_region ?_
  refine JL_op rfl (op_call (f := 9) (fn := Try.f9) (args := []) (post := lychgatelaw05_wakes_post) rfl rfl rfl Try.func9 Try.pn9 rfl rfl (fun y w hy hs => lychgatelaw05_wakes_ref w _ hs  y hy) ?_)
  intro r_18 v_20 s_21 PV_23 hy_19 hle_22 hp_24
  obtain ⟨rfl, rfl⟩ := hp_24
  refine JL_op rfl (op_read rfl rfl (r_not rfl) ?_)
  refine JL_op rfl (op_read rfl rfl (r_move (v := .bool (!r_18)) rfl) ?_)
  refine J_forkL (e := (!r_18)) 3 [(2, v_12), (3, .pointer (some ⟨c_14, 0, none⟩)), (4, .pointer (some ⟨c_16, 0, none⟩)), (7, .int .i64 (if 3 < p_1.Numbers.len then p_1.Numbers.len else 3)), (17, .bool (!r_18 || decide (40 < (if 3 < p_1.Numbers.len then p_1.Numbers.len else 3))))] (fun hc_25 hk => ?_) (fun hc_25 hk => ?_) (fun b => ?_)
  · refine JL_skip rfl rfl hc_25 rfl rfl ?_
    refine JL_skip rfl rfl hc_25 rfl rfl ?_
    refine JL_op rfl (op_read rfl rfl (r_pick_t (v := .bool true) rfl hc_25 rfl) ?_)
    refine J_prune [(2, v_12), (3, .pointer (some ⟨c_14, 0, none⟩)), (4, .pointer (some ⟨c_16, 0, none⟩)), (7, .int .i64 (if 3 < p_1.Numbers.len then p_1.Numbers.len else 3)), (17, .bool (!r_18 || decide (40 < (if 3 < p_1.Numbers.len then p_1.Numbers.len else 3))))] ⟨rfl, rfl, rfl, rfl, (by show Value.bool _ = Value.bool _; rw [hc_25]; rfl), trivial⟩ hk
  · refine JL_opg rfl rfl hc_25 (op_read rfl rfl (r_move (v := .int .i64 (if 3 < p_1.Numbers.len then p_1.Numbers.len else 3)) rfl) ?_)
    refine JL_opg rfl rfl hc_25 (op_read rfl rfl (r_gtr rfl rfl) ?_)
    refine JL_op rfl (op_read rfl rfl (r_pick_f (v := .bool (decide (40 < (if 3 < p_1.Numbers.len then p_1.Numbers.len else 3)))) rfl hc_25 rfl) ?_)
    refine J_prune [(2, v_12), (3, .pointer (some ⟨c_14, 0, none⟩)), (4, .pointer (some ⟨c_16, 0, none⟩)), (7, .int .i64 (if 3 < p_1.Numbers.len then p_1.Numbers.len else 3)), (17, .bool (!r_18 || decide (40 < (if 3 < p_1.Numbers.len then p_1.Numbers.len else 3))))] ⟨rfl, rfl, rfl, rfl, (by show Value.bool _ = Value.bool _; rw [hc_25]; rfl), trivial⟩ hk
  · refine JL_op rfl (op_read rfl rfl (r_move (v := .bool (!r_18 || decide (40 < (if 3 < p_1.Numbers.len then p_1.Numbers.len else 3)))) rfl) ?_)
    refine J_forkLB (e := (!r_18 || decide (40 < (if 3 < p_1.Numbers.len then p_1.Numbers.len else 3)))) 7 (fun (b_27 : Bool) L τ PV => s_21.le τ ∧ L = [(2, v_12), (3, .pointer (some ⟨c_14, 0, none⟩)), (4, .pointer (some ⟨c_16, 0, none⟩)), (7, .int .i64 (if 3 < p_1.Numbers.len then p_1.Numbers.len else 3)), (25, .bool b_27)] ∧ PV = [.cell c_16 [.int .i64 goal_8.X, .int .i64 goal_8.Y, .int .i64 goal_8.C] 37, .cell c_14 [.bool p_1.Yes, v_4, v_6] 35]) (fun hc_26 hk => ?_) (fun hc_26 hk => ?_) ?_
    · refine JL_skip rfl rfl hc_26 rfl rfl ?_
      refine JL_skip rfl rfl hc_26 rfl rfl ?_
      refine JL_skip rfl rfl hc_26 rfl rfl ?_
      refine JL_skip rfl rfl hc_26 rfl rfl ?_
      refine JL_skip rfl rfl hc_26 rfl rfl ?_
      refine JL_skip rfl rfl hc_26 rfl rfl ?_
      refine JL_op rfl (op_read rfl rfl (r_pick_t (v := .bool true) rfl hc_26 rfl) ?_)
      refine J_prune _ ?_ fun b => hk true _ b _ _ ⟨(FS.le.refl _), rfl, rfl⟩
      exact ⟨rfl, rfl, rfl, rfl, rfl, trivial⟩
    · refine JL_opg rfl rfl hc_26 (op_read rfl rfl (r_load_priv (cs' := [.bool p_1.Yes, v_4, v_6]) (v := .agg #[.bool p_1.Yes, v_4, v_6]) 1 Try.pu35 Try.pi35 rfl rfl rfl rfl (by decide) rfl) ?_)
      refine JL_opg rfl rfl hc_26 (op_read rfl rfl (r_move (v := .int .i64 (if 3 < p_1.Numbers.len then p_1.Numbers.len else 3)) rfl) ?_)
      refine JL_opg rfl rfl hc_26 (op_read rfl rfl (r_load_priv (cs' := [.int .i64 goal_8.X, .int .i64 goal_8.Y, .int .i64 goal_8.C]) (v := .agg #[.int .i64 goal_8.X, .int .i64 goal_8.Y, .int .i64 goal_8.C]) 0 Try.pu37 Try.pi37 rfl rfl rfl rfl (by decide) rfl) ?_)
      refine JL_opg rfl rfl hc_26 (op_read rfl rfl (r_move (v := v_12) rfl) ?_)
      refine J_assoc ?_
      refine JL_opg rfl rfl hc_26 (op_call (f := 15) (fn := Try.f15) (args := [.agg #[.bool p_1.Yes, v_4, v_6], .int .i64 (if 3 < p_1.Numbers.len then p_1.Numbers.len else 3), .agg #[.int .i64 goal_8.X, .int .i64 goal_8.Y, .int .i64 goal_8.C], v_12]) (post := cert_Check_post) rfl rfl rfl Try.func15 Try.pn15 rfl rfl (fun y w hy hs => cert_Check_ref w _ hs (.agg #[.bool p_1.Yes, v_4, v_6]) p_1 (t_Gcert_Proof_v.2 ⟨_, _, rfl, (Ty.vmono _ hle_22 h_5), (Ty.vmono _ hle_22 h_7)⟩) (if 3 < p_1.Numbers.len then p_1.Numbers.len else 3) (.agg #[.int .i64 goal_8.X, .int .i64 goal_8.Y, .int .i64 goal_8.C]) goal_8 (t_Gdiff_Leq_v.2 rfl) v_12 facts_11 (Ty.vmono _ hle_22 h_13) y hy) ?_)
      intro r_28 v_30 s_31 PV_33 hy_29 hle_32 hp_34
      obtain ⟨rfl, rfl⟩ := hp_34
      refine JL_opg rfl rfl hc_26 (op_read rfl rfl (r_not rfl) ?_)
      refine JL_op rfl (op_read rfl rfl (r_pick_f (v := .bool (!r_28)) rfl hc_26 rfl) ?_)
      refine J_prune _ ?_ fun b => hk (!r_28) _ b _ _ ⟨hle_32, rfl, rfl⟩
      exact ⟨rfl, rfl, rfl, rfl, rfl, trivial⟩
    · rintro b_27 _ b s_35 _ ⟨hle_36, rfl, rfl⟩
      refine JL_nil ?_
      refine J_then ?_
      refine J_cond rfl (fun hc_37 => ?_) (fun hc_37 => ?_)
      · refine J_seq ?_
        refine J_region ?_
        refine JL_op rfl (op_call (f := 9) (fn := Try.f9) (args := []) (post := lychgatelaw05_wakes_post) rfl rfl rfl Try.func9 Try.pn9 rfl rfl (fun y w hy hs => lychgatelaw05_wakes_ref w _ hs  y hy) ?_)
        intro r_38 v_40 s_41 PV_43 hy_39 hle_42 hp_44
        obtain ⟨rfl, rfl⟩ := hp_44
        refine JL_op rfl (op_read rfl rfl (r_assign (v := .bool r_38) rfl) ?_)
        refine JL_nil ?_
        refine J_then ?_
        refine J_ret ?_
        refine J_then_ret ?_
        refine J_select (PV' := []) [] (by decide) rfl ?_
        exact J_return1 rfl ⟨rfl, rfl⟩
      · refine J_skip ?_
        refine J_then ?_
        refine J_seq ?_
        refine J_region_any [.cell c_16 [.int .i64 goal_8.X, .int .i64 goal_8.Y, .int .i64 goal_8.C] 37, .cell c_14 [.bool p_1.Yes, v_4, v_6] 35] Try.mixed (by kernel_rfl) fun hns => ?_
        have hS_45 : HeldOK s_35 [.cell c_16 [.int .i64 goal_8.X, .int .i64 goal_8.Y, .int .i64 goal_8.C] 37, .cell c_14 [.bool p_1.Yes, v_4, v_6] 35] s_35 [.cell c_16 [.int .i64 goal_8.X, .int .i64 goal_8.Y, .int .i64 goal_8.C] 37, .cell c_14 [.bool p_1.Yes, v_4, v_6] 35] := HeldOK.same ⟨⟨0, rfl⟩, ⟨1, rfl⟩, trivial⟩
        refine JA_take 0 rfl hns (by kernel_rfl) (by kernel_rfl) hS_45 rfl rfl rfl (r_fieldAddr (r := ⟨c_14, 0, none⟩) Try.pu35 (f := Try.pf35.getD 0 default) rfl Try.pi4 (by decide) rfl rfl) ?_
        refine JA_take 1 rfl hns (by kernel_rfl) (by kernel_rfl) hS_45 rfl rfl rfl (r_load_priv (cs' := [.bool p_1.Yes]) (v := .bool p_1.Yes) 1 Try.pu4 Try.pi4 rfl rfl rfl rfl (by decide) rfl) ?_
        refine JA_take 2 rfl hns (by kernel_rfl) (by kernel_rfl) hS_45 rfl rfl rfl (r_move (v := .int .i64 (if 3 < p_1.Numbers.len then p_1.Numbers.len else 3)) rfl) ?_
        refine JA_take 3 rfl hns (by kernel_rfl) (by kernel_rfl) hS_45 rfl rfl rfl (r_fieldAddr (r := ⟨c_16, 0, none⟩) Try.pu37 (f := Try.pf37.getD 0 default) rfl Try.pi3 (by decide) rfl rfl) ?_
        refine JA_take 4 rfl hns (by kernel_rfl) (by kernel_rfl) hS_45 rfl rfl rfl (r_load_priv (cs' := [.int .i64 goal_8.X]) (v := .int .i64 goal_8.X) 0 Try.pu3 Try.pi3 rfl rfl rfl rfl (by decide) rfl) ?_
        refine JA_take 5 rfl hns (by kernel_rfl) (by kernel_rfl) hS_45 rfl rfl rfl (r_fieldAddr (r := ⟨c_16, 1, none⟩) Try.pu37 (f := Try.pf37.getD 1 default) rfl Try.pi3 (by decide) rfl rfl) ?_
        refine JA_take 6 rfl hns (by kernel_rfl) (by kernel_rfl) hS_45 rfl rfl rfl (r_load_priv (cs' := [.int .i64 goal_8.Y]) (v := .int .i64 goal_8.Y) 0 Try.pu3 Try.pi3 rfl rfl rfl rfl (by decide) rfl) ?_
        refine JA_take 7 rfl hns (by kernel_rfl) (by kernel_rfl) hS_45 rfl rfl rfl (r_fieldAddr (r := ⟨c_16, 2, none⟩) Try.pu37 (f := Try.pf37.getD 2 default) rfl Try.pi2 (by decide) rfl rfl) ?_
        refine JA_take 8 rfl hns (by kernel_rfl) (by kernel_rfl) hS_45 rfl rfl rfl (r_load_priv (cs' := [.int .i64 goal_8.C]) (v := .int .i64 goal_8.C) 0 Try.pu2 Try.pi2 rfl rfl rfl rfl (by decide) rfl) ?_
        refine JA_take 9 rfl hns (by kernel_rfl) (by kernel_rfl) hS_45 rfl rfl rfl (r_build (cs := [.int .i64 goal_8.X, .int .i64 goal_8.Y, .int .i64 goal_8.C]) (vs := [(0, .int .i64 goal_8.X), (1, .int .i64 goal_8.Y), (2, .int .i64 goal_8.C)]) (pcs := [(0, [.int .i64 goal_8.X]), (1, [.int .i64 goal_8.Y]), (2, [.int .i64 goal_8.C])]) (pls := [(0, 1), (1, 1), (2, 1)]) Try.pu40 Try.pi40 rfl (by kernel_rfl) rfl ⟨rfl, rfl, ⟨rfl, rfl, ⟨rfl, rfl, trivial⟩⟩⟩ rfl) ?_
        refine JA_take 10 rfl hns (by kernel_rfl) (by kernel_rfl) hS_45 rfl rfl rfl (r_move (v := v_12) rfl) ?_
        refine JA_op (i := 11) (by kernel_rfl) rfl rfl (op_call (f := 12) (fn := Try.f12) (args := [v_12]) (post := lychgatelaw05_refs_post) rfl rfl rfl Try.func12 Try.pn12 rfl rfl (fun y w hy hs => lychgatelaw05_refs_ref w _ hs v_12 facts_11 (Ty.vmono _ (FS.le.trans hle_22 hle_36) h_13) y hy) ?_)
        intro r_46 v_48 s_49 PV_51 hy_47 hle_50 hp_52
        obtain ⟨_, rfl, rfl⟩ := hp_52
        have hS_54 : HeldOK s_35 [.cell c_16 [.int .i64 goal_8.X, .int .i64 goal_8.Y, .int .i64 goal_8.C] 37, .cell c_14 [.bool p_1.Yes, v_4, v_6] 35] s_49 [.row Glychgateref04_Leq t_Glychgateref04_Leq 40 v_48 r_46, .cell c_16 [.int .i64 goal_8.X, .int .i64 goal_8.Y, .int .i64 goal_8.C] 37, .cell c_14 [.bool p_1.Yes, v_4, v_6] 35] := HeldOK.plain hle_50 ⟨⟨1, rfl⟩, ⟨2, rfl⟩, trivial⟩ trivial
        refine ⟨hS_54, ?_⟩
        refine JA_op (i := 12) (by kernel_rfl) rfl rfl (op_call_lend (f := 16) (fn := Try.f16) (args := [.int .i64 (if 3 < p_1.Numbers.len then p_1.Numbers.len else 3), .agg #[.int .i64 goal_8.X, .int .i64 goal_8.Y, .int .i64 goal_8.C], v_48]) (post := lychgateref04_Entails_post) rfl rfl rfl Try.func16 Try.pn16 rfl rfl (fun y w τ hy hle hs hrow => lychgateref04_Entails_ref w τ hs (if 3 < p_1.Numbers.len then p_1.Numbers.len else 3) (.agg #[.int .i64 goal_8.X, .int .i64 goal_8.Y, .int .i64 goal_8.C]) (⟨goal_8.X, goal_8.Y, goal_8.C⟩ : Glychgateref04_Leq) (Ty.vmono _ hle (t_Glychgateref04_Leq_v.2 rfl)) v_48 r_46 (hrow 0 _ _ _ _ _ rfl) y hy) (fun y σ' PV' v hp => by obtain ⟨rfl, rfl⟩ := hp; exact trivial) ?_)
        intro r_55 v_57 s_58 PV_60 hy_56 hp_61
        obtain ⟨rfl, rfl⟩ := hp_61
        have hS_62 : HeldOK s_35 [.cell c_16 [.int .i64 goal_8.X, .int .i64 goal_8.Y, .int .i64 goal_8.C] 37, .cell c_14 [.bool p_1.Yes, v_4, v_6] 35] s_49 [.row Glychgateref04_Leq t_Glychgateref04_Leq 40 v_48 r_46, .cell c_16 [.int .i64 goal_8.X, .int .i64 goal_8.Y, .int .i64 goal_8.C] 37, .cell c_14 [.bool p_1.Yes, v_4, v_6] 35] := HeldOK.plain hle_50 ⟨⟨1, rfl⟩, ⟨2, rfl⟩, trivial⟩ trivial
        refine ⟨hS_62, ?_⟩
        refine JA_take 13 rfl hns (by kernel_rfl) (by kernel_rfl) hS_62 rfl rfl rfl (r_beql Try.pu4 rfl rfl) ?_
        refine JA_take 14 rfl hns (by kernel_rfl) (by kernel_rfl) hS_62 rfl rfl rfl (r_assign (v := .bool (p_1.Yes == r_55)) rfl) ?_
        refine JA_done (by kernel_rfl) ?_
        refine J_then ?_
        refine J_ret ?_
        refine J_select (PV' := []) [] (by decide) rfl ?_
        exact J_return1 rfl ⟨rfl, rfl⟩
end Go.Px
