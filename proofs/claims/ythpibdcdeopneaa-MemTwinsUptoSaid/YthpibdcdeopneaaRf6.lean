/- The calls do what the models say, part 6. -/
import Derived.Test.YthpibdcdeopneaaMd
import Derived.Test.YthpibdcdeopneaaRf1
import Derived.Test.YthpibdcdeopneaaRf2
import Derived.Test.YthpibdcdeopneaaRf3
import Derived.Test.YthpibdcdeopneaaRf4
import Derived.Test.YthpibdcdeopneaaRf5
namespace Go.Px
open Go.Proofs
set_option linter.unusedVariables false
def lychgatelaw06_val_post (σ0 : FS) (v_1 : Value) (v_2 : Gmem_Value) (r : Unit) (σ : FS) (PV : List Priv) (v : Value) : Prop :=
 σ0 = σ ∧ .agg #[.i v_2.Kind, .i v_2.N, .i v_2.Block] = v ∧ PV = []
set_option maxRecDepth 100000 in
theorem lychgatelaw06_val_ref (s : Start) (σ : FS) (v_1 : Value) (v_2 : Gmem_Value) (h_3 : T13.vrel σ v_1 v_2) (hs : Pre s σ []) (r : Unit) (hr : lychgatelaw06_val v_2 = some r) : Does Try.prog 30 [v_1] s σ (lychgatelaw06_val_post σ v_1 v_2 r) := by
 unfold lychgatelaw06_val at hr
 obtain rfl := T13_v.1 h_3
 refine does_of_J Try.func30 rfl (n := 10) rfl rfl hs hr ?_
 refine J_seq ?_
 refine J_region ?_
 refine JL_op rfl (op_box (cs := [.i v_2.Kind, .i v_2.N, .i v_2.Block]) rfl rfl ?_)
 intro c_4
 refine JL_op rfl (op_alloc (cs := [.i 0, .i 0, .i 0]) rfl pi74 rfl rfl ?_)
 intro c_6
 refine JL_nil ?_
 refine J_then ?_
 refine J_seq ?_
 refine J_region ?_
 refine JL_op rfl (op_read rfl rfl (r_fieldAddr (r := Addr.add c_4 0) pu29 (f := Try.pf29.getD 0 default) rfl pi27 (by decide) rfl (Addr.add_add _ _ _)) ?_)
 refine JL_op rfl (op_read rfl rfl (r_load_priv (a := c_4) (off := 0) (cs' := [.i v_2.Kind]) (v := .i v_2.Kind) 1 pu27 pi27 rfl rfl rfl rfl (by decide) rfl) ?_)
 refine JL_op rfl (op_read rfl rfl (r_fieldAddr (r := Addr.add c_4 1) pu29 (f := Try.pf29.getD 1 default) rfl pi2 (by decide) rfl (Addr.add_add _ _ _)) ?_)
 refine JL_op rfl (op_read rfl rfl (r_load_priv (a := c_4) (off := 1) (cs' := [.i v_2.N]) (v := .i v_2.N) 1 pu2 pi2 rfl rfl rfl rfl (by decide) rfl) ?_)
 refine JL_op rfl (op_read rfl rfl (r_fieldAddr (r := Addr.add c_4 2) pu29 (f := Try.pf29.getD 2 default) rfl pi3 (by decide) rfl (Addr.add_add _ _ _)) ?_)
 refine JL_op rfl (op_read rfl rfl (r_load_priv (a := c_4) (off := 2) (cs' := [.i v_2.Block]) (v := .i v_2.Block) 1 pu3 pi3 rfl rfl rfl rfl (by decide) rfl) ?_)
 refine JL_op rfl (op_read rfl rfl (r_build (cs := [.i v_2.Kind, .i v_2.N, .i v_2.Block]) (vs := [(0, .i v_2.Kind), (1, .i v_2.N), (2, .i v_2.Block)]) (pcs := [(0, [.i v_2.Kind]), (1, [.i v_2.N]), (2, [.i v_2.Block])]) (pls := [(0, 1), (1, 1), (2, 1)]) pu74 pi74 rfl (by kernel_rfl) rfl ⟨rfl, rfl, ⟨rfl, rfl, ⟨rfl, rfl, trivial⟩⟩⟩ rfl) ?_)
 refine JL_op rfl (op_store_priv (a := c_6) (off := 0) (vs := [.i v_2.Kind, .i v_2.N, .i v_2.Block]) (cs' := [.i v_2.Kind, .i v_2.N, .i v_2.Block]) (PV' := [.cell c_6 [.i v_2.Kind, .i v_2.N, .i v_2.Block], .cell c_4 [.i v_2.Kind, .i v_2.N, .i v_2.Block]]) 0 pi74 rfl rfl rfl ⟨rfl, rfl, rfl, trivial⟩ rfl rfl rfl rfl rfl ?_)
 refine JL_nil ?_
 refine J_then ?_
 refine J_ret ?_
 exact J_returnV1 (PV' := []) rfl (rv_cell (cs := [.i v_2.Kind, .i v_2.N, .i v_2.Block]) (v := .agg #[.i v_2.Kind, .i v_2.N, .i v_2.Block]) 0 pu74 pi74 rfl rfl rfl (by decide) rfl) [] (by decide) rfl ⟨rfl, rfl, rfl⟩
def lychgateref06_Alloc_post (σ0 : FS) (a_1 : Addr) (v_2 : Value) (x_3 : Sl Bool) (v_4 : Value) (x_5 : Sl Int) (v_6 : Value) (x_7 : Sl Glychgateref06_Cell) (Used_8 : Int) (n_9 : Int) (r : Glychgateref06_Value × Bool × (Sl Bool) × (Sl Int) × (Sl Glychgateref06_Cell) × Int) (σ : FS) (PV : List Priv) (v : Value) : Prop :=
 ∃ (w0 : Value) (w1 : Value) (w2 : Value), σ0 = σ ∧ .tuple #[.agg #[.i r.1.Kind, .i r.1.N, .i r.1.Block], .bool r.2.1] = v ∧ PV = [.cell a_1 [w0, w1, w2, .i r.2.2.2.2.2], .row (tBool).o 4 w0 r.2.2.1, .row ((tInt .i64)).o 2 w1 r.2.2.2.1, .row (T6).o 85 w2 r.2.2.2.2.1]
set_option maxRecDepth 100000 in
theorem lychgateref06_Alloc_ref (s : Start) (σ : FS) (a_1 : Addr) (v_2 : Value) (x_3 : Sl Bool) (v_4 : Value) (x_5 : Sl Int) (v_6 : Value) (x_7 : Sl Glychgateref06_Cell) (Used_8 : Int) (n_9 : Int) (hs : Pre s σ [.cell a_1 [v_2, v_4, v_6, .i Used_8], .row (tBool).o 4 v_2 x_3, .row ((tInt .i64)).o 2 v_4 x_5, .row (T6).o 85 v_6 x_7]) (r : Glychgateref06_Value × Bool × (Sl Bool) × (Sl Int) × (Sl Glychgateref06_Cell) × Int) (hr : lychgateref06_Alloc x_3 x_5 x_7 Used_8 n_9 = some r) : Does Try.prog 31 [.pointer (some (Addr.add a_1 0)), .i n_9] s σ (lychgateref06_Alloc_post σ a_1 v_2 x_3 v_4 x_5 v_6 x_7 Used_8 n_9 r) := by
 unfold lychgateref06_Alloc at hr
 refine does_of_J Try.func31 rfl (n := 80) rfl rfl hs hr ?_
 refine J_seq ?_
 refine J_region ?_
 refine JL_op rfl (op_alloc (cs := [.i 0, .i 0, .i 0]) rfl pi74 rfl rfl ?_)
 intro c_10
 refine JL_op rfl (op_read rfl rfl (r_assign (v := .bool false) rfl) ?_)
 refine JL_nil ?_
 refine J_then ?_
 refine J_seq ?_
 refine J_seq ?_
 refine J_region ?_
 refine JL_op rfl (op_read rfl rfl (r_move (v := .i n_9) rfl) ?_)
 refine JL_op rfl (op_read rfl rfl (r_lss rfl rfl) ?_)
 refine JL_op rfl (op_read rfl rfl (r_move (v := .bool (decide (n_9 < 0))) rfl) ?_)
 refine J_forkL (e := (decide (n_9 < 0))) 3 [(0, .pointer (some (Addr.add a_1 0))), (1, .i n_9), (4, .pointer (some (Addr.add c_10 0))), (12, .bool (decide (n_9 < 0) || decide (256 < n_9)))] (fun hc_12 hk => ?_) (fun hc_12 hk => ?_) (fun b => ?_)
 ·refine JL_skip rfl rfl hc_12 rfl rfl ?_
  refine JL_skip rfl rfl hc_12 rfl rfl ?_
  refine JL_op rfl (op_read rfl rfl (r_pick_t (v := .bool true) rfl hc_12 rfl) ?_)
  refine J_prune [(0, .pointer (some (Addr.add a_1 0))), (1, .i n_9), (4, .pointer (some (Addr.add c_10 0))), (12, .bool (decide (n_9 < 0) || decide (256 < n_9)))] ⟨rfl, rfl, rfl, (by show Value.bool _ = Value.bool _; rw [hc_12]; rfl), trivial⟩ hk
 ·refine JL_opg rfl rfl hc_12 (op_read rfl rfl (r_move (v := .i n_9) rfl) ?_)
  refine JL_opg rfl rfl hc_12 (op_read rfl rfl (r_gtr rfl rfl) ?_)
  refine JL_op rfl (op_read rfl rfl (r_pick_f (v := .bool (decide (256 < n_9))) rfl hc_12 rfl) ?_)
  refine J_prune [(0, .pointer (some (Addr.add a_1 0))), (1, .i n_9), (4, .pointer (some (Addr.add c_10 0))), (12, .bool (decide (n_9 < 0) || decide (256 < n_9)))] ⟨rfl, rfl, rfl, (by show Value.bool _ = Value.bool _; rw [hc_12]; rfl), trivial⟩ hk
 ·refine JL_op rfl (op_read rfl rfl (r_move (v := .bool (decide (n_9 < 0) || decide (256 < n_9))) rfl) ?_)
  refine J_forkL (e := (decide (n_9 < 0) || decide (256 < n_9))) 9 [(0, .pointer (some (Addr.add a_1 0))), (1, .i n_9), (4, .pointer (some (Addr.add c_10 0))), (22, .bool ((decide (n_9 < 0) || decide (256 < n_9)) || decide (4096 < (IntKind.i64.wrap ((IntKind.i64.wrap (Used_8 + n_9)) + 1)))))] (fun hc_13 hk => ?_) (fun hc_13 hk => ?_) (fun b => ?_)
  ·refine JL_skip rfl rfl hc_13 rfl rfl ?_
   iterate 7 refine JL_skip rfl rfl hc_13 rfl rfl ?_
   refine JL_op rfl (op_read rfl rfl (r_pick_t (v := .bool true) rfl hc_13 rfl) ?_)
   refine J_prune [(0, .pointer (some (Addr.add a_1 0))), (1, .i n_9), (4, .pointer (some (Addr.add c_10 0))), (22, .bool ((decide (n_9 < 0) || decide (256 < n_9)) || decide (4096 < (IntKind.i64.wrap ((IntKind.i64.wrap (Used_8 + n_9)) + 1)))))] ⟨rfl, rfl, rfl, (by show Value.bool _ = Value.bool _; rw [hc_13]; rfl), trivial⟩ hk
  ·refine JL_opg rfl rfl hc_13 (op_read rfl rfl (r_move (v := .pointer (some (Addr.add a_1 0))) rfl) ?_)
   refine JL_opg rfl rfl hc_13 (op_read rfl rfl (r_nilCheck (a := (Addr.add a_1 0)) rfl) ?_)
   refine JL_opg rfl rfl hc_13 (op_read rfl rfl (r_fieldAddr (r := Addr.add a_1 3) pu56 (f := Try.pf56.getD 3 default) rfl pi2 (by decide) rfl (Addr.add_add _ _ _)) ?_)
   refine JL_opg rfl rfl hc_13 (op_read rfl rfl (r_load_priv (a := a_1) (off := 3) (cs' := [.i Used_8]) (v := .i Used_8) 1 pu2 pi2 rfl rfl rfl rfl (by decide) rfl) ?_)
   refine JL_opg rfl rfl hc_13 (op_read rfl rfl (r_move (v := .i n_9) rfl) ?_)
   refine JL_opg rfl rfl hc_13 (op_read rfl rfl (r_add rfl rfl) ?_)
   refine JL_opg rfl rfl hc_13 (op_read rfl rfl (r_add rfl rfl) ?_)
   refine JL_opg rfl rfl hc_13 (op_read rfl rfl (r_gtr rfl rfl) ?_)
   refine JL_op rfl (op_read rfl rfl (r_pick_f (v := .bool (decide (4096 < (IntKind.i64.wrap ((IntKind.i64.wrap (Used_8 + n_9)) + 1))))) rfl hc_13 rfl) ?_)
   refine J_prune [(0, .pointer (some (Addr.add a_1 0))), (1, .i n_9), (4, .pointer (some (Addr.add c_10 0))), (22, .bool ((decide (n_9 < 0) || decide (256 < n_9)) || decide (4096 < (IntKind.i64.wrap ((IntKind.i64.wrap (Used_8 + n_9)) + 1)))))] ⟨rfl, rfl, rfl, (by show Value.bool _ = Value.bool _; rw [hc_13]; rfl), trivial⟩ hk
  ·refine JL_nil ?_
   refine J_then ?_
   refine J_cond rfl (fun hc_14 => ?_) (fun hc_14 => ?_)
   ·refine J_seq ?_
    refine J_region ?_
    refine JL_op rfl (op_read rfl rfl (r_build (cs := [.i 0, .i 0, .i 0]) (vs := []) (pcs := []) (pls := [(0, 1), (1, 1), (2, 1)]) pu74 pi74 rfl (by kernel_rfl) rfl trivial rfl) ?_)
    refine JL_op rfl (op_store_priv (a := c_10) (off := 0) (vs := [.i 0, .i 0, .i 0]) (cs' := [.i 0, .i 0, .i 0]) (PV' := [.cell c_10 [.i 0, .i 0, .i 0], .cell a_1 [v_2, v_4, v_6, .i Used_8], .row (tBool).o 4 v_2 x_3, .row ((tInt .i64)).o 2 v_4 x_5, .row (T6).o 85 v_6 x_7]) 0 pi74 rfl rfl rfl ⟨rfl, rfl, rfl, trivial⟩ rfl rfl rfl rfl rfl ?_)
    refine JL_op rfl (op_read rfl rfl (r_assign (v := .bool false) rfl) ?_)
    refine JL_nil ?_
    refine J_then ?_
    refine J_ret ?_
    refine J_then_ret ?_
    exact J_returnV2 (PV' := [.cell a_1 [v_2, v_4, v_6, .i Used_8], .row (tBool).o 4 v_2 x_3, .row ((tInt .i64)).o 2 v_4 x_5, .row (T6).o 85 v_6 x_7]) rfl (rv_cell (cs := [.i 0, .i 0, .i 0]) (v := .agg #[.i 0, .i 0, .i 0]) 0 pu74 pi74 rfl rfl rfl (by decide) rfl) rv_tmp [1, 2, 3, 4] (by decide) rfl ⟨v_2, v_4, v_6, rfl, rfl, rfl⟩
   ·refine J_skip ?_
    refine J_then ?_
    refine J_seq ?_
    refine J_region ?_
    refine JL_op rfl (op_read rfl rfl (r_move (v := .pointer (some (Addr.add a_1 0))) rfl) ?_)
    refine JL_op rfl (op_read rfl rfl (r_move (v := .pointer (some (Addr.add a_1 0))) rfl) ?_)
    refine JL_op rfl (op_read rfl rfl (r_nilCheck (a := (Addr.add a_1 0)) rfl) ?_)
    refine JL_op rfl (op_read rfl rfl (r_fieldAddr (r := Addr.add a_1 3) pu56 (f := Try.pf56.getD 3 default) rfl pi2 (by decide) rfl (Addr.add_add _ _ _)) ?_)
    refine JL_op rfl (op_read rfl rfl (r_load_priv (a := a_1) (off := 3) (cs' := [.i Used_8]) (v := .i Used_8) 1 pu2 pi2 rfl rfl rfl rfl (by decide) rfl) ?_)
    refine JL_op rfl (op_read rfl rfl (r_move (v := .i n_9) rfl) ?_)
    refine JL_op rfl (op_read rfl rfl (r_add rfl rfl) ?_)
    refine JL_op rfl (op_read rfl rfl (r_add rfl rfl) ?_)
    refine JL_op rfl (op_read rfl rfl (r_nilCheck (a := (Addr.add a_1 0)) rfl) ?_)
    refine JL_op rfl (op_read rfl rfl (r_fieldAddr (r := Addr.add a_1 3) pu56 (f := Try.pf56.getD 3 default) rfl pi2 (by decide) rfl (Addr.add_add _ _ _)) ?_)
    refine JL_op rfl (op_store_priv (a := a_1) (off := 3) (vs := [.i (IntKind.i64.wrap ((IntKind.i64.wrap (Used_8 + n_9)) + 1))]) (cs' := [v_2, v_4, v_6, .i (IntKind.i64.wrap ((IntKind.i64.wrap (Used_8 + n_9)) + 1))]) (PV' := [.cell c_10 [.i 0, .i 0, .i 0], .cell a_1 [v_2, v_4, v_6, .i (IntKind.i64.wrap ((IntKind.i64.wrap (Used_8 + n_9)) + 1))], .row (tBool).o 4 v_2 x_3, .row ((tInt .i64)).o 2 v_4 x_5, .row (T6).o 85 v_6 x_7]) 1 pi2 rfl rfl rfl ⟨rfl, trivial⟩ rfl rfl rfl rfl rfl ?_)
    refine JL_nil ?_
    refine J_then ?_
    refine J_seq ?_
    refine J_region ?_
    refine JL_op rfl (op_read rfl rfl (r_move (v := .pointer (some (Addr.add a_1 0))) rfl) ?_)
    refine JL_op rfl (op_read rfl rfl (r_move (v := .pointer (some (Addr.add a_1 0))) rfl) ?_)
    refine JL_op rfl (op_read rfl rfl (r_nilCheck (a := (Addr.add a_1 0)) rfl) ?_)
    refine JL_op rfl (op_read rfl rfl (r_fieldAddr (r := Addr.add a_1 0) pu56 (f := Try.pf56.getD 0 default) rfl pi23 (by decide) rfl (Addr.add_add _ _ _)) ?_)
    refine JL_op rfl (op_read rfl rfl (r_load_priv (a := a_1) (off := 0) (cs' := [v_2]) (v := v_2) 1 pu23 pi23 rfl rfl rfl rfl (by decide) rfl) ?_)
    refine JL_op rfl (op_buildSlice (T := (tBool).o) (vs := [.bool true]) (xs := [true]) [] [.cell c_10 [.i 0, .i 0, .i 0], .cell a_1 [v_2, v_4, v_6, .i (IntKind.i64.wrap ((IntKind.i64.wrap (Used_8 + n_9)) + 1))], .row (tBool).o 4 v_2 x_3, .row ((tInt .i64)).o 2 v_4 x_5, .row (T6).o 85 v_6 x_7] rfl pu23 pi4 rfl rfl rfl rfl rfl rfl (relsO_cons (A := []) (B := []) (u := .bool true) (x := true) (fix_vrel (T := (tBool).o) rfl (tBool_v.2 rfl)) relsO_nil) ?_)
    intro v_15
    refine J_select (PV' := [.row (tBool).o 4 v_2 x_3, .row (tBool).o 4 v_15 (⟨[true], true⟩ : Sl Bool), .cell c_10 [.i 0, .i 0, .i 0], .cell a_1 [v_2, v_4, v_6, .i (IntKind.i64.wrap ((IntKind.i64.wrap (Used_8 + n_9)) + 1))], .row ((tInt .i64)).o 2 v_4 x_5, .row (T6).o 85 v_6 x_7]) [3, 0, 1, 2, 4, 5] (by decide) rfl ?_
    refine JL_op rfl (op_append (v := v_2) (u := v_15) (T := (tBool).o) (ts := [true]) [] [.row (tBool).o 4 v_15 (⟨[true], true⟩ : Sl Bool), .cell c_10 [.i 0, .i 0, .i 0], .cell a_1 [v_2, v_4, v_6, .i (IntKind.i64.wrap ((IntKind.i64.wrap (Used_8 + n_9)) + 1))], .row ((tInt .i64)).o 2 v_4 x_5, .row (T6).o 85 v_6 x_7] rfl pu23 pi4 rfl rfl rfl rfl rfl rfl (source_copy (s := (⟨[true], true⟩ : Sl Bool)) 1 rfl) ?_)
    intro s_18 v_17 hs_19
    refine JL_op rfl (op_read rfl rfl (r_nilCheck (a := (Addr.add a_1 0)) rfl) ?_)
    refine JL_op rfl (op_read rfl rfl (r_fieldAddr (r := Addr.add a_1 0) pu56 (f := Try.pf56.getD 0 default) rfl pi23 (by decide) rfl (Addr.add_add _ _ _)) ?_)
    refine J_row_one 0 rfl fun h_20 => ?_
    refine JL_op rfl (op_store_priv (a := a_1) (off := 0) (vs := [v_17]) (cs' := [v_17, v_4, v_6, .i (IntKind.i64.wrap ((IntKind.i64.wrap (Used_8 + n_9)) + 1))]) (PV' := [.row (tBool).o 4 v_17 s_18, .row (tBool).o 4 v_15 (⟨[true], true⟩ : Sl Bool), .cell c_10 [.i 0, .i 0, .i 0], .cell a_1 [v_17, v_4, v_6, .i (IntKind.i64.wrap ((IntKind.i64.wrap (Used_8 + n_9)) + 1))], .row ((tInt .i64)).o 2 v_4 x_5, .row (T6).o 85 v_6 x_7]) 3 pi23 rfl (one_cells h_20) rfl ⟨h_20, trivial⟩ rfl rfl rfl rfl rfl ?_)
    refine JL_nil ?_
    refine J_then ?_
    refine J_seq ?_
    refine J_region ?_
    refine JL_op rfl (op_read rfl rfl (r_move (v := .pointer (some (Addr.add a_1 0))) rfl) ?_)
    refine JL_op rfl (op_read rfl rfl (r_move (v := .pointer (some (Addr.add a_1 0))) rfl) ?_)
    refine JL_op rfl (op_read rfl rfl (r_nilCheck (a := (Addr.add a_1 0)) rfl) ?_)
    refine JL_op rfl (op_read rfl rfl (r_fieldAddr (r := Addr.add a_1 1) pu56 (f := Try.pf56.getD 1 default) rfl pi22 (by decide) rfl (Addr.add_add _ _ _)) ?_)
    refine JL_op rfl (op_read rfl rfl (r_load_priv (a := a_1) (off := 1) (cs' := [v_4]) (v := v_4) 3 pu22 pi22 rfl rfl rfl rfl (by decide) rfl) ?_)
    refine JL_op rfl (op_read rfl rfl (r_move (v := .i n_9) rfl) ?_)
    refine JL_op rfl (op_buildSlice (T := ((tInt .i64)).o) (vs := [.i n_9]) (xs := [n_9]) [] [.row (tBool).o 4 v_17 s_18, .row (tBool).o 4 v_15 (⟨[true], true⟩ : Sl Bool), .cell c_10 [.i 0, .i 0, .i 0], .cell a_1 [v_17, v_4, v_6, .i (IntKind.i64.wrap ((IntKind.i64.wrap (Used_8 + n_9)) + 1))], .row ((tInt .i64)).o 2 v_4 x_5, .row (T6).o 85 v_6 x_7] rfl pu22 pi2 rfl rfl rfl rfl rfl rfl (relsO_cons (A := []) (B := []) (u := .i n_9) (x := n_9) (fix_vrel (T := ((tInt .i64)).o) rfl (tInt_v.2 rfl)) relsO_nil) ?_)
    intro v_21
    refine J_select (PV' := [.row ((tInt .i64)).o 2 v_4 x_5, .row ((tInt .i64)).o 2 v_21 (⟨[n_9], true⟩ : Sl Int), .row (tBool).o 4 v_17 s_18, .row (tBool).o 4 v_15 (⟨[true], true⟩ : Sl Bool), .cell c_10 [.i 0, .i 0, .i 0], .cell a_1 [v_17, v_4, v_6, .i (IntKind.i64.wrap ((IntKind.i64.wrap (Used_8 + n_9)) + 1))], .row (T6).o 85 v_6 x_7]) [5, 0, 1, 2, 3, 4, 6] (by decide) rfl ?_
    refine JL_op rfl (op_append (v := v_4) (u := v_21) (T := ((tInt .i64)).o) (ts := [n_9]) [] [.row ((tInt .i64)).o 2 v_21 (⟨[n_9], true⟩ : Sl Int), .row (tBool).o 4 v_17 s_18, .row (tBool).o 4 v_15 (⟨[true], true⟩ : Sl Bool), .cell c_10 [.i 0, .i 0, .i 0], .cell a_1 [v_17, v_4, v_6, .i (IntKind.i64.wrap ((IntKind.i64.wrap (Used_8 + n_9)) + 1))], .row (T6).o 85 v_6 x_7] rfl pu22 pi2 rfl rfl rfl rfl rfl rfl (source_copy (s := (⟨[n_9], true⟩ : Sl Int)) 1 rfl) ?_)
    intro s_24 v_23 hs_25
    refine JL_op rfl (op_read rfl rfl (r_nilCheck (a := (Addr.add a_1 0)) rfl) ?_)
    refine JL_op rfl (op_read rfl rfl (r_fieldAddr (r := Addr.add a_1 1) pu56 (f := Try.pf56.getD 1 default) rfl pi22 (by decide) rfl (Addr.add_add _ _ _)) ?_)
    refine J_row_one 0 rfl fun h_26 => ?_
    refine JL_op rfl (op_store_priv (a := a_1) (off := 1) (vs := [v_23]) (cs' := [v_17, v_23, v_6, .i (IntKind.i64.wrap ((IntKind.i64.wrap (Used_8 + n_9)) + 1))]) (PV' := [.row ((tInt .i64)).o 2 v_23 s_24, .row ((tInt .i64)).o 2 v_21 (⟨[n_9], true⟩ : Sl Int), .row (tBool).o 4 v_17 s_18, .row (tBool).o 4 v_15 (⟨[true], true⟩ : Sl Bool), .cell c_10 [.i 0, .i 0, .i 0], .cell a_1 [v_17, v_23, v_6, .i (IntKind.i64.wrap ((IntKind.i64.wrap (Used_8 + n_9)) + 1))], .row (T6).o 85 v_6 x_7]) 5 pi22 rfl (one_cells h_26) rfl ⟨h_26, trivial⟩ rfl rfl rfl rfl rfl ?_)
    refine JL_nil ?_
    refine J_then ?_
    refine J_seq ?_
    refine J_seq ?_
    refine J_region ?_
    refine JL_op rfl (op_read rfl rfl (r_assign (v := .i 0) rfl) ?_)
    refine JL_nil ?_
    refine J_then ?_
    refine J_block ?_
    refine J_select (PV' := [.cell a_1 [v_17, v_23, v_6, .i (IntKind.i64.wrap ((IntKind.i64.wrap (Used_8 + n_9)) + 1))], .row (tBool).o 4 v_17 s_18, .row ((tInt .i64)).o 2 v_23 s_24, .row (T6).o 85 v_6 x_7, .cell c_10 [.i 0, .i 0, .i 0]]) [5, 2, 0, 6, 4] (by decide) rfl ?_
    refine J_loop (fun (y : (Sl Glychgateref06_Cell) × Int) L τ PV => ∃ (w0 : Value), σ = τ ∧ L = [(0, .pointer (some (Addr.add a_1 0))), (1, .i n_9), (4, .pointer (some (Addr.add c_10 0))), (6, .i y.2)] ∧ PV = [.cell a_1 [v_17, v_23, w0, .i (IntKind.i64.wrap ((IntKind.i64.wrap (Used_8 + n_9)) + 1))], .row (tBool).o 4 v_17 s_18, .row ((tInt .i64)).o 2 v_23 s_24, .row (T6).o 85 w0 y.1, .cell c_10 [.i 0, .i 0, .i 0]]) (fun (y : (Sl Glychgateref06_Cell)) e L τ PV => e = .exit 0 ∧ (∃ (w0 : Value), σ = τ ∧ L = [(0, .pointer (some (Addr.add a_1 0))), (4, .pointer (some (Addr.add c_10 0)))] ∧ PV = [.cell a_1 [v_17, v_23, w0, .i (IntKind.i64.wrap ((IntKind.i64.wrap (Used_8 + n_9)) + 1))], .row (tBool).o 4 v_17 s_18, .row ((tInt .i64)).o 2 v_23 s_24, .row (T6).o 85 w0 y, .cell c_10 [.i 0, .i 0, .i 0]])) _ ?_ ⟨v_6, rfl, rfl, rfl⟩ ?_ ?_
    ·exact ⟨rfl, rfl, rfl, rfl, trivial⟩
    ·rintro x_27 _ b s_31 _ ⟨v_30, rfl, rfl, rfl⟩
     unfold lychgateref06_Alloc_L1
     refine J_seq ?_
     refine J_seq ?_
     refine J_region ?_
     refine JL_op rfl (op_read rfl rfl (r_move (v := .i x_27.2) rfl) ?_)
     refine JL_op rfl (op_read rfl rfl (r_move (v := .i n_9) rfl) ?_)
     refine JL_op rfl (op_read rfl rfl (r_lss rfl rfl) ?_)
     refine JL_nil ?_
     refine J_then ?_
     refine J_cond rfl (fun hc_32 => ?_) (fun hc_32 => ?_)
     ·refine J_skip ?_
      refine J_then ?_
      refine J_seq ?_
      refine J_block ?_
      refine J_region_any 13 [.cell a_1 [v_17, v_23, v_30, .i (IntKind.i64.wrap ((IntKind.i64.wrap (Used_8 + n_9)) + 1))], .row (tBool).o 4 v_17 s_18, .row ((tInt .i64)).o 2 v_23 s_24, .row (T6).o 85 v_30 x_27.1, .cell c_10 [.i 0, .i 0, .i 0]] Try.mixed (by kernel_rfl) fun hns => ?_
      have hS_33 : HeldOK σ [.cell a_1 [v_17, v_23, v_30, .i (IntKind.i64.wrap ((IntKind.i64.wrap (Used_8 + n_9)) + 1))], .row (tBool).o 4 v_17 s_18, .row ((tInt .i64)).o 2 v_23 s_24, .row (T6).o 85 v_30 x_27.1, .cell c_10 [.i 0, .i 0, .i 0]] σ [.cell a_1 [v_17, v_23, v_30, .i (IntKind.i64.wrap ((IntKind.i64.wrap (Used_8 + n_9)) + 1))], .row (tBool).o 4 v_17 s_18, .row ((tInt .i64)).o 2 v_23 s_24, .row (T6).o 85 v_30 x_27.1, .cell c_10 [.i 0, .i 0, .i 0]] := HeldOK.same [0, 1, 2, 3, 4] (by decide) rfl
      refine JA_takep 0 rfl hns (by kernel_rfl) (by kernel_rfl) rfl (.inr hS_33) rfl rfl rfl (r_move (v := .pointer (some (Addr.add a_1 0))) rfl) ?_
      refine JA_takep 1 rfl hns (by kernel_rfl) (by kernel_rfl) rfl (.inr hS_33) rfl rfl rfl (r_move (v := .pointer (some (Addr.add a_1 0))) rfl) ?_
      refine JA_takep 2 rfl hns (by kernel_rfl) (by kernel_rfl) rfl (.inr hS_33) rfl rfl rfl (r_nilCheck (a := (Addr.add a_1 0)) rfl) ?_
      refine JA_takep 3 rfl hns (by kernel_rfl) (by kernel_rfl) rfl (.inr hS_33) rfl rfl rfl (r_fieldAddr (r := Addr.add a_1 2) pu56 (f := Try.pf56.getD 2 default) rfl pi54 (by decide) rfl (Addr.add_add _ _ _)) ?_
      refine JA_take 4 rfl hns (by kernel_rfl) (by kernel_rfl) (by kernel_rfl) rfl (by kernel_rfl) hS_33 rfl rfl rfl (r_load_priv (a := a_1) (off := 2) (cs' := [v_30]) (v := v_30) 0 pu54 pi54 rfl rfl rfl rfl (by decide) rfl) ?_
      refine JA_takep 5 rfl hns (by kernel_rfl) (by kernel_rfl) rfl (.inr hS_33) rfl rfl rfl (r_move (v := .pointer (some (Addr.add a_1 0))) rfl) ?_
      refine JA_takep 6 rfl hns (by kernel_rfl) (by kernel_rfl) rfl (.inr hS_33) rfl rfl rfl (r_nilCheck (a := (Addr.add a_1 0)) rfl) ?_
      refine JA_takep 7 rfl hns (by kernel_rfl) (by kernel_rfl) rfl (.inr hS_33) rfl rfl rfl (r_fieldAddr (r := Addr.add a_1 0) pu56 (f := Try.pf56.getD 0 default) rfl pi23 (by decide) rfl (Addr.add_add _ _ _)) ?_
      refine JA_take 8 rfl hns (by kernel_rfl) (by kernel_rfl) (by kernel_rfl) rfl (by kernel_rfl) hS_33 rfl rfl rfl (r_load_priv (a := a_1) (off := 0) (cs' := [v_17]) (v := v_17) 0 pu23 pi23 rfl rfl rfl rfl (by decide) rfl) ?_
      refine JA_take 9 rfl hns (by kernel_rfl) (by kernel_rfl) (by kernel_rfl) rfl (by kernel_rfl) hS_33 rfl rfl rfl (r_len_row (v := v_17) 1 pu23 rfl rfl) ?_
      refine JA_takep 10 rfl hns (by kernel_rfl) (by kernel_rfl) rfl (.inr hS_33) rfl rfl rfl (r_move (v := .i x_27.2) rfl) ?_
      refine JA_takep 11 rfl hns (by kernel_rfl) (by kernel_rfl) rfl (.inr hS_33) rfl rfl rfl (r_build (cs := [.i s_18.len, .i x_27.2, .i 0, .i 0, .i 0, .i 0, .bool false]) (vs := [(0, .i s_18.len), (1, .i x_27.2)]) (pcs := [(0, [.i s_18.len]), (1, [.i x_27.2])]) (pls := [(0, 1), (1, 1), (2, 3), (5, 1), (6, 1)]) pu85 pi85 rfl (by kernel_rfl) rfl ⟨rfl, rfl, ⟨rfl, rfl, trivial⟩⟩ rfl) ?_
      refine JA_op (i := 12) (by kernel_rfl) rfl rfl (op_buildSlice (T := (T6).o) (vs := [.agg #[.i s_18.len, .i x_27.2, .i 0, .i 0, .i 0, .i 0, .bool false]]) (xs := [(⟨s_18.len, x_27.2, (⟨0, 0, 0⟩ : Glychgateref06_Value), 0, false⟩ : Glychgateref06_Cell)]) [] [.cell a_1 [v_17, v_23, v_30, .i (IntKind.i64.wrap ((IntKind.i64.wrap (Used_8 + n_9)) + 1))], .row (tBool).o 4 v_17 s_18, .row ((tInt .i64)).o 2 v_23 s_24, .row (T6).o 85 v_30 x_27.1, .cell c_10 [.i 0, .i 0, .i 0]] rfl pu54 pi85 rfl rfl rfl rfl rfl rfl (relsO_cons (A := []) (B := []) (u := .agg #[.i s_18.len, .i x_27.2, .i 0, .i 0, .i 0, .i 0, .bool false]) (x := (⟨s_18.len, x_27.2, (⟨0, 0, 0⟩ : Glychgateref06_Value), 0, false⟩ : Glychgateref06_Cell)) (fix_vrel (T := (T6).o) rfl (T6_v.2 rfl)) relsO_nil) ?_)
      intro v_34
      have hS_36 : HeldOK σ [.cell a_1 [v_17, v_23, v_30, .i (IntKind.i64.wrap ((IntKind.i64.wrap (Used_8 + n_9)) + 1))], .row (tBool).o 4 v_17 s_18, .row ((tInt .i64)).o 2 v_23 s_24, .row (T6).o 85 v_30 x_27.1, .cell c_10 [.i 0, .i 0, .i 0]] σ [.row (T6).o 85 v_34 (⟨[(⟨s_18.len, x_27.2, (⟨0, 0, 0⟩ : Glychgateref06_Value), 0, false⟩ : Glychgateref06_Cell)], true⟩ : Sl Glychgateref06_Cell), .cell a_1 [v_17, v_23, v_30, .i (IntKind.i64.wrap ((IntKind.i64.wrap (Used_8 + n_9)) + 1))], .row (tBool).o 4 v_17 s_18, .row ((tInt .i64)).o 2 v_23 s_24, .row (T6).o 85 v_30 x_27.1, .cell c_10 [.i 0, .i 0, .i 0]] := HeldOK.same [1, 2, 3, 4, 5] (by decide) rfl
      refine ⟨.inr hS_36, ?_⟩
      refine J_select (PV' := [.row (T6).o 85 v_30 x_27.1, .row (T6).o 85 v_34 (⟨[(⟨s_18.len, x_27.2, (⟨0, 0, 0⟩ : Glychgateref06_Value), 0, false⟩ : Glychgateref06_Cell)], true⟩ : Sl Glychgateref06_Cell), .cell a_1 [v_17, v_23, v_30, .i (IntKind.i64.wrap ((IntKind.i64.wrap (Used_8 + n_9)) + 1))], .row (tBool).o 4 v_17 s_18, .row ((tInt .i64)).o 2 v_23 s_24, .cell c_10 [.i 0, .i 0, .i 0]]) [4, 0, 1, 2, 3, 5] (by decide) rfl ?_
      have hS_40 : HeldOK σ [.cell a_1 [v_17, v_23, v_30, .i (IntKind.i64.wrap ((IntKind.i64.wrap (Used_8 + n_9)) + 1))], .row (tBool).o 4 v_17 s_18, .row ((tInt .i64)).o 2 v_23 s_24, .row (T6).o 85 v_30 x_27.1, .cell c_10 [.i 0, .i 0, .i 0]] σ [.row (T6).o 85 v_30 x_27.1, .row (T6).o 85 v_34 (⟨[(⟨s_18.len, x_27.2, (⟨0, 0, 0⟩ : Glychgateref06_Value), 0, false⟩ : Glychgateref06_Cell)], true⟩ : Sl Glychgateref06_Cell), .cell a_1 [v_17, v_23, v_30, .i (IntKind.i64.wrap ((IntKind.i64.wrap (Used_8 + n_9)) + 1))], .row (tBool).o 4 v_17 s_18, .row ((tInt .i64)).o 2 v_23 s_24, .cell c_10 [.i 0, .i 0, .i 0]] := HeldOK.same [2, 3, 4, 0, 5] (by decide) rfl
      refine JA_op (i := 13) (by kernel_rfl) rfl rfl (op_append (v := v_30) (u := v_34) (T := (T6).o) (ts := [(⟨s_18.len, x_27.2, (⟨0, 0, 0⟩ : Glychgateref06_Value), 0, false⟩ : Glychgateref06_Cell)]) [] [.row (T6).o 85 v_34 (⟨[(⟨s_18.len, x_27.2, (⟨0, 0, 0⟩ : Glychgateref06_Value), 0, false⟩ : Glychgateref06_Cell)], true⟩ : Sl Glychgateref06_Cell), .cell a_1 [v_17, v_23, v_30, .i (IntKind.i64.wrap ((IntKind.i64.wrap (Used_8 + n_9)) + 1))], .row (tBool).o 4 v_17 s_18, .row ((tInt .i64)).o 2 v_23 s_24, .cell c_10 [.i 0, .i 0, .i 0]] rfl pu54 pi85 rfl rfl rfl rfl rfl rfl (source_copy (s := (⟨[(⟨s_18.len, x_27.2, (⟨0, 0, 0⟩ : Glychgateref06_Value), 0, false⟩ : Glychgateref06_Cell)], true⟩ : Sl Glychgateref06_Cell)) 1 rfl) ?_)
      intro s_38 v_37 hs_39
      refine ⟨.inl (.inl rfl), ?_⟩
      refine JA_takep 14 rfl hns (by kernel_rfl) (by kernel_rfl) rfl (.inl rfl) rfl rfl rfl (r_nilCheck (a := (Addr.add a_1 0)) rfl) ?_
      refine JA_takep 15 rfl hns (by kernel_rfl) (by kernel_rfl) rfl (.inl rfl) rfl rfl rfl (r_fieldAddr (r := Addr.add a_1 2) pu56 (f := Try.pf56.getD 2 default) rfl pi54 (by decide) rfl (Addr.add_add _ _ _)) ?_
      refine J_row_one 0 rfl fun h_41 => ?_
      refine JA_op (i := 16) (by kernel_rfl) rfl rfl (op_store_priv (a := a_1) (off := 2) (vs := [v_37]) (cs' := [v_17, v_23, v_37, .i (IntKind.i64.wrap ((IntKind.i64.wrap (Used_8 + n_9)) + 1))]) (PV' := [.row (T6).o 85 v_37 s_38, .row (T6).o 85 v_34 (⟨[(⟨s_18.len, x_27.2, (⟨0, 0, 0⟩ : Glychgateref06_Value), 0, false⟩ : Glychgateref06_Cell)], true⟩ : Sl Glychgateref06_Cell), .cell a_1 [v_17, v_23, v_37, .i (IntKind.i64.wrap ((IntKind.i64.wrap (Used_8 + n_9)) + 1))], .row (tBool).o 4 v_17 s_18, .row ((tInt .i64)).o 2 v_23 s_24, .cell c_10 [.i 0, .i 0, .i 0]]) 2 pi54 rfl (one_cells h_41) rfl ⟨h_41, trivial⟩ rfl rfl rfl rfl rfl ?_)
      refine ⟨.inl (.inr rfl), ?_⟩
      refine JA_done (by kernel_rfl) ?_
      refine J_in_normal ?_
      refine J_then ?_
      refine J_region ?_
      refine JL_op rfl (op_read rfl rfl (r_move (v := .i x_27.2) rfl) ?_)
      refine JL_op rfl (op_read rfl rfl (r_add rfl rfl) ?_)
      refine JL_op rfl (op_read rfl rfl (r_assign (v := .i (IntKind.i64.wrap (x_27.2 + 1))) rfl) ?_)
      refine JL_nil ?_
      refine J_select (PV' := [.cell a_1 [v_17, v_23, v_37, .i (IntKind.i64.wrap ((IntKind.i64.wrap (Used_8 + n_9)) + 1))], .row (tBool).o 4 v_17 s_18, .row ((tInt .i64)).o 2 v_23 s_24, .row (T6).o 85 v_37 s_38, .cell c_10 [.i 0, .i 0, .i 0]]) [2, 3, 4, 0, 5] (by decide) rfl ?_
      refine J_next _ ?_ ⟨v_37, rfl, rfl, rfl⟩
      exact ⟨rfl, rfl, rfl, rfl, trivial⟩
     ·refine J_exit ?_
      refine J_then_exit ?_
      refine J_done trivial _ ?_ ⟨rfl, v_30, rfl, rfl, rfl⟩
      exact ⟨rfl, rfl, trivial⟩
    ·rintro y_43 _ _ b s_47 _ ⟨rfl, ⟨v_46, rfl, rfl, rfl⟩⟩
     refine J_in_exit ?_
     refine J_then ?_
     refine J_seq ?_
     refine J_region ?_
     refine JL_op rfl (op_read rfl rfl (r_move (v := .pointer (some (Addr.add a_1 0))) rfl) ?_)
     refine JL_op rfl (op_read rfl rfl (r_nilCheck (a := (Addr.add a_1 0)) rfl) ?_)
     refine JL_op rfl (op_read rfl rfl (r_fieldAddr (r := Addr.add a_1 0) pu56 (f := Try.pf56.getD 0 default) rfl pi23 (by decide) rfl (Addr.add_add _ _ _)) ?_)
     refine JL_op rfl (op_read rfl rfl (r_load_priv (a := a_1) (off := 0) (cs' := [v_17]) (v := v_17) 0 pu23 pi23 rfl rfl rfl rfl (by decide) rfl) ?_)
     refine JL_op rfl (op_read rfl rfl (r_len_row (v := v_17) 1 pu23 rfl rfl) ?_)
     refine JL_op rfl (op_read rfl rfl (r_build (cs := [.i 2, .i 0, .i s_18.len]) (vs := [(0, .i 2), (2, .i s_18.len)]) (pcs := [(0, [.i 2]), (2, [.i s_18.len])]) (pls := [(0, 1), (1, 1), (2, 1)]) pu74 pi74 rfl (by kernel_rfl) rfl ⟨rfl, rfl, ⟨rfl, rfl, trivial⟩⟩ rfl) ?_)
     refine JL_op rfl (op_store_priv (a := c_10) (off := 0) (vs := [.i 2, .i 0, .i s_18.len]) (cs' := [.i 2, .i 0, .i s_18.len]) (PV' := [.cell a_1 [v_17, v_23, v_46, .i (IntKind.i64.wrap ((IntKind.i64.wrap (Used_8 + n_9)) + 1))], .row (tBool).o 4 v_17 s_18, .row ((tInt .i64)).o 2 v_23 s_24, .row (T6).o 85 v_46 y_43, .cell c_10 [.i 2, .i 0, .i s_18.len]]) 4 pi74 rfl rfl rfl ⟨rfl, rfl, rfl, trivial⟩ rfl rfl rfl rfl rfl ?_)
     refine JL_op rfl (op_read rfl rfl (r_assign (v := .bool true) rfl) ?_)
     refine JL_nil ?_
     refine J_then ?_
     refine J_ret ?_
     exact J_returnV2 (PV' := [.cell a_1 [v_17, v_23, v_46, .i (IntKind.i64.wrap ((IntKind.i64.wrap (Used_8 + n_9)) + 1))], .row (tBool).o 4 v_17 s_18, .row ((tInt .i64)).o 2 v_23 s_24, .row (T6).o 85 v_46 y_43]) rfl (rv_cell (cs := [.i 2, .i 0, .i s_18.len]) (v := .agg #[.i 2, .i 0, .i s_18.len]) 4 pu74 pi74 rfl rfl rfl (by decide) rfl) rv_tmp [0, 1, 2, 3] (by decide) rfl ⟨v_17, v_23, v_46, rfl, rfl, rfl⟩
def lychgateref06_live_post (σ0 : FS) (a_1 : Addr) (v_2 : Value) (x_3 : Sl Bool) (v_4 : Value) (x_5 : Sl Int) (v_6 : Value) (x_7 : Sl Glychgateref06_Cell) (Used_8 : Int) (v_9 : Value) (p_10 : Glychgateref06_Value) (r : Int) (σ : FS) (PV : List Priv) (v : Value) : Prop :=
 σ0 = σ ∧ .i r = v ∧ PV = [.cell a_1 [v_2, v_4, v_6, .i Used_8], .row (tBool).o 4 v_2 x_3, .row ((tInt .i64)).o 2 v_4 x_5, .row (T6).o 85 v_6 x_7]
set_option maxRecDepth 100000 in
theorem lychgateref06_live_ref (s : Start) (σ : FS) (a_1 : Addr) (v_2 : Value) (x_3 : Sl Bool) (v_4 : Value) (x_5 : Sl Int) (v_6 : Value) (x_7 : Sl Glychgateref06_Cell) (Used_8 : Int) (v_9 : Value) (p_10 : Glychgateref06_Value) (h_11 : T4.vrel σ v_9 p_10) (hs : Pre s σ [.cell a_1 [v_2, v_4, v_6, .i Used_8], .row (tBool).o 4 v_2 x_3, .row ((tInt .i64)).o 2 v_4 x_5, .row (T6).o 85 v_6 x_7]) (r : Int) (hr : lychgateref06_live x_3 x_5 x_7 Used_8 p_10 = some r) : Does Try.prog 37 [.pointer (some (Addr.add a_1 0)), v_9] s σ (lychgateref06_live_post σ a_1 v_2 x_3 v_4 x_5 v_6 x_7 Used_8 v_9 p_10 r) := by
 unfold lychgateref06_live at hr
 obtain rfl := T4_v.1 h_11
 refine does_of_J Try.func37 rfl (n := 31) rfl rfl hs hr ?_
 refine J_seq ?_
 refine J_region ?_
 refine JL_op rfl (op_box (cs := [.i p_10.Kind, .i p_10.N, .i p_10.Block]) rfl rfl ?_)
 intro c_12
 refine JL_op rfl (op_read rfl rfl (r_assign (v := .i 0) rfl) ?_)
 refine JL_nil ?_
 refine J_then ?_
 refine J_seq ?_
 refine J_seq ?_
 refine J_region ?_
 refine JL_op rfl (op_read rfl rfl (r_fieldAddr (r := Addr.add c_12 0) pu74 (f := Try.pf74.getD 0 default) rfl pi3 (by decide) rfl (Addr.add_add _ _ _)) ?_)
 refine JL_op rfl (op_read rfl rfl (r_load_priv (a := c_12) (off := 0) (cs' := [.i p_10.Kind]) (v := .i p_10.Kind) 0 pu3 pi3 rfl rfl rfl rfl (by decide) rfl) ?_)
 refine JL_op rfl (op_read rfl rfl (r_neq rfl rfl) ?_)
 refine JL_nil ?_
 refine J_then ?_
 refine J_cond rfl (fun hc_14 => ?_) (fun hc_14 => ?_)
 ·refine J_seq ?_
  refine J_region ?_
  refine JL_op rfl (op_read rfl rfl (r_assign (v := .i 1) rfl) ?_)
  refine JL_nil ?_
  refine J_then ?_
  refine J_ret ?_
  refine J_then_ret ?_
  exact J_returnV1 (PV' := [.cell a_1 [v_2, v_4, v_6, .i Used_8], .row (tBool).o 4 v_2 x_3, .row ((tInt .i64)).o 2 v_4 x_5, .row (T6).o 85 v_6 x_7]) rfl rv_tmp [1, 2, 3, 4] (by decide) rfl ⟨rfl, rfl, rfl⟩
 ·refine J_skip ?_
  refine J_then ?_
  refine J_seq ?_
  refine J_seq ?_
  refine J_region_any 13 [.cell c_12 [.i p_10.Kind, .i p_10.N, .i p_10.Block], .cell a_1 [v_2, v_4, v_6, .i Used_8], .row (tBool).o 4 v_2 x_3, .row ((tInt .i64)).o 2 v_4 x_5, .row (T6).o 85 v_6 x_7] Try.mixed (by kernel_rfl) fun hns => ?_
  have hS_15 : HeldOK σ [.cell c_12 [.i p_10.Kind, .i p_10.N, .i p_10.Block], .cell a_1 [v_2, v_4, v_6, .i Used_8], .row (tBool).o 4 v_2 x_3, .row ((tInt .i64)).o 2 v_4 x_5, .row (T6).o 85 v_6 x_7] σ [.cell c_12 [.i p_10.Kind, .i p_10.N, .i p_10.Block], .cell a_1 [v_2, v_4, v_6, .i Used_8], .row (tBool).o 4 v_2 x_3, .row ((tInt .i64)).o 2 v_4 x_5, .row (T6).o 85 v_6 x_7] := HeldOK.same [0, 1, 2, 3, 4] (by decide) rfl
  refine JA_takep 0 rfl hns (by kernel_rfl) (by kernel_rfl) rfl (.inr hS_15) rfl rfl rfl (r_fieldAddr (r := Addr.add c_12 2) pu74 (f := Try.pf74.getD 2 default) rfl pi3 (by decide) rfl (Addr.add_add _ _ _)) ?_
  refine JA_take 1 rfl hns (by kernel_rfl) (by kernel_rfl) (by kernel_rfl) rfl (by kernel_rfl) hS_15 rfl rfl rfl (r_load_priv (a := c_12) (off := 2) (cs' := [.i p_10.Block]) (v := .i p_10.Block) 0 pu3 pi3 rfl rfl rfl rfl (by decide) rfl) ?_
  refine JA_takep 2 rfl hns (by kernel_rfl) (by kernel_rfl) rfl (.inr hS_15) rfl rfl rfl (r_lss rfl rfl) ?_
  refine JA_takep 3 rfl hns (by kernel_rfl) (by kernel_rfl) rfl (.inr hS_15) rfl rfl rfl (r_move (v := .bool (decide (p_10.Block < 1))) rfl) ?_
  refine J_forkA (e := (decide (p_10.Block < 1))) 0 #[true, true, true, true, true, true, true, true, true, true, true, true, true] [(0, .pointer (some (Addr.add a_1 0))), (3, .pointer (some (Addr.add c_12 0))), (20, .bool (decide (p_10.Block < 1) || decide (x_3.len < p_10.Block)))] (fun hc_16 hk => ?_) (fun hc_16 hk => ?_) (fun b => ?_)
  ·refine JA_skip (y := some (decide (p_10.Block < 1))) 4 rfl hns (by kernel_rfl) (by kernel_rfl) rfl (.inr hS_15) rfl rfl (by rw [hc_16]; decide) rfl rfl ?_
   refine JA_skip (y := some (decide (p_10.Block < 1))) 5 rfl hns (by kernel_rfl) (by kernel_rfl) rfl (.inr hS_15) rfl rfl (by rw [hc_16]; decide) rfl rfl ?_
   refine JA_skip (y := some (decide (p_10.Block < 1))) 6 rfl hns (by kernel_rfl) (by kernel_rfl) rfl (.inr hS_15) rfl rfl (by rw [hc_16]; decide) rfl rfl ?_
   refine JA_skip (y := some (decide (p_10.Block < 1))) 7 rfl hns (by kernel_rfl) (by kernel_rfl) rfl (.inr hS_15) rfl rfl (by rw [hc_16]; decide) rfl rfl ?_
   refine JA_skip (y := some (decide (p_10.Block < 1))) 8 rfl hns (by kernel_rfl) (by kernel_rfl) rfl (.inr hS_15) rfl rfl (by rw [hc_16]; decide) rfl rfl ?_
   refine JA_skip (y := some (decide (p_10.Block < 1))) 9 rfl hns (by kernel_rfl) (by kernel_rfl) rfl (.inr hS_15) rfl rfl (by rw [hc_16]; decide) rfl rfl ?_
   refine JA_skip (y := some (decide (p_10.Block < 1))) 10 rfl hns (by kernel_rfl) (by kernel_rfl) rfl (.inr hS_15) rfl rfl (by rw [hc_16]; decide) rfl rfl ?_
   refine JA_skip (y := some (decide (p_10.Block < 1))) 11 rfl hns (by kernel_rfl) (by kernel_rfl) rfl (.inr hS_15) rfl rfl (by rw [hc_16]; decide) rfl rfl ?_
   refine JA_takep 12 rfl hns (by kernel_rfl) (by kernel_rfl) rfl (.inr hS_15) rfl rfl rfl (r_pick_t (v := .bool true) rfl hc_16 rfl) ?_
   refine J_prune [(0, .pointer (some (Addr.add a_1 0))), (3, .pointer (some (Addr.add c_12 0))), (20, .bool (decide (p_10.Block < 1) || decide (x_3.len < p_10.Block)))] ⟨rfl, rfl, (by show Value.bool _ = Value.bool _; rw [hc_16]; rfl), trivial⟩ hk
  ·refine JA_takepg 4 rfl hns (by kernel_rfl) (by kernel_rfl) rfl (.inr hS_15) rfl rfl hc_16 rfl rfl (r_fieldAddr (r := Addr.add c_12 2) pu74 (f := Try.pf74.getD 2 default) rfl pi3 (by decide) rfl (Addr.add_add _ _ _)) ?_
   refine JA_takeg 5 rfl hns (by kernel_rfl) (by kernel_rfl) (by kernel_rfl) rfl (by kernel_rfl) hS_15 rfl rfl hc_16 rfl rfl (r_load_priv (a := c_12) (off := 2) (cs' := [.i p_10.Block]) (v := .i p_10.Block) 0 pu3 pi3 rfl rfl rfl rfl (by decide) rfl) ?_
   refine JA_takepg 6 rfl hns (by kernel_rfl) (by kernel_rfl) rfl (.inr hS_15) rfl rfl hc_16 rfl rfl (r_move (v := .pointer (some (Addr.add a_1 0))) rfl) ?_
   refine JA_takepg 7 rfl hns (by kernel_rfl) (by kernel_rfl) rfl (.inr hS_15) rfl rfl hc_16 rfl rfl (r_nilCheck (a := (Addr.add a_1 0)) rfl) ?_
   refine JA_takepg 8 rfl hns (by kernel_rfl) (by kernel_rfl) rfl (.inr hS_15) rfl rfl hc_16 rfl rfl (r_fieldAddr (r := Addr.add a_1 0) pu56 (f := Try.pf56.getD 0 default) rfl pi23 (by decide) rfl (Addr.add_add _ _ _)) ?_
   refine JA_takeg 9 rfl hns (by kernel_rfl) (by kernel_rfl) (by kernel_rfl) rfl (by kernel_rfl) hS_15 rfl rfl hc_16 rfl rfl (r_load_priv (a := a_1) (off := 0) (cs' := [v_2]) (v := v_2) 1 pu23 pi23 rfl rfl rfl rfl (by decide) rfl) ?_
   refine JA_takeg 10 rfl hns (by kernel_rfl) (by kernel_rfl) (by kernel_rfl) rfl (by kernel_rfl) hS_15 rfl rfl hc_16 rfl rfl (r_len_row (v := v_2) 2 pu23 rfl rfl) ?_
   refine JA_takepg 11 rfl hns (by kernel_rfl) (by kernel_rfl) rfl (.inr hS_15) rfl rfl hc_16 rfl rfl (r_gtr rfl rfl) ?_
   refine JA_takep 12 rfl hns (by kernel_rfl) (by kernel_rfl) rfl (.inr hS_15) rfl rfl rfl (r_pick_f (v := .bool (decide (x_3.len < p_10.Block))) rfl hc_16 rfl) ?_
   refine J_prune [(0, .pointer (some (Addr.add a_1 0))), (3, .pointer (some (Addr.add c_12 0))), (20, .bool (decide (p_10.Block < 1) || decide (x_3.len < p_10.Block)))] ⟨rfl, rfl, (by show Value.bool _ = Value.bool _; rw [hc_16]; rfl), trivial⟩ hk
  ·refine JA_done (by kernel_rfl) ?_
   refine J_then ?_
   refine J_cond rfl (fun hc_17 => ?_) (fun hc_17 => ?_)
   ·refine J_seq ?_
    refine J_region ?_
    refine JL_op rfl (op_read rfl rfl (r_assign (v := .i 2) rfl) ?_)
    refine JL_nil ?_
    refine J_then ?_
    refine J_ret ?_
    refine J_then_ret ?_
    exact J_returnV1 (PV' := [.cell a_1 [v_2, v_4, v_6, .i Used_8], .row (tBool).o 4 v_2 x_3, .row ((tInt .i64)).o 2 v_4 x_5, .row (T6).o 85 v_6 x_7]) rfl rv_tmp [1, 2, 3, 4] (by decide) rfl ⟨rfl, rfl, rfl⟩
   ·refine J_skip ?_
    refine J_then ?_
    refine J_seq ?_
    refine J_seq ?_
    refine J_region_any 10 [.cell c_12 [.i p_10.Kind, .i p_10.N, .i p_10.Block], .cell a_1 [v_2, v_4, v_6, .i Used_8], .row (tBool).o 4 v_2 x_3, .row ((tInt .i64)).o 2 v_4 x_5, .row (T6).o 85 v_6 x_7] Try.mixed (by kernel_rfl) fun hns => ?_
    have hS_18 : HeldOK σ [.cell c_12 [.i p_10.Kind, .i p_10.N, .i p_10.Block], .cell a_1 [v_2, v_4, v_6, .i Used_8], .row (tBool).o 4 v_2 x_3, .row ((tInt .i64)).o 2 v_4 x_5, .row (T6).o 85 v_6 x_7] σ [.cell c_12 [.i p_10.Kind, .i p_10.N, .i p_10.Block], .cell a_1 [v_2, v_4, v_6, .i Used_8], .row (tBool).o 4 v_2 x_3, .row ((tInt .i64)).o 2 v_4 x_5, .row (T6).o 85 v_6 x_7] := HeldOK.same [0, 1, 2, 3, 4] (by decide) rfl
    refine JA_takep 0 rfl hns (by kernel_rfl) (by kernel_rfl) rfl (.inr hS_18) rfl rfl rfl (r_move (v := .pointer (some (Addr.add a_1 0))) rfl) ?_
    refine JA_takep 1 rfl hns (by kernel_rfl) (by kernel_rfl) rfl (.inr hS_18) rfl rfl rfl (r_nilCheck (a := (Addr.add a_1 0)) rfl) ?_
    refine JA_takep 2 rfl hns (by kernel_rfl) (by kernel_rfl) rfl (.inr hS_18) rfl rfl rfl (r_fieldAddr (r := Addr.add a_1 0) pu56 (f := Try.pf56.getD 0 default) rfl pi23 (by decide) rfl (Addr.add_add _ _ _)) ?_
    refine JA_take 3 rfl hns (by kernel_rfl) (by kernel_rfl) (by kernel_rfl) rfl (by kernel_rfl) hS_18 rfl rfl rfl (r_load_priv (a := a_1) (off := 0) (cs' := [v_2]) (v := v_2) 1 pu23 pi23 rfl rfl rfl rfl (by decide) rfl) ?_
    refine JA_takep 4 rfl hns (by kernel_rfl) (by kernel_rfl) rfl (.inr hS_18) rfl rfl rfl (r_fieldAddr (r := Addr.add c_12 2) pu74 (f := Try.pf74.getD 2 default) rfl pi3 (by decide) rfl (Addr.add_add _ _ _)) ?_
    refine JA_take 5 rfl hns (by kernel_rfl) (by kernel_rfl) (by kernel_rfl) rfl (by kernel_rfl) hS_18 rfl rfl rfl (r_load_priv (a := c_12) (off := 2) (cs' := [.i p_10.Block]) (v := .i p_10.Block) 0 pu3 pi3 rfl rfl rfl rfl (by decide) rfl) ?_
    refine JA_takep 6 rfl hns (by kernel_rfl) (by kernel_rfl) rfl (.inr hS_18) rfl rfl rfl (r_sub rfl rfl) ?_
    refine J_bind fun x_19 hx_20 => ?_
    refine JA_take 7 rfl hns (by kernel_rfl) (by kernel_rfl) (by kernel_rfl) rfl (by kernel_rfl) hS_18 rfl rfl rfl (r_index_row (v := v_2) (T := (tBool).o) (q := x_19) 2 pu23 pi4 rfl rfl rfl rfl hx_20) ?_
    refine JA_takes 8 rfl hns (by kernel_rfl) (by kernel_rfl) (by kernel_rfl) rfl (by kernel_rfl) hS_18 rfl rfl rfl (l_elem_orow (v := v_2) (T := (tBool).o) (Tf := tBool) (q := x_19) (i := (IntKind.i64.wrap (p_10.Block - 1))) (off := 0) 2 pu4 pi4 rfl rfl rfl rfl hx_20 (OFieldAt.self (T := (tBool).o)) (by decide)) ?_
    intro v_21 h_22
    obtain rfl := tBool_v.1 h_22
    refine JA_takep 9 rfl hns (by kernel_rfl) (by kernel_rfl) rfl (.inr hS_18) rfl rfl rfl (r_not rfl) ?_
    refine JA_done (by kernel_rfl) ?_
    refine J_then ?_
    refine J_cond rfl (fun hc_23 => ?_) (fun hc_23 => ?_)
    ·refine J_seq ?_
     refine J_region ?_
     refine JL_op rfl (op_read rfl rfl (r_assign (v := .i 2) rfl) ?_)
     refine JL_nil ?_
     refine J_then ?_
     refine J_ret ?_
     refine J_then_ret ?_
     exact J_returnV1 (PV' := [.cell a_1 [v_2, v_4, v_6, .i Used_8], .row (tBool).o 4 v_2 x_3, .row ((tInt .i64)).o 2 v_4 x_5, .row (T6).o 85 v_6 x_7]) rfl rv_tmp [1, 2, 3, 4] (by decide) rfl ⟨rfl, rfl, rfl⟩
    ·refine J_skip ?_
     refine J_then ?_
     refine J_seq ?_
     refine J_region ?_
     refine JL_op rfl (op_read rfl rfl (r_assign (v := .i 0) rfl) ?_)
     refine JL_nil ?_
     refine J_then ?_
     refine J_ret ?_
     exact J_returnV1 (PV' := [.cell a_1 [v_2, v_4, v_6, .i Used_8], .row (tBool).o 4 v_2 x_3, .row ((tInt .i64)).o 2 v_4 x_5, .row (T6).o 85 v_6 x_7]) rfl rv_tmp [1, 2, 3, 4] (by decide) rfl ⟨rfl, rfl, rfl⟩
def lychgateref06_Free_post (σ0 : FS) (a_1 : Addr) (v_2 : Value) (x_3 : Sl Bool) (v_4 : Value) (x_5 : Sl Int) (v_6 : Value) (x_7 : Sl Glychgateref06_Cell) (Used_8 : Int) (v_9 : Value) (p_10 : Glychgateref06_Value) (r : Int × (Sl Bool)) (σ : FS) (PV : List Priv) (v : Value) : Prop :=
 σ0 = σ ∧ .i r.1 = v ∧ PV = [.cell a_1 [v_2, v_4, v_6, .i Used_8], .row (tBool).o 4 v_2 r.2, .row ((tInt .i64)).o 2 v_4 x_5, .row (T6).o 85 v_6 x_7]
set_option maxRecDepth 100000 in
theorem lychgateref06_Free_ref (s : Start) (σ : FS) (a_1 : Addr) (v_2 : Value) (x_3 : Sl Bool) (v_4 : Value) (x_5 : Sl Int) (v_6 : Value) (x_7 : Sl Glychgateref06_Cell) (Used_8 : Int) (v_9 : Value) (p_10 : Glychgateref06_Value) (h_11 : T4.vrel σ v_9 p_10) (hs : Pre s σ [.cell a_1 [v_2, v_4, v_6, .i Used_8], .row (tBool).o 4 v_2 x_3, .row ((tInt .i64)).o 2 v_4 x_5, .row (T6).o 85 v_6 x_7]) (r : Int × (Sl Bool)) (hr : lychgateref06_Free x_3 x_5 x_7 Used_8 p_10 = some r) : Does Try.prog 32 [.pointer (some (Addr.add a_1 0)), v_9] s σ (lychgateref06_Free_post σ a_1 v_2 x_3 v_4 x_5 v_6 x_7 Used_8 v_9 p_10 r) := by
 unfold lychgateref06_Free at hr
 obtain rfl := T4_v.1 h_11
 refine does_of_J Try.func32 rfl (n := 65) rfl rfl hs hr ?_
 refine J_seq ?_
 refine J_region ?_
 refine JL_op rfl (op_box (cs := [.i p_10.Kind, .i p_10.N, .i p_10.Block]) rfl rfl ?_)
 intro c_12
 refine JL_op rfl (op_read rfl rfl (r_assign (v := .i 0) rfl) ?_)
 refine JL_nil ?_
 refine J_then ?_
 refine J_seq ?_
 refine J_region ?_
 refine JL_op rfl (op_read rfl rfl (r_move (v := .pointer (some (Addr.add a_1 0))) rfl) ?_)
 refine JL_op rfl (op_read rfl rfl (r_load_priv (a := c_12) (off := 0) (cs' := [.i p_10.Kind, .i p_10.N, .i p_10.Block]) (v := .agg #[.i p_10.Kind, .i p_10.N, .i p_10.Block]) 0 pu74 pi74 rfl rfl rfl rfl (by decide) rfl) ?_)
 refine J_select (PV' := [.cell a_1 [v_2, v_4, v_6, .i Used_8], .row (tBool).o 4 v_2 x_3, .row ((tInt .i64)).o 2 v_4 x_5, .row (T6).o 85 v_6 x_7, .cell c_12 [.i p_10.Kind, .i p_10.N, .i p_10.Block]]) [1, 2, 3, 4, 0] (by decide) rfl ?_
 refine JL_op rfl (op_call (f := 37) (fn := Try.f37) (args := [.pointer (some (Addr.add a_1 0)), .agg #[.i p_10.Kind, .i p_10.N, .i p_10.Block]]) (post := lychgateref06_live_post σ a_1 v_2 x_3 v_4 x_5 v_6 x_7 Used_8 (.agg #[.i p_10.Kind, .i p_10.N, .i p_10.Block]) p_10) [.cell a_1 [v_2, v_4, v_6, .i Used_8], .row (tBool).o 4 v_2 x_3, .row ((tInt .i64)).o 2 v_4 x_5, .row (T6).o 85 v_6 x_7] [.cell c_12 [.i p_10.Kind, .i p_10.N, .i p_10.Block]] rfl rfl rfl Try.func37 pn37 rfl rfl (fun y st hy hpre => lychgateref06_live_ref st σ a_1 v_2 x_3 v_4 x_5 v_6 x_7 Used_8 (.agg #[.i p_10.Kind, .i p_10.N, .i p_10.Block]) p_10 (T4_v.2 rfl) hpre y hy) ?_)
 intro r_14 v_16 s_19 PV_17 hr_15 hle_20 hp_18
 obtain ⟨rfl, rfl, rfl⟩ := hp_18
 refine JL_op rfl (op_read rfl rfl (r_assign (v := .i r_14) rfl) ?_)
 refine JL_nil ?_
 refine J_then ?_
 refine J_seq ?_
 refine J_seq ?_
 refine J_region ?_
 refine JL_op rfl (op_read rfl rfl (r_move (v := .i r_14) rfl) ?_)
 refine JL_op rfl (op_read rfl rfl (r_neq rfl rfl) ?_)
 refine JL_nil ?_
 refine J_then ?_
 refine J_cond rfl (fun hc_21 => ?_) (fun hc_21 => ?_)
 ·refine J_seq ?_
  refine J_region ?_
  refine JL_op rfl (op_read rfl rfl (r_move (v := .i r_14) rfl) ?_)
  refine JL_op rfl (op_read rfl rfl (r_assign (v := .i r_14) rfl) ?_)
  refine JL_nil ?_
  refine J_then ?_
  refine J_ret ?_
  refine J_then_ret ?_
  exact J_returnV1 (PV' := [.cell a_1 [v_2, v_4, v_6, .i Used_8], .row (tBool).o 4 v_2 x_3, .row ((tInt .i64)).o 2 v_4 x_5, .row (T6).o 85 v_6 x_7]) rfl rv_tmp [0, 1, 2, 3] (by decide) rfl ⟨rfl, rfl, rfl⟩
 ·refine J_skip ?_
  refine J_then ?_
  refine J_seq ?_
  refine J_seq ?_
  refine J_region ?_
  refine JL_op rfl (op_read rfl rfl (r_fieldAddr (r := Addr.add c_12 1) pu74 (f := Try.pf74.getD 1 default) rfl pi2 (by decide) rfl (Addr.add_add _ _ _)) ?_)
  refine JL_op rfl (op_read rfl rfl (r_load_priv (a := c_12) (off := 1) (cs' := [.i p_10.N]) (v := .i p_10.N) 4 pu2 pi2 rfl rfl rfl rfl (by decide) rfl) ?_)
  refine JL_op rfl (op_read rfl rfl (r_neq rfl rfl) ?_)
  refine JL_nil ?_
  refine J_then ?_
  refine J_cond rfl (fun hc_22 => ?_) (fun hc_22 => ?_)
  ·refine J_seq ?_
   refine J_region ?_
   refine JL_op rfl (op_read rfl rfl (r_assign (v := .i 5) rfl) ?_)
   refine JL_nil ?_
   refine J_then ?_
   refine J_ret ?_
   refine J_then_ret ?_
   exact J_returnV1 (PV' := [.cell a_1 [v_2, v_4, v_6, .i Used_8], .row (tBool).o 4 v_2 x_3, .row ((tInt .i64)).o 2 v_4 x_5, .row (T6).o 85 v_6 x_7]) rfl rv_tmp [0, 1, 2, 3] (by decide) rfl ⟨rfl, rfl, rfl⟩
  ·refine J_skip ?_
   refine J_then ?_
   refine J_seq ?_
   refine J_seq ?_
   refine J_region ?_
   refine JL_op rfl (op_read rfl rfl (r_assign (v := .i 0) rfl) ?_)
   refine JL_nil ?_
   refine J_then ?_
   refine J_block ?_
   refine J_loop (fun (y : Int) L τ PV => σ = τ ∧ L = [(0, .pointer (some (Addr.add a_1 0))), (3, .pointer (some (Addr.add c_12 0))), (6, .i y)] ∧ PV = [.cell a_1 [v_2, v_4, v_6, .i Used_8], .row (tBool).o 4 v_2 x_3, .row ((tInt .i64)).o 2 v_4 x_5, .row (T6).o 85 v_6 x_7, .cell c_12 [.i p_10.Kind, .i p_10.N, .i p_10.Block]]) (fun (y : W2 Unit Unit) e L τ PV => match y, e with | .a y, e => e = .exit 0 ∧ (σ = τ ∧ L = [(0, .pointer (some (Addr.add a_1 0))), (3, .pointer (some (Addr.add c_12 0)))] ∧ PV = [.cell a_1 [v_2, v_4, v_6, .i Used_8], .row (tBool).o 4 v_2 x_3, .row ((tInt .i64)).o 2 v_4 x_5, .row (T6).o 85 v_6 x_7, .cell c_12 [.i p_10.Kind, .i p_10.N, .i p_10.Block]]) | .b y, e => e = .ret ∧ (σ = τ ∧ L = [(4, .i 6)] ∧ PV = [.cell a_1 [v_2, v_4, v_6, .i Used_8], .row (tBool).o 4 v_2 x_3, .row ((tInt .i64)).o 2 v_4 x_5, .row (T6).o 85 v_6 x_7])) _ ?_ ⟨rfl, rfl, rfl⟩ ?_ ?_
   ·exact ⟨rfl, rfl, rfl, trivial⟩
   ·rintro x_23 _ b s_26 _ ⟨rfl, rfl, rfl⟩
    unfold lychgateref06_Free_L1
    refine J_seq ?_
    refine J_seq ?_
    refine J_region ?_
    refine JL_op rfl (op_read rfl rfl (r_move (v := .i x_23) rfl) ?_)
    refine JL_op rfl (op_read rfl rfl (r_move (v := .pointer (some (Addr.add a_1 0))) rfl) ?_)
    refine JL_op rfl (op_read rfl rfl (r_nilCheck (a := (Addr.add a_1 0)) rfl) ?_)
    refine JL_op rfl (op_read rfl rfl (r_fieldAddr (r := Addr.add a_1 2) pu56 (f := Try.pf56.getD 2 default) rfl pi54 (by decide) rfl (Addr.add_add _ _ _)) ?_)
    refine JL_op rfl (op_read rfl rfl (r_load_priv (a := a_1) (off := 2) (cs' := [v_6]) (v := v_6) 0 pu54 pi54 rfl rfl rfl rfl (by decide) rfl) ?_)
    refine JL_op rfl (op_read rfl rfl (r_len_row (v := v_6) 3 pu54 rfl rfl) ?_)
    refine JL_op rfl (op_read rfl rfl (r_lss rfl rfl) ?_)
    refine JL_nil ?_
    refine J_then ?_
    refine J_cond rfl (fun hc_27 => ?_) (fun hc_27 => ?_)
    ·refine J_skip ?_
     refine J_then ?_
     refine J_seq ?_
     refine J_block ?_
     refine J_seq ?_
     refine J_region_any 32 [.cell a_1 [v_2, v_4, v_6, .i Used_8], .row (tBool).o 4 v_2 x_3, .row ((tInt .i64)).o 2 v_4 x_5, .row (T6).o 85 v_6 x_7, .cell c_12 [.i p_10.Kind, .i p_10.N, .i p_10.Block]] Try.mixed (by kernel_rfl) fun hns => ?_
     have hS_28 : HeldOK σ [.cell a_1 [v_2, v_4, v_6, .i Used_8], .row (tBool).o 4 v_2 x_3, .row ((tInt .i64)).o 2 v_4 x_5, .row (T6).o 85 v_6 x_7, .cell c_12 [.i p_10.Kind, .i p_10.N, .i p_10.Block]] σ [.cell a_1 [v_2, v_4, v_6, .i Used_8], .row (tBool).o 4 v_2 x_3, .row ((tInt .i64)).o 2 v_4 x_5, .row (T6).o 85 v_6 x_7, .cell c_12 [.i p_10.Kind, .i p_10.N, .i p_10.Block]] := HeldOK.same [0, 1, 2, 3, 4] (by decide) rfl
     refine JA_takep 0 rfl hns (by kernel_rfl) (by kernel_rfl) rfl (.inr hS_28) rfl rfl rfl (r_move (v := .pointer (some (Addr.add a_1 0))) rfl) ?_
     refine JA_takep 1 rfl hns (by kernel_rfl) (by kernel_rfl) rfl (.inr hS_28) rfl rfl rfl (r_nilCheck (a := (Addr.add a_1 0)) rfl) ?_
     refine JA_takep 2 rfl hns (by kernel_rfl) (by kernel_rfl) rfl (.inr hS_28) rfl rfl rfl (r_fieldAddr (r := Addr.add a_1 2) pu56 (f := Try.pf56.getD 2 default) rfl pi54 (by decide) rfl (Addr.add_add _ _ _)) ?_
     refine JA_take 3 rfl hns (by kernel_rfl) (by kernel_rfl) (by kernel_rfl) rfl (by kernel_rfl) hS_28 rfl rfl rfl (r_load_priv (a := a_1) (off := 2) (cs' := [v_6]) (v := v_6) 0 pu54 pi54 rfl rfl rfl rfl (by decide) rfl) ?_
     refine JA_takep 4 rfl hns (by kernel_rfl) (by kernel_rfl) rfl (.inr hS_28) rfl rfl rfl (r_move (v := .i x_23) rfl) ?_
     refine J_bind fun x_29 hx_30 => ?_
     refine JA_take 5 rfl hns (by kernel_rfl) (by kernel_rfl) (by kernel_rfl) rfl (by kernel_rfl) hS_28 rfl rfl rfl (r_index_row (v := v_6) (T := (T6).o) (q := x_29) 3 pu54 pi85 rfl rfl rfl rfl hx_30) ?_
     refine JA_takep 6 rfl hns (by kernel_rfl) (by kernel_rfl) rfl (.inr hS_28) rfl rfl rfl (r_fieldAddr (r := elemAddr v_6 ((x_23).toNat * ((T6).o).size + 0)) pu85 (f := Try.pf85.getD 0 default) rfl pi3 (by decide) rfl (elemAddr_add _ _ _)) ?_
     refine JA_takes 7 rfl hns (by kernel_rfl) (by kernel_rfl) (by kernel_rfl) rfl (by kernel_rfl) hS_28 rfl rfl rfl (l_elem_orow (v := v_6) (T := (T6).o) (Tf := (tInt .i64)) (q := x_29) (i := x_23) (off := 0) 3 pu3 pi3 rfl rfl rfl rfl hx_30 (OFieldAt.of f_Glychgateref06_Cell_Block) (by decide)) ?_
     intro v_31 h_32
     obtain rfl := tInt_v.1 h_32
     refine JA_takep 8 rfl hns (by kernel_rfl) (by kernel_rfl) rfl (.inr hS_28) rfl rfl rfl (r_fieldAddr (r := Addr.add c_12 2) pu74 (f := Try.pf74.getD 2 default) rfl pi3 (by decide) rfl (Addr.add_add _ _ _)) ?_
     refine JA_take 9 rfl hns (by kernel_rfl) (by kernel_rfl) (by kernel_rfl) rfl (by kernel_rfl) hS_28 rfl rfl rfl (r_load_priv (a := c_12) (off := 2) (cs' := [.i p_10.Block]) (v := .i p_10.Block) 4 pu3 pi3 rfl rfl rfl rfl (by decide) rfl) ?_
     refine JA_takep 10 rfl hns (by kernel_rfl) (by kernel_rfl) rfl (.inr hS_28) rfl rfl rfl (r_eql rfl rfl) ?_
     refine JA_takep 11 rfl hns (by kernel_rfl) (by kernel_rfl) rfl (.inr hS_28) rfl rfl rfl (r_move (v := .bool (decide (x_29.Block = p_10.Block))) rfl) ?_
     refine J_forkA (e := (decide (x_29.Block = p_10.Block))) 0 #[true, true, true, true, true, true, true, true, true, true, true, true, true, true, true, true, true, true, true, true, true, true, true, true, true, true, true, true, true, true, true, true] [(0, .pointer (some (Addr.add a_1 0))), (3, .pointer (some (Addr.add c_12 0))), (6, .i x_23), (56, .bool (decide (x_29.Block = p_10.Block) && (decide (0 < x_29.Readers) || x_29.Writer)))] (fun hc_33 hk => ?_) (fun hc_33 hk => ?_) (fun b => ?_)
     ·refine JA_takepg 12 rfl hns (by kernel_rfl) (by kernel_rfl) rfl (.inr hS_28) rfl rfl hc_33 rfl rfl (r_move (v := .pointer (some (Addr.add a_1 0))) rfl) ?_
      refine JA_takepg 13 rfl hns (by kernel_rfl) (by kernel_rfl) rfl (.inr hS_28) rfl rfl hc_33 rfl rfl (r_nilCheck (a := (Addr.add a_1 0)) rfl) ?_
      refine JA_takepg 14 rfl hns (by kernel_rfl) (by kernel_rfl) rfl (.inr hS_28) rfl rfl hc_33 rfl rfl (r_fieldAddr (r := Addr.add a_1 2) pu56 (f := Try.pf56.getD 2 default) rfl pi54 (by decide) rfl (Addr.add_add _ _ _)) ?_
      refine JA_takeg 15 rfl hns (by kernel_rfl) (by kernel_rfl) (by kernel_rfl) rfl (by kernel_rfl) hS_28 rfl rfl hc_33 rfl rfl (r_load_priv (a := a_1) (off := 2) (cs' := [v_6]) (v := v_6) 0 pu54 pi54 rfl rfl rfl rfl (by decide) rfl) ?_
      refine JA_takepg 16 rfl hns (by kernel_rfl) (by kernel_rfl) rfl (.inr hS_28) rfl rfl hc_33 rfl rfl (r_move (v := .i x_23) rfl) ?_
      refine JA_takeg 17 rfl hns (by kernel_rfl) (by kernel_rfl) (by kernel_rfl) rfl (by kernel_rfl) hS_28 rfl rfl hc_33 rfl rfl (r_index_row (v := v_6) (T := (T6).o) (q := x_29) 3 pu54 pi85 rfl rfl rfl rfl hx_30) ?_
      refine JA_takepg 18 rfl hns (by kernel_rfl) (by kernel_rfl) rfl (.inr hS_28) rfl rfl hc_33 rfl rfl (r_fieldAddr (r := elemAddr v_6 ((x_23).toNat * ((T6).o).size + 5)) pu85 (f := Try.pf85.getD 3 default) rfl pi3 (by decide) rfl (elemAddr_add _ _ _)) ?_
      refine JA_takesg 19 rfl hns (by kernel_rfl) (by kernel_rfl) (by kernel_rfl) rfl (by kernel_rfl) hS_28 rfl rfl hc_33 rfl rfl (l_elem_orow (v := v_6) (T := (T6).o) (Tf := (tInt .i64)) (q := x_29) (i := x_23) (off := 5) 3 pu3 pi3 rfl rfl rfl rfl hx_30 (OFieldAt.of f_Glychgateref06_Cell_Readers) (by decide)) ?_
      intro v_34 h_35
      obtain rfl := tInt_v.1 h_35
      refine JA_takepg 20 rfl hns (by kernel_rfl) (by kernel_rfl) rfl (.inr hS_28) rfl rfl hc_33 rfl rfl (r_gtr rfl rfl) ?_
      refine JA_takepg 21 rfl hns (by kernel_rfl) (by kernel_rfl) rfl (.inr hS_28) rfl rfl hc_33 rfl rfl (r_move (v := .bool (decide (0 < x_29.Readers))) rfl) ?_
      refine J_forkA (e := (decide (0 < x_29.Readers))) 1 #[true, true, true, true, true, true, true, true, true, true, true, true, true, true, true, true, true, true, true, true, true, true, true, true, true, true, true, true, true, true, true, false] [(0, .pointer (some (Addr.add a_1 0))), (3, .pointer (some (Addr.add c_12 0))), (6, .i x_23), (25, .pointer (some (Addr.add a_1 0))), (26, .pointer (some (Addr.add a_1 0))), (27, .pointer (some (Addr.add a_1 2))), (28, v_6), (29, .i x_23), (30, .pointer (some (elemAddr v_6 ((x_23).toNat * ((T6).o).size + 0)))), (31, .pointer (some (elemAddr v_6 ((x_23).toNat * ((T6).o).size + 0)))), (32, .i x_29.Block), (33, .pointer (some (Addr.add c_12 2))), (34, .i p_10.Block), (35, .bool (decide (x_29.Block = p_10.Block))), (36, .bool (decide (x_29.Block = p_10.Block))), (37, .pointer (some (Addr.add a_1 0))), (38, .pointer (some (Addr.add a_1 0))), (39, .pointer (some (Addr.add a_1 2))), (40, v_6), (41, .i x_23), (42, .pointer (some (elemAddr v_6 ((x_23).toNat * ((T6).o).size + 0)))), (43, .pointer (some (elemAddr v_6 ((x_23).toNat * ((T6).o).size + 5)))), (44, .i x_29.Readers), (45, .bool (decide (0 < x_29.Readers))), (46, .bool (decide (0 < x_29.Readers))), (55, .bool (decide (0 < x_29.Readers) || x_29.Writer))] (fun hc_36 hk => ?_) (fun hc_36 hk => ?_) (fun b => ?_)
      ·refine JA_skip (y := some (decide (0 < x_29.Readers))) 22 rfl hns (by kernel_rfl) (by kernel_rfl) rfl (.inr hS_28) rfl rfl (by rw [hc_36]; decide) rfl rfl ?_
       refine JA_skip (y := some (decide (0 < x_29.Readers))) 23 rfl hns (by kernel_rfl) (by kernel_rfl) rfl (.inr hS_28) rfl rfl (by rw [hc_36]; decide) rfl rfl ?_
       refine JA_skip (y := some (decide (0 < x_29.Readers))) 24 rfl hns (by kernel_rfl) (by kernel_rfl) rfl (.inr hS_28) rfl rfl (by rw [hc_36]; decide) rfl rfl ?_
       refine JA_skip (y := some (decide (0 < x_29.Readers))) 25 rfl hns (by kernel_rfl) (by kernel_rfl) rfl (.inr hS_28) rfl rfl (by rw [hc_36]; decide) rfl rfl ?_
       refine JA_skip (y := some (decide (0 < x_29.Readers))) 26 rfl hns (by kernel_rfl) (by kernel_rfl) rfl (.inr hS_28) rfl rfl (by rw [hc_36]; decide) rfl rfl ?_
       refine JA_skip (y := some (decide (0 < x_29.Readers))) 27 rfl hns (by kernel_rfl) (by kernel_rfl) rfl (.inr hS_28) rfl rfl (by rw [hc_36]; decide) rfl rfl ?_
       refine JA_skip (y := some (decide (0 < x_29.Readers))) 28 rfl hns (by kernel_rfl) (by kernel_rfl) rfl (.inr hS_28) rfl rfl (by rw [hc_36]; decide) rfl rfl ?_
       refine JA_skip (y := some (decide (0 < x_29.Readers))) 29 rfl hns (by kernel_rfl) (by kernel_rfl) rfl (.inr hS_28) rfl rfl (by rw [hc_36]; decide) rfl rfl ?_
       refine JA_takepg 30 rfl hns (by kernel_rfl) (by kernel_rfl) rfl (.inr hS_28) rfl rfl hc_33 rfl rfl (r_pick_t (v := .bool true) rfl hc_36 rfl) ?_
       refine J_prune [(0, .pointer (some (Addr.add a_1 0))), (3, .pointer (some (Addr.add c_12 0))), (6, .i x_23), (25, .pointer (some (Addr.add a_1 0))), (26, .pointer (some (Addr.add a_1 0))), (27, .pointer (some (Addr.add a_1 2))), (28, v_6), (29, .i x_23), (30, .pointer (some (elemAddr v_6 ((x_23).toNat * ((T6).o).size + 0)))), (31, .pointer (some (elemAddr v_6 ((x_23).toNat * ((T6).o).size + 0)))), (32, .i x_29.Block), (33, .pointer (some (Addr.add c_12 2))), (34, .i p_10.Block), (35, .bool (decide (x_29.Block = p_10.Block))), (36, .bool (decide (x_29.Block = p_10.Block))), (37, .pointer (some (Addr.add a_1 0))), (38, .pointer (some (Addr.add a_1 0))), (39, .pointer (some (Addr.add a_1 2))), (40, v_6), (41, .i x_23), (42, .pointer (some (elemAddr v_6 ((x_23).toNat * ((T6).o).size + 0)))), (43, .pointer (some (elemAddr v_6 ((x_23).toNat * ((T6).o).size + 5)))), (44, .i x_29.Readers), (45, .bool (decide (0 < x_29.Readers))), (46, .bool (decide (0 < x_29.Readers))), (55, .bool (decide (0 < x_29.Readers) || x_29.Writer))] ⟨rfl, rfl, rfl, rfl, rfl, rfl, rfl, rfl, rfl, rfl, rfl, rfl, rfl, rfl, rfl, rfl, rfl, rfl, rfl, rfl, rfl, rfl, rfl, rfl, rfl, (by show Value.bool _ = Value.bool _; rw [hc_36]; rfl), trivial⟩ hk
      ·refine JA_takepg 22 rfl hns (by kernel_rfl) (by kernel_rfl) rfl (.inr hS_28) rfl rfl hc_36 rfl rfl (r_move (v := .pointer (some (Addr.add a_1 0))) rfl) ?_
       refine JA_takepg 23 rfl hns (by kernel_rfl) (by kernel_rfl) rfl (.inr hS_28) rfl rfl hc_36 rfl rfl (r_nilCheck (a := (Addr.add a_1 0)) rfl) ?_
       refine JA_takepg 24 rfl hns (by kernel_rfl) (by kernel_rfl) rfl (.inr hS_28) rfl rfl hc_36 rfl rfl (r_fieldAddr (r := Addr.add a_1 2) pu56 (f := Try.pf56.getD 2 default) rfl pi54 (by decide) rfl (Addr.add_add _ _ _)) ?_
       refine JA_takeg 25 rfl hns (by kernel_rfl) (by kernel_rfl) (by kernel_rfl) rfl (by kernel_rfl) hS_28 rfl rfl hc_36 rfl rfl (r_load_priv (a := a_1) (off := 2) (cs' := [v_6]) (v := v_6) 0 pu54 pi54 rfl rfl rfl rfl (by decide) rfl) ?_
       refine JA_takepg 26 rfl hns (by kernel_rfl) (by kernel_rfl) rfl (.inr hS_28) rfl rfl hc_36 rfl rfl (r_move (v := .i x_23) rfl) ?_
       refine JA_takeg 27 rfl hns (by kernel_rfl) (by kernel_rfl) (by kernel_rfl) rfl (by kernel_rfl) hS_28 rfl rfl hc_36 rfl rfl (r_index_row (v := v_6) (T := (T6).o) (q := x_29) 3 pu54 pi85 rfl rfl rfl rfl hx_30) ?_
       refine JA_takepg 28 rfl hns (by kernel_rfl) (by kernel_rfl) rfl (.inr hS_28) rfl rfl hc_36 rfl rfl (r_fieldAddr (r := elemAddr v_6 ((x_23).toNat * ((T6).o).size + 6)) pu85 (f := Try.pf85.getD 4 default) rfl pi4 (by decide) rfl (elemAddr_add _ _ _)) ?_
       refine JA_takesg 29 rfl hns (by kernel_rfl) (by kernel_rfl) (by kernel_rfl) rfl (by kernel_rfl) hS_28 rfl rfl hc_36 rfl rfl (l_elem_orow (v := v_6) (T := (T6).o) (Tf := tBool) (q := x_29) (i := x_23) (off := 6) 3 pu4 pi4 rfl rfl rfl rfl hx_30 (OFieldAt.of f_Glychgateref06_Cell_Writer) (by decide)) ?_
       intro v_37 h_38
       obtain rfl := tBool_v.1 h_38
       refine JA_takepg 30 rfl hns (by kernel_rfl) (by kernel_rfl) rfl (.inr hS_28) rfl rfl hc_33 rfl rfl (r_pick_f (v := .bool x_29.Writer) rfl hc_36 rfl) ?_
       refine J_prune [(0, .pointer (some (Addr.add a_1 0))), (3, .pointer (some (Addr.add c_12 0))), (6, .i x_23), (25, .pointer (some (Addr.add a_1 0))), (26, .pointer (some (Addr.add a_1 0))), (27, .pointer (some (Addr.add a_1 2))), (28, v_6), (29, .i x_23), (30, .pointer (some (elemAddr v_6 ((x_23).toNat * ((T6).o).size + 0)))), (31, .pointer (some (elemAddr v_6 ((x_23).toNat * ((T6).o).size + 0)))), (32, .i x_29.Block), (33, .pointer (some (Addr.add c_12 2))), (34, .i p_10.Block), (35, .bool (decide (x_29.Block = p_10.Block))), (36, .bool (decide (x_29.Block = p_10.Block))), (37, .pointer (some (Addr.add a_1 0))), (38, .pointer (some (Addr.add a_1 0))), (39, .pointer (some (Addr.add a_1 2))), (40, v_6), (41, .i x_23), (42, .pointer (some (elemAddr v_6 ((x_23).toNat * ((T6).o).size + 0)))), (43, .pointer (some (elemAddr v_6 ((x_23).toNat * ((T6).o).size + 5)))), (44, .i x_29.Readers), (45, .bool (decide (0 < x_29.Readers))), (46, .bool (decide (0 < x_29.Readers))), (55, .bool (decide (0 < x_29.Readers) || x_29.Writer))] ⟨rfl, rfl, rfl, rfl, rfl, rfl, rfl, rfl, rfl, rfl, rfl, rfl, rfl, rfl, rfl, rfl, rfl, rfl, rfl, rfl, rfl, rfl, rfl, rfl, rfl, (by show Value.bool _ = Value.bool _; rw [hc_36]; rfl), trivial⟩ hk
      ·refine JA_takep 31 rfl hns (by kernel_rfl) (by kernel_rfl) rfl (.inr hS_28) rfl rfl rfl (r_pick_t (v := .bool (decide (0 < x_29.Readers) || x_29.Writer)) rfl hc_33 rfl) ?_
       refine J_prune [(0, .pointer (some (Addr.add a_1 0))), (3, .pointer (some (Addr.add c_12 0))), (6, .i x_23), (56, .bool (decide (x_29.Block = p_10.Block) && (decide (0 < x_29.Readers) || x_29.Writer)))] ⟨rfl, rfl, rfl, (by show Value.bool _ = Value.bool _; rw [hc_33]; rfl), trivial⟩ hk
     ·refine JA_skip (y := some (decide (x_29.Block = p_10.Block))) 12 rfl hns (by kernel_rfl) (by kernel_rfl) rfl (.inr hS_28) rfl rfl (by rw [hc_33]; decide) rfl rfl ?_
      refine JA_skip (y := some (decide (x_29.Block = p_10.Block))) 13 rfl hns (by kernel_rfl) (by kernel_rfl) rfl (.inr hS_28) rfl rfl (by rw [hc_33]; decide) rfl rfl ?_
      refine JA_skip (y := some (decide (x_29.Block = p_10.Block))) 14 rfl hns (by kernel_rfl) (by kernel_rfl) rfl (.inr hS_28) rfl rfl (by rw [hc_33]; decide) rfl rfl ?_
      refine JA_skip (y := some (decide (x_29.Block = p_10.Block))) 15 rfl hns (by kernel_rfl) (by kernel_rfl) rfl (.inr hS_28) rfl rfl (by rw [hc_33]; decide) rfl rfl ?_
      refine JA_skip (y := some (decide (x_29.Block = p_10.Block))) 16 rfl hns (by kernel_rfl) (by kernel_rfl) rfl (.inr hS_28) rfl rfl (by rw [hc_33]; decide) rfl rfl ?_
      refine JA_skip (y := some (decide (x_29.Block = p_10.Block))) 17 rfl hns (by kernel_rfl) (by kernel_rfl) rfl (.inr hS_28) rfl rfl (by rw [hc_33]; decide) rfl rfl ?_
      refine JA_skip (y := some (decide (x_29.Block = p_10.Block))) 18 rfl hns (by kernel_rfl) (by kernel_rfl) rfl (.inr hS_28) rfl rfl (by rw [hc_33]; decide) rfl rfl ?_
      refine JA_skip (y := some (decide (x_29.Block = p_10.Block))) 19 rfl hns (by kernel_rfl) (by kernel_rfl) rfl (.inr hS_28) rfl rfl (by rw [hc_33]; decide) rfl rfl ?_
      refine JA_skip (y := some (decide (x_29.Block = p_10.Block))) 20 rfl hns (by kernel_rfl) (by kernel_rfl) rfl (.inr hS_28) rfl rfl (by rw [hc_33]; decide) rfl rfl ?_
      refine JA_skip (y := some (decide (x_29.Block = p_10.Block))) 21 rfl hns (by kernel_rfl) (by kernel_rfl) rfl (.inr hS_28) rfl rfl (by rw [hc_33]; decide) rfl rfl ?_
      refine JA_skip (y := none) 22 rfl hns (by kernel_rfl) (by kernel_rfl) rfl (.inr hS_28) rfl rfl (by decide) rfl rfl ?_
      refine JA_skip (y := none) 23 rfl hns (by kernel_rfl) (by kernel_rfl) rfl (.inr hS_28) rfl rfl (by decide) rfl rfl ?_
      refine JA_skip (y := none) 24 rfl hns (by kernel_rfl) (by kernel_rfl) rfl (.inr hS_28) rfl rfl (by decide) rfl rfl ?_
      refine JA_skip (y := none) 25 rfl hns (by kernel_rfl) (by kernel_rfl) rfl (.inr hS_28) rfl rfl (by decide) rfl rfl ?_
      refine JA_skip (y := none) 26 rfl hns (by kernel_rfl) (by kernel_rfl) rfl (.inr hS_28) rfl rfl (by decide) rfl rfl ?_
      refine JA_skip (y := none) 27 rfl hns (by kernel_rfl) (by kernel_rfl) rfl (.inr hS_28) rfl rfl (by decide) rfl rfl ?_
      refine JA_skip (y := none) 28 rfl hns (by kernel_rfl) (by kernel_rfl) rfl (.inr hS_28) rfl rfl (by decide) rfl rfl ?_
      refine JA_skip (y := none) 29 rfl hns (by kernel_rfl) (by kernel_rfl) rfl (.inr hS_28) rfl rfl (by decide) rfl rfl ?_
      refine JA_skip (y := some (decide (x_29.Block = p_10.Block))) 30 rfl hns (by kernel_rfl) (by kernel_rfl) rfl (.inr hS_28) rfl rfl (by rw [hc_33]; decide) rfl rfl ?_
      refine JA_takep 31 rfl hns (by kernel_rfl) (by kernel_rfl) rfl (.inr hS_28) rfl rfl rfl (r_pick_f (v := .bool false) rfl hc_33 rfl) ?_
      refine J_prune [(0, .pointer (some (Addr.add a_1 0))), (3, .pointer (some (Addr.add c_12 0))), (6, .i x_23), (56, .bool (decide (x_29.Block = p_10.Block) && (decide (0 < x_29.Readers) || x_29.Writer)))] ⟨rfl, rfl, rfl, (by show Value.bool _ = Value.bool _; rw [hc_33]; rfl), trivial⟩ hk
     ·refine JA_done (by kernel_rfl) ?_
      refine J_then ?_
      refine J_cond rfl (fun hc_39 => ?_) (fun hc_39 => ?_)
      ·refine J_seq ?_
       refine J_region ?_
       refine JL_op rfl (op_read rfl rfl (r_assign (v := .i 6) rfl) ?_)
       refine JL_nil ?_
       refine J_then ?_
       refine J_ret ?_
       refine J_in_ret ?_
       refine J_then_ret ?_
       refine J_select (PV' := [.cell a_1 [v_2, v_4, v_6, .i Used_8], .row (tBool).o 4 v_2 x_3, .row ((tInt .i64)).o 2 v_4 x_5, .row (T6).o 85 v_6 x_7]) [0, 1, 2, 3] (by decide) rfl ?_
       refine J_done trivial _ ?_ ⟨rfl, rfl, rfl, rfl⟩
       exact ⟨rfl, trivial⟩
      ·refine J_skip ?_
       refine J_in_normal ?_
       refine J_then ?_
       refine J_region ?_
       refine JL_op rfl (op_read rfl rfl (r_move (v := .i x_23) rfl) ?_)
       refine JL_op rfl (op_read rfl rfl (r_add rfl rfl) ?_)
       refine JL_op rfl (op_read rfl rfl (r_assign (v := .i (IntKind.i64.wrap (x_23 + 1))) rfl) ?_)
       refine JL_nil ?_
       refine J_next _ ?_ ⟨rfl, rfl, rfl⟩
       exact ⟨rfl, rfl, rfl, trivial⟩
    ·refine J_exit ?_
     refine J_then_exit ?_
     refine J_done trivial _ ?_ ⟨rfl, rfl, rfl, rfl⟩
     exact ⟨rfl, rfl, trivial⟩
   ·rintro (y_41 | y_51) e L b τ PV ht
    ·obtain ⟨rfl, ht⟩ := ht
     revert ht; revert PV; revert τ; revert b; revert L
     rintro _ b s_44 _ ⟨rfl, rfl, rfl⟩
     refine J_in_exit ?_
     refine J_then ?_
     refine J_seq ?_
     refine J_region_any 8 [.cell a_1 [v_2, v_4, v_6, .i Used_8], .row (tBool).o 4 v_2 x_3, .row ((tInt .i64)).o 2 v_4 x_5, .row (T6).o 85 v_6 x_7, .cell c_12 [.i p_10.Kind, .i p_10.N, .i p_10.Block]] Try.mixed (by kernel_rfl) fun hns => ?_
     have hS_45 : HeldOK σ [.cell a_1 [v_2, v_4, v_6, .i Used_8], .row (tBool).o 4 v_2 x_3, .row ((tInt .i64)).o 2 v_4 x_5, .row (T6).o 85 v_6 x_7, .cell c_12 [.i p_10.Kind, .i p_10.N, .i p_10.Block]] σ [.cell a_1 [v_2, v_4, v_6, .i Used_8], .row (tBool).o 4 v_2 x_3, .row ((tInt .i64)).o 2 v_4 x_5, .row (T6).o 85 v_6 x_7, .cell c_12 [.i p_10.Kind, .i p_10.N, .i p_10.Block]] := HeldOK.same [0, 1, 2, 3, 4] (by decide) rfl
     refine JA_takep 0 rfl hns (by kernel_rfl) (by kernel_rfl) rfl (.inr hS_45) rfl rfl rfl (r_move (v := .pointer (some (Addr.add a_1 0))) rfl) ?_
     refine JA_takep 1 rfl hns (by kernel_rfl) (by kernel_rfl) rfl (.inr hS_45) rfl rfl rfl (r_nilCheck (a := (Addr.add a_1 0)) rfl) ?_
     refine JA_takep 2 rfl hns (by kernel_rfl) (by kernel_rfl) rfl (.inr hS_45) rfl rfl rfl (r_fieldAddr (r := Addr.add a_1 0) pu56 (f := Try.pf56.getD 0 default) rfl pi23 (by decide) rfl (Addr.add_add _ _ _)) ?_
     refine JA_take 3 rfl hns (by kernel_rfl) (by kernel_rfl) (by kernel_rfl) rfl (by kernel_rfl) hS_45 rfl rfl rfl (r_load_priv (a := a_1) (off := 0) (cs' := [v_2]) (v := v_2) 0 pu23 pi23 rfl rfl rfl rfl (by decide) rfl) ?_
     refine JA_takep 4 rfl hns (by kernel_rfl) (by kernel_rfl) rfl (.inr hS_45) rfl rfl rfl (r_fieldAddr (r := Addr.add c_12 2) pu74 (f := Try.pf74.getD 2 default) rfl pi3 (by decide) rfl (Addr.add_add _ _ _)) ?_
     refine JA_take 5 rfl hns (by kernel_rfl) (by kernel_rfl) (by kernel_rfl) rfl (by kernel_rfl) hS_45 rfl rfl rfl (r_load_priv (a := c_12) (off := 2) (cs' := [.i p_10.Block]) (v := .i p_10.Block) 4 pu3 pi3 rfl rfl rfl rfl (by decide) rfl) ?_
     refine JA_takep 6 rfl hns (by kernel_rfl) (by kernel_rfl) rfl (.inr hS_45) rfl rfl rfl (r_sub rfl rfl) ?_
     refine J_bind fun x_46 hx_47 => ?_
     refine JA_take 7 rfl hns (by kernel_rfl) (by kernel_rfl) (by kernel_rfl) rfl (by kernel_rfl) hS_45 rfl rfl rfl (r_index_row (v := v_2) (T := (tBool).o) (q := x_46) 1 pu23 pi4 rfl rfl rfl rfl hx_47) ?_
     refine J_select (PV' := [.row (tBool).o 4 v_2 x_3, .cell a_1 [v_2, v_4, v_6, .i Used_8], .row ((tInt .i64)).o 2 v_4 x_5, .row (T6).o 85 v_6 x_7, .cell c_12 [.i p_10.Kind, .i p_10.N, .i p_10.Block]]) [1, 0, 2, 3, 4] (by decide) rfl ?_
     have hS_50 : HeldOK σ [.cell a_1 [v_2, v_4, v_6, .i Used_8], .row (tBool).o 4 v_2 x_3, .row ((tInt .i64)).o 2 v_4 x_5, .row (T6).o 85 v_6 x_7, .cell c_12 [.i p_10.Kind, .i p_10.N, .i p_10.Block]] σ [.row (tBool).o 4 v_2 x_3, .cell a_1 [v_2, v_4, v_6, .i Used_8], .row ((tInt .i64)).o 2 v_4 x_5, .row (T6).o 85 v_6 x_7, .cell c_12 [.i p_10.Kind, .i p_10.N, .i p_10.Block]] := HeldOK.same [1, 0, 2, 3, 4] (by decide) rfl
     refine JA_op (i := 8) (by kernel_rfl) rfl rfl (op_store_row (v := v_2) (u := (.bool false)) (T := (tBool).o) (q := false) (i := (IntKind.i64.wrap (p_10.Block - 1))) [] [.cell a_1 [v_2, v_4, v_6, .i Used_8], .row ((tInt .i64)).o 2 v_4 x_5, .row (T6).o 85 v_6 x_7, .cell c_12 [.i p_10.Kind, .i p_10.N, .i p_10.Block]] pi4 rfl rfl rfl rfl (fix_vrel (T := (tBool).o) rfl (tBool_v.2 rfl)) ?_)
     intro s_48 hs_49
     refine ⟨.inl (.inl rfl), ?_⟩
     refine JA_done (by kernel_rfl) ?_
     refine J_then ?_
     refine J_seq ?_
     refine J_region ?_
     refine JL_op rfl (op_read rfl rfl (r_assign (v := .i 0) rfl) ?_)
     refine JL_nil ?_
     refine J_then ?_
     refine J_ret ?_
     exact J_returnV1 (PV' := [.cell a_1 [v_2, v_4, v_6, .i Used_8], .row (tBool).o 4 v_2 s_48, .row ((tInt .i64)).o 2 v_4 x_5, .row (T6).o 85 v_6 x_7]) rfl rv_tmp [1, 0, 2, 3] (by decide) rfl ⟨rfl, rfl, rfl⟩
    ·obtain ⟨rfl, ht⟩ := ht
     revert ht; revert PV; revert τ; revert b; revert L
     rintro _ b s_54 _ ⟨rfl, rfl, rfl⟩
     refine J_in_ret ?_
     refine J_then_ret ?_
     exact J_returnV1 (PV' := [.cell a_1 [v_2, v_4, v_6, .i Used_8], .row (tBool).o 4 v_2 x_3, .row ((tInt .i64)).o 2 v_4 x_5, .row (T6).o 85 v_6 x_7]) rfl rv_tmp [0, 1, 2, 3] (by decide) rfl ⟨rfl, rfl, rfl⟩
def lychgateref06_Find_post (σ0 : FS) (a_1 : Addr) (v_2 : Value) (x_3 : Sl Bool) (v_4 : Value) (x_5 : Sl Int) (v_6 : Value) (x_7 : Sl Glychgateref06_Cell) (Used_8 : Int) (v_9 : Value) (p_10 : Glychgateref06_Value) (r : Int × Int) (σ : FS) (PV : List Priv) (v : Value) : Prop :=
 σ0 = σ ∧ .tuple #[.i r.1, .i r.2] = v ∧ PV = [.cell a_1 [v_2, v_4, v_6, .i Used_8], .row (tBool).o 4 v_2 x_3, .row ((tInt .i64)).o 2 v_4 x_5, .row (T6).o 85 v_6 x_7]
set_option maxRecDepth 100000 in
theorem lychgateref06_Find_ref (s : Start) (σ : FS) (a_1 : Addr) (v_2 : Value) (x_3 : Sl Bool) (v_4 : Value) (x_5 : Sl Int) (v_6 : Value) (x_7 : Sl Glychgateref06_Cell) (Used_8 : Int) (v_9 : Value) (p_10 : Glychgateref06_Value) (h_11 : T4.vrel σ v_9 p_10) (hs : Pre s σ [.cell a_1 [v_2, v_4, v_6, .i Used_8], .row (tBool).o 4 v_2 x_3, .row ((tInt .i64)).o 2 v_4 x_5, .row (T6).o 85 v_6 x_7]) (r : Int × Int) (hr : lychgateref06_Find x_3 x_5 x_7 Used_8 p_10 = some r) : Does Try.prog 38 [.pointer (some (Addr.add a_1 0)), v_9] s σ (lychgateref06_Find_post σ a_1 v_2 x_3 v_4 x_5 v_6 x_7 Used_8 v_9 p_10 r) := by
 unfold lychgateref06_Find at hr
 obtain rfl := T4_v.1 h_11
 refine does_of_J Try.func38 rfl (n := 48) rfl rfl hs hr ?_
 refine J_seq ?_
 refine J_region ?_
 refine JL_op rfl (op_box (cs := [.i p_10.Kind, .i p_10.N, .i p_10.Block]) rfl rfl ?_)
 intro c_12
 refine JL_op rfl (op_read rfl rfl (r_assign (v := .i 0) rfl) ?_)
 refine JL_op rfl (op_read rfl rfl (r_assign (v := .i 0) rfl) ?_)
 refine JL_nil ?_
 refine J_then ?_
 refine J_seq ?_
 refine J_region ?_
 refine JL_op rfl (op_read rfl rfl (r_move (v := .pointer (some (Addr.add a_1 0))) rfl) ?_)
 refine JL_op rfl (op_read rfl rfl (r_load_priv (a := c_12) (off := 0) (cs' := [.i p_10.Kind, .i p_10.N, .i p_10.Block]) (v := .agg #[.i p_10.Kind, .i p_10.N, .i p_10.Block]) 0 pu74 pi74 rfl rfl rfl rfl (by decide) rfl) ?_)
 refine J_select (PV' := [.cell a_1 [v_2, v_4, v_6, .i Used_8], .row (tBool).o 4 v_2 x_3, .row ((tInt .i64)).o 2 v_4 x_5, .row (T6).o 85 v_6 x_7, .cell c_12 [.i p_10.Kind, .i p_10.N, .i p_10.Block]]) [1, 2, 3, 4, 0] (by decide) rfl ?_
 refine JL_op rfl (op_call (f := 37) (fn := Try.f37) (args := [.pointer (some (Addr.add a_1 0)), .agg #[.i p_10.Kind, .i p_10.N, .i p_10.Block]]) (post := lychgateref06_live_post σ a_1 v_2 x_3 v_4 x_5 v_6 x_7 Used_8 (.agg #[.i p_10.Kind, .i p_10.N, .i p_10.Block]) p_10) [.cell a_1 [v_2, v_4, v_6, .i Used_8], .row (tBool).o 4 v_2 x_3, .row ((tInt .i64)).o 2 v_4 x_5, .row (T6).o 85 v_6 x_7] [.cell c_12 [.i p_10.Kind, .i p_10.N, .i p_10.Block]] rfl rfl rfl Try.func37 pn37 rfl rfl (fun y st hy hpre => lychgateref06_live_ref st σ a_1 v_2 x_3 v_4 x_5 v_6 x_7 Used_8 (.agg #[.i p_10.Kind, .i p_10.N, .i p_10.Block]) p_10 (T4_v.2 rfl) hpre y hy) ?_)
 intro r_14 v_16 s_19 PV_17 hr_15 hle_20 hp_18
 obtain ⟨rfl, rfl, rfl⟩ := hp_18
 refine JL_op rfl (op_read rfl rfl (r_assign (v := .i r_14) rfl) ?_)
 refine JL_nil ?_
 refine J_then ?_
 refine J_seq ?_
 refine J_seq ?_
 refine J_region ?_
 refine JL_op rfl (op_read rfl rfl (r_move (v := .i r_14) rfl) ?_)
 refine JL_op rfl (op_read rfl rfl (r_neq rfl rfl) ?_)
 refine JL_nil ?_
 refine J_then ?_
 refine J_cond rfl (fun hc_21 => ?_) (fun hc_21 => ?_)
 ·refine J_seq ?_
  refine J_region ?_
  refine JL_op rfl (op_read rfl rfl (r_move (v := .i r_14) rfl) ?_)
  refine JL_op rfl (op_read rfl rfl (r_assign (v := .i (-1)) rfl) ?_)
  refine JL_op rfl (op_read rfl rfl (r_assign (v := .i r_14) rfl) ?_)
  refine JL_nil ?_
  refine J_then ?_
  refine J_ret ?_
  refine J_then_ret ?_
  exact J_returnV2 (PV' := [.cell a_1 [v_2, v_4, v_6, .i Used_8], .row (tBool).o 4 v_2 x_3, .row ((tInt .i64)).o 2 v_4 x_5, .row (T6).o 85 v_6 x_7]) rfl rv_tmp rv_tmp [0, 1, 2, 3] (by decide) rfl ⟨rfl, rfl, rfl⟩
 ·refine J_skip ?_
  refine J_then ?_
  refine J_seq ?_
  refine J_seq ?_
  refine J_region ?_
  refine JL_op rfl (op_read rfl rfl (r_assign (v := .i 0) rfl) ?_)
  refine JL_nil ?_
  refine J_then ?_
  refine J_block ?_
  refine J_loop (fun (y : Int) L τ PV => σ = τ ∧ L = [(0, .pointer (some (Addr.add a_1 0))), (3, .pointer (some (Addr.add c_12 0))), (7, .i y)] ∧ PV = [.cell a_1 [v_2, v_4, v_6, .i Used_8], .row (tBool).o 4 v_2 x_3, .row ((tInt .i64)).o 2 v_4 x_5, .row (T6).o 85 v_6 x_7, .cell c_12 [.i p_10.Kind, .i p_10.N, .i p_10.Block]]) (fun (y : W2 Unit Int) e L τ PV => match y, e with | .a y, e => e = .exit 0 ∧ (σ = τ ∧ L = [] ∧ PV = [.cell a_1 [v_2, v_4, v_6, .i Used_8], .row (tBool).o 4 v_2 x_3, .row ((tInt .i64)).o 2 v_4 x_5, .row (T6).o 85 v_6 x_7]) | .b y, e => e = .ret ∧ (σ = τ ∧ L = [(4, .i y), (5, .i 0)] ∧ PV = [.cell a_1 [v_2, v_4, v_6, .i Used_8], .row (tBool).o 4 v_2 x_3, .row ((tInt .i64)).o 2 v_4 x_5, .row (T6).o 85 v_6 x_7])) _ ?_ ⟨rfl, rfl, rfl⟩ ?_ ?_
  ·exact ⟨rfl, rfl, rfl, trivial⟩
  ·rintro x_22 _ b s_25 _ ⟨rfl, rfl, rfl⟩
   unfold lychgateref06_Find_L1
   refine J_seq ?_
   refine J_seq ?_
   refine J_region ?_
   refine JL_op rfl (op_read rfl rfl (r_move (v := .i x_22) rfl) ?_)
   refine JL_op rfl (op_read rfl rfl (r_move (v := .pointer (some (Addr.add a_1 0))) rfl) ?_)
   refine JL_op rfl (op_read rfl rfl (r_nilCheck (a := (Addr.add a_1 0)) rfl) ?_)
   refine JL_op rfl (op_read rfl rfl (r_fieldAddr (r := Addr.add a_1 2) pu56 (f := Try.pf56.getD 2 default) rfl pi54 (by decide) rfl (Addr.add_add _ _ _)) ?_)
   refine JL_op rfl (op_read rfl rfl (r_load_priv (a := a_1) (off := 2) (cs' := [v_6]) (v := v_6) 0 pu54 pi54 rfl rfl rfl rfl (by decide) rfl) ?_)
   refine JL_op rfl (op_read rfl rfl (r_len_row (v := v_6) 3 pu54 rfl rfl) ?_)
   refine JL_op rfl (op_read rfl rfl (r_lss rfl rfl) ?_)
   refine JL_nil ?_
   refine J_then ?_
   refine J_cond rfl (fun hc_26 => ?_) (fun hc_26 => ?_)
   ·refine J_skip ?_
    refine J_then ?_
    refine J_seq ?_
    refine J_block ?_
    refine J_seq ?_
    refine J_region_any 24 [.cell a_1 [v_2, v_4, v_6, .i Used_8], .row (tBool).o 4 v_2 x_3, .row ((tInt .i64)).o 2 v_4 x_5, .row (T6).o 85 v_6 x_7, .cell c_12 [.i p_10.Kind, .i p_10.N, .i p_10.Block]] Try.mixed (by kernel_rfl) fun hns => ?_
    have hS_27 : HeldOK σ [.cell a_1 [v_2, v_4, v_6, .i Used_8], .row (tBool).o 4 v_2 x_3, .row ((tInt .i64)).o 2 v_4 x_5, .row (T6).o 85 v_6 x_7, .cell c_12 [.i p_10.Kind, .i p_10.N, .i p_10.Block]] σ [.cell a_1 [v_2, v_4, v_6, .i Used_8], .row (tBool).o 4 v_2 x_3, .row ((tInt .i64)).o 2 v_4 x_5, .row (T6).o 85 v_6 x_7, .cell c_12 [.i p_10.Kind, .i p_10.N, .i p_10.Block]] := HeldOK.same [0, 1, 2, 3, 4] (by decide) rfl
    refine JA_takep 0 rfl hns (by kernel_rfl) (by kernel_rfl) rfl (.inr hS_27) rfl rfl rfl (r_move (v := .pointer (some (Addr.add a_1 0))) rfl) ?_
    refine JA_takep 1 rfl hns (by kernel_rfl) (by kernel_rfl) rfl (.inr hS_27) rfl rfl rfl (r_nilCheck (a := (Addr.add a_1 0)) rfl) ?_
    refine JA_takep 2 rfl hns (by kernel_rfl) (by kernel_rfl) rfl (.inr hS_27) rfl rfl rfl (r_fieldAddr (r := Addr.add a_1 2) pu56 (f := Try.pf56.getD 2 default) rfl pi54 (by decide) rfl (Addr.add_add _ _ _)) ?_
    refine JA_take 3 rfl hns (by kernel_rfl) (by kernel_rfl) (by kernel_rfl) rfl (by kernel_rfl) hS_27 rfl rfl rfl (r_load_priv (a := a_1) (off := 2) (cs' := [v_6]) (v := v_6) 0 pu54 pi54 rfl rfl rfl rfl (by decide) rfl) ?_
    refine JA_takep 4 rfl hns (by kernel_rfl) (by kernel_rfl) rfl (.inr hS_27) rfl rfl rfl (r_move (v := .i x_22) rfl) ?_
    refine J_bind fun x_28 hx_29 => ?_
    refine JA_take 5 rfl hns (by kernel_rfl) (by kernel_rfl) (by kernel_rfl) rfl (by kernel_rfl) hS_27 rfl rfl rfl (r_index_row (v := v_6) (T := (T6).o) (q := x_28) 3 pu54 pi85 rfl rfl rfl rfl hx_29) ?_
    refine JA_takep 6 rfl hns (by kernel_rfl) (by kernel_rfl) rfl (.inr hS_27) rfl rfl rfl (r_fieldAddr (r := elemAddr v_6 ((x_22).toNat * ((T6).o).size + 0)) pu85 (f := Try.pf85.getD 0 default) rfl pi3 (by decide) rfl (elemAddr_add _ _ _)) ?_
    refine JA_takes 7 rfl hns (by kernel_rfl) (by kernel_rfl) (by kernel_rfl) rfl (by kernel_rfl) hS_27 rfl rfl rfl (l_elem_orow (v := v_6) (T := (T6).o) (Tf := (tInt .i64)) (q := x_28) (i := x_22) (off := 0) 3 pu3 pi3 rfl rfl rfl rfl hx_29 (OFieldAt.of f_Glychgateref06_Cell_Block) (by decide)) ?_
    intro v_30 h_31
    obtain rfl := tInt_v.1 h_31
    refine JA_takep 8 rfl hns (by kernel_rfl) (by kernel_rfl) rfl (.inr hS_27) rfl rfl rfl (r_fieldAddr (r := Addr.add c_12 2) pu74 (f := Try.pf74.getD 2 default) rfl pi3 (by decide) rfl (Addr.add_add _ _ _)) ?_
    refine JA_take 9 rfl hns (by kernel_rfl) (by kernel_rfl) (by kernel_rfl) rfl (by kernel_rfl) hS_27 rfl rfl rfl (r_load_priv (a := c_12) (off := 2) (cs' := [.i p_10.Block]) (v := .i p_10.Block) 4 pu3 pi3 rfl rfl rfl rfl (by decide) rfl) ?_
    refine JA_takep 10 rfl hns (by kernel_rfl) (by kernel_rfl) rfl (.inr hS_27) rfl rfl rfl (r_eql rfl rfl) ?_
    refine JA_takep 11 rfl hns (by kernel_rfl) (by kernel_rfl) rfl (.inr hS_27) rfl rfl rfl (r_move (v := .bool (decide (x_28.Block = p_10.Block))) rfl) ?_
    refine J_forkA (e := (decide (x_28.Block = p_10.Block))) 0 #[true, true, true, true, true, true, true, true, true, true, true, true, true, true, true, true, true, true, true, true, true, true, true, true] [(0, .pointer (some (Addr.add a_1 0))), (3, .pointer (some (Addr.add c_12 0))), (7, .i x_22), (46, .bool (decide (x_28.Block = p_10.Block) && decide (x_28.Number = p_10.N)))] (fun hc_32 hk => ?_) (fun hc_32 hk => ?_) (fun b => ?_)
    ·refine JA_takepg 12 rfl hns (by kernel_rfl) (by kernel_rfl) rfl (.inr hS_27) rfl rfl hc_32 rfl rfl (r_move (v := .pointer (some (Addr.add a_1 0))) rfl) ?_
     refine JA_takepg 13 rfl hns (by kernel_rfl) (by kernel_rfl) rfl (.inr hS_27) rfl rfl hc_32 rfl rfl (r_nilCheck (a := (Addr.add a_1 0)) rfl) ?_
     refine JA_takepg 14 rfl hns (by kernel_rfl) (by kernel_rfl) rfl (.inr hS_27) rfl rfl hc_32 rfl rfl (r_fieldAddr (r := Addr.add a_1 2) pu56 (f := Try.pf56.getD 2 default) rfl pi54 (by decide) rfl (Addr.add_add _ _ _)) ?_
     refine JA_takeg 15 rfl hns (by kernel_rfl) (by kernel_rfl) (by kernel_rfl) rfl (by kernel_rfl) hS_27 rfl rfl hc_32 rfl rfl (r_load_priv (a := a_1) (off := 2) (cs' := [v_6]) (v := v_6) 0 pu54 pi54 rfl rfl rfl rfl (by decide) rfl) ?_
     refine JA_takepg 16 rfl hns (by kernel_rfl) (by kernel_rfl) rfl (.inr hS_27) rfl rfl hc_32 rfl rfl (r_move (v := .i x_22) rfl) ?_
     refine JA_takeg 17 rfl hns (by kernel_rfl) (by kernel_rfl) (by kernel_rfl) rfl (by kernel_rfl) hS_27 rfl rfl hc_32 rfl rfl (r_index_row (v := v_6) (T := (T6).o) (q := x_28) 3 pu54 pi85 rfl rfl rfl rfl hx_29) ?_
     refine JA_takepg 18 rfl hns (by kernel_rfl) (by kernel_rfl) rfl (.inr hS_27) rfl rfl hc_32 rfl rfl (r_fieldAddr (r := elemAddr v_6 ((x_22).toNat * ((T6).o).size + 1)) pu85 (f := Try.pf85.getD 1 default) rfl pi2 (by decide) rfl (elemAddr_add _ _ _)) ?_
     refine JA_takesg 19 rfl hns (by kernel_rfl) (by kernel_rfl) (by kernel_rfl) rfl (by kernel_rfl) hS_27 rfl rfl hc_32 rfl rfl (l_elem_orow (v := v_6) (T := (T6).o) (Tf := (tInt .i64)) (q := x_28) (i := x_22) (off := 1) 3 pu2 pi2 rfl rfl rfl rfl hx_29 (OFieldAt.of f_Glychgateref06_Cell_Number) (by decide)) ?_
     intro v_33 h_34
     obtain rfl := tInt_v.1 h_34
     refine JA_takepg 20 rfl hns (by kernel_rfl) (by kernel_rfl) rfl (.inr hS_27) rfl rfl hc_32 rfl rfl (r_fieldAddr (r := Addr.add c_12 1) pu74 (f := Try.pf74.getD 1 default) rfl pi2 (by decide) rfl (Addr.add_add _ _ _)) ?_
     refine JA_takeg 21 rfl hns (by kernel_rfl) (by kernel_rfl) (by kernel_rfl) rfl (by kernel_rfl) hS_27 rfl rfl hc_32 rfl rfl (r_load_priv (a := c_12) (off := 1) (cs' := [.i p_10.N]) (v := .i p_10.N) 4 pu2 pi2 rfl rfl rfl rfl (by decide) rfl) ?_
     refine JA_takepg 22 rfl hns (by kernel_rfl) (by kernel_rfl) rfl (.inr hS_27) rfl rfl hc_32 rfl rfl (r_eql rfl rfl) ?_
     refine JA_takep 23 rfl hns (by kernel_rfl) (by kernel_rfl) rfl (.inr hS_27) rfl rfl rfl (r_pick_t (v := .bool (decide (x_28.Number = p_10.N))) rfl hc_32 rfl) ?_
     refine J_prune [(0, .pointer (some (Addr.add a_1 0))), (3, .pointer (some (Addr.add c_12 0))), (7, .i x_22), (46, .bool (decide (x_28.Block = p_10.Block) && decide (x_28.Number = p_10.N)))] ⟨rfl, rfl, rfl, (by show Value.bool _ = Value.bool _; rw [hc_32]; rfl), trivial⟩ hk
    ·refine JA_skip (y := some (decide (x_28.Block = p_10.Block))) 12 rfl hns (by kernel_rfl) (by kernel_rfl) rfl (.inr hS_27) rfl rfl (by rw [hc_32]; decide) rfl rfl ?_
     refine JA_skip (y := some (decide (x_28.Block = p_10.Block))) 13 rfl hns (by kernel_rfl) (by kernel_rfl) rfl (.inr hS_27) rfl rfl (by rw [hc_32]; decide) rfl rfl ?_
     refine JA_skip (y := some (decide (x_28.Block = p_10.Block))) 14 rfl hns (by kernel_rfl) (by kernel_rfl) rfl (.inr hS_27) rfl rfl (by rw [hc_32]; decide) rfl rfl ?_
     refine JA_skip (y := some (decide (x_28.Block = p_10.Block))) 15 rfl hns (by kernel_rfl) (by kernel_rfl) rfl (.inr hS_27) rfl rfl (by rw [hc_32]; decide) rfl rfl ?_
     refine JA_skip (y := some (decide (x_28.Block = p_10.Block))) 16 rfl hns (by kernel_rfl) (by kernel_rfl) rfl (.inr hS_27) rfl rfl (by rw [hc_32]; decide) rfl rfl ?_
     refine JA_skip (y := some (decide (x_28.Block = p_10.Block))) 17 rfl hns (by kernel_rfl) (by kernel_rfl) rfl (.inr hS_27) rfl rfl (by rw [hc_32]; decide) rfl rfl ?_
     refine JA_skip (y := some (decide (x_28.Block = p_10.Block))) 18 rfl hns (by kernel_rfl) (by kernel_rfl) rfl (.inr hS_27) rfl rfl (by rw [hc_32]; decide) rfl rfl ?_
     refine JA_skip (y := some (decide (x_28.Block = p_10.Block))) 19 rfl hns (by kernel_rfl) (by kernel_rfl) rfl (.inr hS_27) rfl rfl (by rw [hc_32]; decide) rfl rfl ?_
     refine JA_skip (y := some (decide (x_28.Block = p_10.Block))) 20 rfl hns (by kernel_rfl) (by kernel_rfl) rfl (.inr hS_27) rfl rfl (by rw [hc_32]; decide) rfl rfl ?_
     refine JA_skip (y := some (decide (x_28.Block = p_10.Block))) 21 rfl hns (by kernel_rfl) (by kernel_rfl) rfl (.inr hS_27) rfl rfl (by rw [hc_32]; decide) rfl rfl ?_
     refine JA_skip (y := some (decide (x_28.Block = p_10.Block))) 22 rfl hns (by kernel_rfl) (by kernel_rfl) rfl (.inr hS_27) rfl rfl (by rw [hc_32]; decide) rfl rfl ?_
     refine JA_takep 23 rfl hns (by kernel_rfl) (by kernel_rfl) rfl (.inr hS_27) rfl rfl rfl (r_pick_f (v := .bool false) rfl hc_32 rfl) ?_
     refine J_prune [(0, .pointer (some (Addr.add a_1 0))), (3, .pointer (some (Addr.add c_12 0))), (7, .i x_22), (46, .bool (decide (x_28.Block = p_10.Block) && decide (x_28.Number = p_10.N)))] ⟨rfl, rfl, rfl, (by show Value.bool _ = Value.bool _; rw [hc_32]; rfl), trivial⟩ hk
    ·refine JA_done (by kernel_rfl) ?_
     refine J_then ?_
     refine J_cond rfl (fun hc_35 => ?_) (fun hc_35 => ?_)
     ·refine J_seq ?_
      refine J_region ?_
      refine JL_op rfl (op_read rfl rfl (r_move (v := .i x_22) rfl) ?_)
      refine JL_op rfl (op_read rfl rfl (r_assign (v := .i x_22) rfl) ?_)
      refine JL_op rfl (op_read rfl rfl (r_assign (v := .i 0) rfl) ?_)
      refine JL_nil ?_
      refine J_then ?_
      refine J_ret ?_
      refine J_in_ret ?_
      refine J_then_ret ?_
      refine J_select (PV' := [.cell a_1 [v_2, v_4, v_6, .i Used_8], .row (tBool).o 4 v_2 x_3, .row ((tInt .i64)).o 2 v_4 x_5, .row (T6).o 85 v_6 x_7]) [0, 1, 2, 3] (by decide) rfl ?_
      refine J_done trivial _ ?_ ⟨rfl, rfl, rfl, rfl⟩
      exact ⟨rfl, rfl, trivial⟩
     ·refine J_skip ?_
      refine J_in_normal ?_
      refine J_then ?_
      refine J_region ?_
      refine JL_op rfl (op_read rfl rfl (r_move (v := .i x_22) rfl) ?_)
      refine JL_op rfl (op_read rfl rfl (r_add rfl rfl) ?_)
      refine JL_op rfl (op_read rfl rfl (r_assign (v := .i (IntKind.i64.wrap (x_22 + 1))) rfl) ?_)
      refine JL_nil ?_
      refine J_next _ ?_ ⟨rfl, rfl, rfl⟩
      exact ⟨rfl, rfl, rfl, trivial⟩
   ·refine J_exit ?_
    refine J_then_exit ?_
    refine J_select (PV' := [.cell a_1 [v_2, v_4, v_6, .i Used_8], .row (tBool).o 4 v_2 x_3, .row ((tInt .i64)).o 2 v_4 x_5, .row (T6).o 85 v_6 x_7]) [0, 1, 2, 3] (by decide) rfl ?_
    refine J_done trivial _ ?_ ⟨rfl, rfl, rfl, rfl⟩
    exact trivial
  ·rintro (y_37 | y_41) e L b τ PV ht
   ·obtain ⟨rfl, ht⟩ := ht
    revert ht; revert PV; revert τ; revert b; revert L
    rintro _ b s_40 _ ⟨rfl, rfl, rfl⟩
    refine J_in_exit ?_
    refine J_then ?_
    refine J_seq ?_
    refine J_region ?_
    refine JL_op rfl (op_read rfl rfl (r_assign (v := .i (-1)) rfl) ?_)
    refine JL_op rfl (op_read rfl rfl (r_assign (v := .i 3) rfl) ?_)
    refine JL_nil ?_
    refine J_then ?_
    refine J_ret ?_
    exact J_returnV2 (PV' := [.cell a_1 [v_2, v_4, v_6, .i Used_8], .row (tBool).o 4 v_2 x_3, .row ((tInt .i64)).o 2 v_4 x_5, .row (T6).o 85 v_6 x_7]) rfl rv_tmp rv_tmp [0, 1, 2, 3] (by decide) rfl ⟨rfl, rfl, rfl⟩
   ·obtain ⟨rfl, ht⟩ := ht
    revert ht; revert PV; revert τ; revert b; revert L
    rintro _ b s_44 _ ⟨rfl, rfl, rfl⟩
    refine J_in_ret ?_
    refine J_then_ret ?_
    exact J_returnV2 (PV' := [.cell a_1 [v_2, v_4, v_6, .i Used_8], .row (tBool).o 4 v_2 x_3, .row ((tInt .i64)).o 2 v_4 x_5, .row (T6).o 85 v_6 x_7]) rfl rv_tmp rv_tmp [0, 1, 2, 3] (by decide) rfl ⟨rfl, rfl, rfl⟩
def lychgateref06_Begin_post (σ0 : FS) (a_1 : Addr) (v_2 : Value) (x_3 : Sl Bool) (v_4 : Value) (x_5 : Sl Int) (v_6 : Value) (x_7 : Sl Glychgateref06_Cell) (Used_8 : Int) (v_9 : Value) (p_10 : Glychgateref06_Value) (write_12 : Bool) (r : Int × (Sl Glychgateref06_Cell)) (σ : FS) (PV : List Priv) (v : Value) : Prop :=
 σ0 = σ ∧ .i r.1 = v ∧ PV = [.cell a_1 [v_2, v_4, v_6, .i Used_8], .row (tBool).o 4 v_2 x_3, .row ((tInt .i64)).o 2 v_4 x_5, .row (T6).o 85 v_6 r.2]
set_option maxRecDepth 100000 in
theorem lychgateref06_Begin_ref (s : Start) (σ : FS) (a_1 : Addr) (v_2 : Value) (x_3 : Sl Bool) (v_4 : Value) (x_5 : Sl Int) (v_6 : Value) (x_7 : Sl Glychgateref06_Cell) (Used_8 : Int) (v_9 : Value) (p_10 : Glychgateref06_Value) (h_11 : T4.vrel σ v_9 p_10) (write_12 : Bool) (hs : Pre s σ [.cell a_1 [v_2, v_4, v_6, .i Used_8], .row (tBool).o 4 v_2 x_3, .row ((tInt .i64)).o 2 v_4 x_5, .row (T6).o 85 v_6 x_7]) (r : Int × (Sl Glychgateref06_Cell)) (hr : lychgateref06_Begin x_3 x_5 x_7 Used_8 p_10 write_12 = some r) : Does Try.prog 33 [.pointer (some (Addr.add a_1 0)), v_9, .bool write_12] s σ (lychgateref06_Begin_post σ a_1 v_2 x_3 v_4 x_5 v_6 x_7 Used_8 v_9 p_10 write_12 r) := by
 unfold lychgateref06_Begin at hr
 obtain rfl := T4_v.1 h_11
 refine does_of_J Try.func33 rfl (n := 64) rfl rfl hs hr ?_
 refine J_seq ?_
 refine J_region ?_
 refine JL_op rfl (op_box (cs := [.i p_10.Kind, .i p_10.N, .i p_10.Block]) rfl rfl ?_)
 intro c_13
 refine JL_op rfl (op_read rfl rfl (r_assign (v := .i 0) rfl) ?_)
 refine JL_nil ?_
 refine J_then ?_
 refine J_seq ?_
 refine J_region ?_
 refine JL_op rfl (op_read rfl rfl (r_move (v := .pointer (some (Addr.add a_1 0))) rfl) ?_)
 refine JL_op rfl (op_read rfl rfl (r_load_priv (a := c_13) (off := 0) (cs' := [.i p_10.Kind, .i p_10.N, .i p_10.Block]) (v := .agg #[.i p_10.Kind, .i p_10.N, .i p_10.Block]) 0 pu74 pi74 rfl rfl rfl rfl (by decide) rfl) ?_)
 refine J_select (PV' := [.cell a_1 [v_2, v_4, v_6, .i Used_8], .row (tBool).o 4 v_2 x_3, .row ((tInt .i64)).o 2 v_4 x_5, .row (T6).o 85 v_6 x_7, .cell c_13 [.i p_10.Kind, .i p_10.N, .i p_10.Block]]) [1, 2, 3, 4, 0] (by decide) rfl ?_
 refine JL_op rfl (op_call (f := 38) (fn := Try.f38) (args := [.pointer (some (Addr.add a_1 0)), .agg #[.i p_10.Kind, .i p_10.N, .i p_10.Block]]) (post := lychgateref06_Find_post σ a_1 v_2 x_3 v_4 x_5 v_6 x_7 Used_8 (.agg #[.i p_10.Kind, .i p_10.N, .i p_10.Block]) p_10) [.cell a_1 [v_2, v_4, v_6, .i Used_8], .row (tBool).o 4 v_2 x_3, .row ((tInt .i64)).o 2 v_4 x_5, .row (T6).o 85 v_6 x_7] [.cell c_13 [.i p_10.Kind, .i p_10.N, .i p_10.Block]] rfl rfl rfl Try.func38 pn38 rfl rfl (fun y st hy hpre => lychgateref06_Find_ref st σ a_1 v_2 x_3 v_4 x_5 v_6 x_7 Used_8 (.agg #[.i p_10.Kind, .i p_10.N, .i p_10.Block]) p_10 (T4_v.2 rfl) hpre y hy) ?_)
 intro r_15 v_17 s_20 PV_18 hr_16 hle_21 hp_19
 obtain ⟨rfl, rfl, rfl⟩ := hp_19
 refine JL_op rfl (op_read rfl rfl (r_move (v := .tuple #[.i r_15.1, .i r_15.2]) rfl) ?_)
 refine JL_op rfl (op_read rfl rfl (r_extract (v := .i r_15.1) rfl rfl) ?_)
 refine JL_op rfl (op_read rfl rfl (r_extract (v := .i r_15.2) rfl rfl) ?_)
 refine JL_op rfl (op_read rfl rfl (r_assign (v := .i r_15.1) rfl) ?_)
 refine JL_op rfl (op_read rfl rfl (r_assign (v := .i r_15.2) rfl) ?_)
 refine JL_nil ?_
 refine J_then ?_
 refine J_seq ?_
 refine J_seq ?_
 refine J_region ?_
 refine JL_op rfl (op_read rfl rfl (r_move (v := .i r_15.2) rfl) ?_)
 refine JL_op rfl (op_read rfl rfl (r_neq rfl rfl) ?_)
 refine JL_nil ?_
 refine J_then ?_
 refine J_cond rfl (fun hc_22 => ?_) (fun hc_22 => ?_)
 ·refine J_seq ?_
  refine J_region ?_
  refine JL_op rfl (op_read rfl rfl (r_move (v := .i r_15.2) rfl) ?_)
  refine JL_op rfl (op_read rfl rfl (r_assign (v := .i r_15.2) rfl) ?_)
  refine JL_nil ?_
  refine J_then ?_
  refine J_ret ?_
  refine J_then_ret ?_
  exact J_returnV1 (PV' := [.cell a_1 [v_2, v_4, v_6, .i Used_8], .row (tBool).o 4 v_2 x_3, .row ((tInt .i64)).o 2 v_4 x_5, .row (T6).o 85 v_6 x_7]) rfl rv_tmp [0, 1, 2, 3] (by decide) rfl ⟨rfl, rfl, rfl⟩
 ·refine J_skip ?_
  refine J_then ?_
  refine J_seq ?_
  refine J_seq ?_
  refine J_region ?_
  refine JL_op rfl (op_read rfl rfl (r_move (v := .pointer (some (Addr.add a_1 0))) rfl) ?_)
  refine JL_op rfl (op_read rfl rfl (r_nilCheck (a := (Addr.add a_1 0)) rfl) ?_)
  refine JL_op rfl (op_read rfl rfl (r_fieldAddr (r := Addr.add a_1 2) pu56 (f := Try.pf56.getD 2 default) rfl pi54 (by decide) rfl (Addr.add_add _ _ _)) ?_)
  refine JL_op rfl (op_read rfl rfl (r_load_priv (a := a_1) (off := 2) (cs' := [v_6]) (v := v_6) 0 pu54 pi54 rfl rfl rfl rfl (by decide) rfl) ?_)
  refine JL_op rfl (op_read rfl rfl (r_move (v := .i r_15.1) rfl) ?_)
  refine J_bind fun x_23 hx_24 => ?_
  refine JL_op rfl (op_read rfl rfl (r_index_row (v := v_6) (T := (T6).o) (q := x_23) 3 pu54 pi85 rfl rfl rfl rfl hx_24) ?_)
  refine JL_op rfl (op_read rfl rfl (r_fieldAddr (r := elemAddr v_6 ((r_15.1).toNat * ((T6).o).size + 6)) pu85 (f := Try.pf85.getD 4 default) rfl pi4 (by decide) rfl (elemAddr_add _ _ _)) ?_)
  refine JL_op rfl (op_reads rfl rfl (l_elem_orow (v := v_6) (T := (T6).o) (Tf := tBool) (q := x_23) (i := r_15.1) (off := 6) 3 pu4 pi4 rfl rfl rfl rfl hx_24 (OFieldAt.of f_Glychgateref06_Cell_Writer) (by decide)) ?_)
  intro v_25 h_26
  obtain rfl := tBool_v.1 h_26
  refine JL_op rfl (op_read rfl rfl (r_move (v := .bool x_23.Writer) rfl) ?_)
  refine J_forkL (e := x_23.Writer) 13 [(0, .pointer (some (Addr.add a_1 0))), (2, .bool write_12), (7, .i r_15.1), (39, .bool (x_23.Writer || (write_12 && decide (0 < x_23.Readers))))] (fun hc_27 hk => ?_) (fun hc_27 hk => ?_) (fun b => ?_)
  ·refine JL_skip rfl rfl hc_27 rfl rfl ?_
   refine JL_skip rfl rfl hc_27 rfl rfl ?_
   iterate 9 refine JL_skipn rfl rfl rfl rfl ?_
   refine JL_skip rfl rfl hc_27 rfl rfl ?_
   refine JL_op rfl (op_read rfl rfl (r_pick_t (v := .bool true) rfl hc_27 rfl) ?_)
   refine J_prune [(0, .pointer (some (Addr.add a_1 0))), (2, .bool write_12), (7, .i r_15.1), (39, .bool (x_23.Writer || (write_12 && decide (0 < x_23.Readers))))] ⟨rfl, rfl, rfl, (by show Value.bool _ = Value.bool _; rw [hc_27]; rfl), trivial⟩ hk
  ·refine JL_opg rfl rfl hc_27 (op_read rfl rfl (r_move (v := .bool write_12) rfl) ?_)
   refine JL_opg rfl rfl hc_27 (op_read rfl rfl (r_move (v := .bool write_12) rfl) ?_)
   refine J_forkL (e := write_12) 10 [(0, .pointer (some (Addr.add a_1 0))), (2, .bool write_12), (7, .i r_15.1), (18, .pointer (some (Addr.add a_1 0))), (19, .pointer (some (Addr.add a_1 0))), (20, .pointer (some (Addr.add a_1 2))), (21, v_6), (22, .i r_15.1), (23, .pointer (some (elemAddr v_6 ((r_15.1).toNat * ((T6).o).size + 0)))), (24, .pointer (some (elemAddr v_6 ((r_15.1).toNat * ((T6).o).size + 6)))), (25, .bool x_23.Writer), (26, .bool x_23.Writer), (27, .bool write_12), (28, .bool write_12), (38, .bool (write_12 && decide (0 < x_23.Readers)))] (fun hc_28 hk => ?_) (fun hc_28 hk => ?_) (fun b => ?_)
   ·refine JL_opg rfl rfl hc_28 (op_read rfl rfl (r_move (v := .pointer (some (Addr.add a_1 0))) rfl) ?_)
    refine JL_opg rfl rfl hc_28 (op_read rfl rfl (r_nilCheck (a := (Addr.add a_1 0)) rfl) ?_)
    refine JL_opg rfl rfl hc_28 (op_read rfl rfl (r_fieldAddr (r := Addr.add a_1 2) pu56 (f := Try.pf56.getD 2 default) rfl pi54 (by decide) rfl (Addr.add_add _ _ _)) ?_)
    refine JL_opg rfl rfl hc_28 (op_read rfl rfl (r_load_priv (a := a_1) (off := 2) (cs' := [v_6]) (v := v_6) 0 pu54 pi54 rfl rfl rfl rfl (by decide) rfl) ?_)
    refine JL_opg rfl rfl hc_28 (op_read rfl rfl (r_move (v := .i r_15.1) rfl) ?_)
    refine JL_opg rfl rfl hc_28 (op_read rfl rfl (r_index_row (v := v_6) (T := (T6).o) (q := x_23) 3 pu54 pi85 rfl rfl rfl rfl hx_24) ?_)
    refine JL_opg rfl rfl hc_28 (op_read rfl rfl (r_fieldAddr (r := elemAddr v_6 ((r_15.1).toNat * ((T6).o).size + 5)) pu85 (f := Try.pf85.getD 3 default) rfl pi3 (by decide) rfl (elemAddr_add _ _ _)) ?_)
    refine JL_opg rfl rfl hc_28 (op_reads rfl rfl (l_elem_orow (v := v_6) (T := (T6).o) (Tf := (tInt .i64)) (q := x_23) (i := r_15.1) (off := 5) 3 pu3 pi3 rfl rfl rfl rfl hx_24 (OFieldAt.of f_Glychgateref06_Cell_Readers) (by decide)) ?_)
    intro v_29 h_30
    obtain rfl := tInt_v.1 h_30
    refine JL_opg rfl rfl hc_28 (op_read rfl rfl (r_gtr rfl rfl) ?_)
    refine JL_opg rfl rfl hc_27 (op_read rfl rfl (r_pick_t (v := .bool (decide (0 < x_23.Readers))) rfl hc_28 rfl) ?_)
    refine J_prune [(0, .pointer (some (Addr.add a_1 0))), (2, .bool write_12), (7, .i r_15.1), (18, .pointer (some (Addr.add a_1 0))), (19, .pointer (some (Addr.add a_1 0))), (20, .pointer (some (Addr.add a_1 2))), (21, v_6), (22, .i r_15.1), (23, .pointer (some (elemAddr v_6 ((r_15.1).toNat * ((T6).o).size + 0)))), (24, .pointer (some (elemAddr v_6 ((r_15.1).toNat * ((T6).o).size + 6)))), (25, .bool x_23.Writer), (26, .bool x_23.Writer), (27, .bool write_12), (28, .bool write_12), (38, .bool (write_12 && decide (0 < x_23.Readers)))] ⟨rfl, rfl, rfl, rfl, rfl, rfl, rfl, rfl, rfl, rfl, rfl, rfl, rfl, rfl, (by show Value.bool _ = Value.bool _; rw [hc_28]; rfl), trivial⟩ hk
   ·refine JL_skip rfl rfl hc_28 rfl rfl ?_
    iterate 8 refine JL_skip rfl rfl hc_28 rfl rfl ?_
    refine JL_opg rfl rfl hc_27 (op_read rfl rfl (r_pick_f (v := .bool false) rfl hc_28 rfl) ?_)
    refine J_prune [(0, .pointer (some (Addr.add a_1 0))), (2, .bool write_12), (7, .i r_15.1), (18, .pointer (some (Addr.add a_1 0))), (19, .pointer (some (Addr.add a_1 0))), (20, .pointer (some (Addr.add a_1 2))), (21, v_6), (22, .i r_15.1), (23, .pointer (some (elemAddr v_6 ((r_15.1).toNat * ((T6).o).size + 0)))), (24, .pointer (some (elemAddr v_6 ((r_15.1).toNat * ((T6).o).size + 6)))), (25, .bool x_23.Writer), (26, .bool x_23.Writer), (27, .bool write_12), (28, .bool write_12), (38, .bool (write_12 && decide (0 < x_23.Readers)))] ⟨rfl, rfl, rfl, rfl, rfl, rfl, rfl, rfl, rfl, rfl, rfl, rfl, rfl, rfl, (by show Value.bool _ = Value.bool _; rw [hc_28]; rfl), trivial⟩ hk
   ·refine JL_op rfl (op_read rfl rfl (r_pick_f (v := .bool (write_12 && decide (0 < x_23.Readers))) rfl hc_27 rfl) ?_)
    refine J_prune [(0, .pointer (some (Addr.add a_1 0))), (2, .bool write_12), (7, .i r_15.1), (39, .bool (x_23.Writer || (write_12 && decide (0 < x_23.Readers))))] ⟨rfl, rfl, rfl, (by show Value.bool _ = Value.bool _; rw [hc_27]; rfl), trivial⟩ hk
  ·refine JL_nil ?_
   refine J_then ?_
   refine J_cond rfl (fun hc_31 => ?_) (fun hc_31 => ?_)
   ·refine J_seq ?_
    refine J_region ?_
    refine JL_op rfl (op_read rfl rfl (r_assign (v := .i 6) rfl) ?_)
    refine JL_nil ?_
    refine J_then ?_
    refine J_ret ?_
    refine J_then_ret ?_
    exact J_returnV1 (PV' := [.cell a_1 [v_2, v_4, v_6, .i Used_8], .row (tBool).o 4 v_2 x_3, .row ((tInt .i64)).o 2 v_4 x_5, .row (T6).o 85 v_6 x_7]) rfl rv_tmp [0, 1, 2, 3] (by decide) rfl ⟨rfl, rfl, rfl⟩
   ·refine J_skip ?_
    refine J_then ?_
    refine J_seq ?_
    refine J_seq ?_
    refine J_region ?_
    refine JL_op rfl (op_read rfl rfl (r_move (v := .bool write_12) rfl) ?_)
    refine JL_nil ?_
    refine J_then ?_
    refine J_cut (fun (y : (Sl Glychgateref06_Cell)) e L τ PV => e = .normal ∧ (σ = τ ∧ L = [] ∧ PV = [.cell a_1 [v_2, v_4, v_6, .i Used_8], .row (tBool).o 4 v_2 x_3, .row ((tInt .i64)).o 2 v_4 x_5, .row (T6).o 85 v_6 y])) ?_ ?_
    ·refine J_cond rfl (fun hc_32 => ?_) (fun hc_32 => ?_)
     ·refine J_region ?_
      refine JL_op rfl (op_read rfl rfl (r_move (v := .pointer (some (Addr.add a_1 0))) rfl) ?_)
      refine JL_op rfl (op_read rfl rfl (r_nilCheck (a := (Addr.add a_1 0)) rfl) ?_)
      refine JL_op rfl (op_read rfl rfl (r_fieldAddr (r := Addr.add a_1 2) pu56 (f := Try.pf56.getD 2 default) rfl pi54 (by decide) rfl (Addr.add_add _ _ _)) ?_)
      refine JL_op rfl (op_read rfl rfl (r_load_priv (a := a_1) (off := 2) (cs' := [v_6]) (v := v_6) 0 pu54 pi54 rfl rfl rfl rfl (by decide) rfl) ?_)
      refine JL_op rfl (op_read rfl rfl (r_move (v := .i r_15.1) rfl) ?_)
      refine JL_op rfl (op_read rfl rfl (r_index_row (v := v_6) (T := (T6).o) (q := x_23) 3 pu54 pi85 rfl rfl rfl rfl hx_24) ?_)
      refine JL_op rfl (op_read rfl rfl (r_fieldAddr (r := elemAddr v_6 ((r_15.1).toNat * ((T6).o).size + 6)) pu85 (f := Try.pf85.getD 4 default) rfl pi4 (by decide) rfl (elemAddr_add _ _ _)) ?_)
      refine J_select (PV' := [.row (T6).o 85 v_6 x_7, .cell a_1 [v_2, v_4, v_6, .i Used_8], .row (tBool).o 4 v_2 x_3, .row ((tInt .i64)).o 2 v_4 x_5, .cell c_13 [.i p_10.Kind, .i p_10.N, .i p_10.Block]]) [3, 0, 1, 2, 4] (by decide) rfl ?_
      refine J_take (T := (T6).o) (i := r_15.1) hx_24 fun u_34 hu_33 => ?_
      change J _ _ _ _ _ _ _ _ [.hole (fun x => .elem (T6).o (elemAddr v_6 ((r_15.1).toNat * ((T6).o).size)) x) (fun x => .row (T6).o 85 v_6 (Sl.set x_7 r_15.1 x)), .cell (elemAddr v_6 ((r_15.1).toNat * ((T6).o).size)) [.i x_23.Block, .i x_23.Number, .i x_23.V.Kind, .i x_23.V.N, .i x_23.V.Block, .i x_23.Readers, .bool x_23.Writer], .cell a_1 [v_2, v_4, v_6, .i Used_8], .row (tBool).o 4 v_2 x_3, .row ((tInt .i64)).o 2 v_4 x_5, .cell c_13 [.i p_10.Kind, .i p_10.N, .i p_10.Block]]
      refine JL_op rfl (op_store_priv (a := (elemAddr v_6 ((r_15.1).toNat * ((T6).o).size))) (off := 6) (vs := [.bool true]) (cs' := [.i x_23.Block, .i x_23.Number, .i x_23.V.Kind, .i x_23.V.N, .i x_23.V.Block, .i x_23.Readers, .bool true]) (PV' := [.hole (fun x => .elem (T6).o (elemAddr v_6 ((r_15.1).toNat * ((T6).o).size)) x) (fun x => .row (T6).o 85 v_6 (Sl.set x_7 r_15.1 x)), .cell (elemAddr v_6 ((r_15.1).toNat * ((T6).o).size)) [.i x_23.Block, .i x_23.Number, .i x_23.V.Kind, .i x_23.V.N, .i x_23.V.Block, .i x_23.Readers, .bool true], .cell a_1 [v_2, v_4, v_6, .i Used_8], .row (tBool).o 4 v_2 x_3, .row ((tInt .i64)).o 2 v_4 x_5, .cell c_13 [.i p_10.Kind, .i p_10.N, .i p_10.Block]]) 1 pi4 (pe_add v_6 ((r_15.1).toNat * ((T6).o).size) 6) rfl rfl ⟨rfl, trivial⟩ rfl rfl rfl rfl rfl ?_)
      refine JL_nil ?_
      refine J_put (T := (T6).o) (i := r_15.1) (s := x_7) (s' := (Sl.set x_7 r_15.1 (⟨x_23.Block, x_23.Number, x_23.V, x_23.Readers, true⟩ : Glychgateref06_Cell))) (A := []) (C := [.cell a_1 [v_2, v_4, v_6, .i Used_8], .row (tBool).o 4 v_2 x_3, .row ((tInt .i64)).o 2 v_4 x_5, .cell c_13 [.i p_10.Kind, .i p_10.N, .i p_10.Block]]) (⟨x_23.Block, x_23.Number, x_23.V, x_23.Readers, true⟩ : Glychgateref06_Cell) () trivial rfl rfl rfl ?_
      refine J_select (PV' := [.cell a_1 [v_2, v_4, v_6, .i Used_8], .row (tBool).o 4 v_2 x_3, .row ((tInt .i64)).o 2 v_4 x_5, .row (T6).o 85 v_6 (Sl.set x_7 r_15.1 (⟨x_23.Block, x_23.Number, x_23.V, x_23.Readers, true⟩ : Glychgateref06_Cell))]) [1, 2, 3, 0] (by decide) rfl ?_
      refine J_cut_end _ ?_ ⟨rfl, rfl, rfl, rfl⟩ trivial
      exact trivial
     ·refine J_region_any 16 [.cell a_1 [v_2, v_4, v_6, .i Used_8], .row (tBool).o 4 v_2 x_3, .row ((tInt .i64)).o 2 v_4 x_5, .row (T6).o 85 v_6 x_7, .cell c_13 [.i p_10.Kind, .i p_10.N, .i p_10.Block]] Try.mixed (by kernel_rfl) fun hns => ?_
      have hS_36 : HeldOK σ [.cell a_1 [v_2, v_4, v_6, .i Used_8], .row (tBool).o 4 v_2 x_3, .row ((tInt .i64)).o 2 v_4 x_5, .row (T6).o 85 v_6 x_7, .cell c_13 [.i p_10.Kind, .i p_10.N, .i p_10.Block]] σ [.cell a_1 [v_2, v_4, v_6, .i Used_8], .row (tBool).o 4 v_2 x_3, .row ((tInt .i64)).o 2 v_4 x_5, .row (T6).o 85 v_6 x_7, .cell c_13 [.i p_10.Kind, .i p_10.N, .i p_10.Block]] := HeldOK.same [0, 1, 2, 3, 4] (by decide) rfl
      refine JA_takep 0 rfl hns (by kernel_rfl) (by kernel_rfl) rfl (.inr hS_36) rfl rfl rfl (r_move (v := .pointer (some (Addr.add a_1 0))) rfl) ?_
      refine JA_takep 1 rfl hns (by kernel_rfl) (by kernel_rfl) rfl (.inr hS_36) rfl rfl rfl (r_nilCheck (a := (Addr.add a_1 0)) rfl) ?_
      refine JA_takep 2 rfl hns (by kernel_rfl) (by kernel_rfl) rfl (.inr hS_36) rfl rfl rfl (r_fieldAddr (r := Addr.add a_1 2) pu56 (f := Try.pf56.getD 2 default) rfl pi54 (by decide) rfl (Addr.add_add _ _ _)) ?_
      refine JA_take 3 rfl hns (by kernel_rfl) (by kernel_rfl) (by kernel_rfl) rfl (by kernel_rfl) hS_36 rfl rfl rfl (r_load_priv (a := a_1) (off := 2) (cs' := [v_6]) (v := v_6) 0 pu54 pi54 rfl rfl rfl rfl (by decide) rfl) ?_
      refine JA_takep 4 rfl hns (by kernel_rfl) (by kernel_rfl) rfl (.inr hS_36) rfl rfl rfl (r_move (v := .i r_15.1) rfl) ?_
      refine JA_takep 5 rfl hns (by kernel_rfl) (by kernel_rfl) rfl (.inr hS_36) rfl rfl rfl (r_move (v := .pointer (some (Addr.add a_1 0))) rfl) ?_
      refine JA_takep 6 rfl hns (by kernel_rfl) (by kernel_rfl) rfl (.inr hS_36) rfl rfl rfl (r_nilCheck (a := (Addr.add a_1 0)) rfl) ?_
      refine JA_takep 7 rfl hns (by kernel_rfl) (by kernel_rfl) rfl (.inr hS_36) rfl rfl rfl (r_fieldAddr (r := Addr.add a_1 2) pu56 (f := Try.pf56.getD 2 default) rfl pi54 (by decide) rfl (Addr.add_add _ _ _)) ?_
      refine JA_take 8 rfl hns (by kernel_rfl) (by kernel_rfl) (by kernel_rfl) rfl (by kernel_rfl) hS_36 rfl rfl rfl (r_load_priv (a := a_1) (off := 2) (cs' := [v_6]) (v := v_6) 0 pu54 pi54 rfl rfl rfl rfl (by decide) rfl) ?_
      refine JA_takep 9 rfl hns (by kernel_rfl) (by kernel_rfl) rfl (.inr hS_36) rfl rfl rfl (r_move (v := .i r_15.1) rfl) ?_
      refine JA_take 10 rfl hns (by kernel_rfl) (by kernel_rfl) (by kernel_rfl) rfl (by kernel_rfl) hS_36 rfl rfl rfl (r_index_row (v := v_6) (T := (T6).o) (q := x_23) 3 pu54 pi85 rfl rfl rfl rfl hx_24) ?_
      refine JA_takep 11 rfl hns (by kernel_rfl) (by kernel_rfl) rfl (.inr hS_36) rfl rfl rfl (r_fieldAddr (r := elemAddr v_6 ((r_15.1).toNat * ((T6).o).size + 5)) pu85 (f := Try.pf85.getD 3 default) rfl pi3 (by decide) rfl (elemAddr_add _ _ _)) ?_
      refine JA_takes 12 rfl hns (by kernel_rfl) (by kernel_rfl) (by kernel_rfl) rfl (by kernel_rfl) hS_36 rfl rfl rfl (l_elem_orow (v := v_6) (T := (T6).o) (Tf := (tInt .i64)) (q := x_23) (i := r_15.1) (off := 5) 3 pu3 pi3 rfl rfl rfl rfl hx_24 (OFieldAt.of f_Glychgateref06_Cell_Readers) (by decide)) ?_
      intro v_37 h_38
      obtain rfl := tInt_v.1 h_38
      refine JA_takep 13 rfl hns (by kernel_rfl) (by kernel_rfl) rfl (.inr hS_36) rfl rfl rfl (r_add rfl rfl) ?_
      refine JA_take 14 rfl hns (by kernel_rfl) (by kernel_rfl) (by kernel_rfl) rfl (by kernel_rfl) hS_36 rfl rfl rfl (r_index_row (v := v_6) (T := (T6).o) (q := x_23) 3 pu54 pi85 rfl rfl rfl rfl hx_24) ?_
      refine JA_takep 15 rfl hns (by kernel_rfl) (by kernel_rfl) rfl (.inr hS_36) rfl rfl rfl (r_fieldAddr (r := elemAddr v_6 ((r_15.1).toNat * ((T6).o).size + 5)) pu85 (f := Try.pf85.getD 3 default) rfl pi3 (by decide) rfl (elemAddr_add _ _ _)) ?_
      refine J_select (PV' := [.row (T6).o 85 v_6 x_7, .cell a_1 [v_2, v_4, v_6, .i Used_8], .row (tBool).o 4 v_2 x_3, .row ((tInt .i64)).o 2 v_4 x_5, .cell c_13 [.i p_10.Kind, .i p_10.N, .i p_10.Block]]) [3, 0, 1, 2, 4] (by decide) rfl ?_
      refine J_take (T := (T6).o) (i := r_15.1) hx_24 fun u_40 hu_39 => ?_
      change J _ _ _ _ _ _ _ _ [.hole (fun x => .elem (T6).o (elemAddr v_6 ((r_15.1).toNat * ((T6).o).size)) x) (fun x => .row (T6).o 85 v_6 (Sl.set x_7 r_15.1 x)), .cell (elemAddr v_6 ((r_15.1).toNat * ((T6).o).size)) [.i x_23.Block, .i x_23.Number, .i x_23.V.Kind, .i x_23.V.N, .i x_23.V.Block, .i x_23.Readers, .bool x_23.Writer], .cell a_1 [v_2, v_4, v_6, .i Used_8], .row (tBool).o 4 v_2 x_3, .row ((tInt .i64)).o 2 v_4 x_5, .cell c_13 [.i p_10.Kind, .i p_10.N, .i p_10.Block]]
      refine JA_op (i := 16) (by kernel_rfl) rfl rfl (op_store_priv (a := (elemAddr v_6 ((r_15.1).toNat * ((T6).o).size))) (off := 5) (vs := [.i (IntKind.i64.wrap (x_23.Readers + 1))]) (cs' := [.i x_23.Block, .i x_23.Number, .i x_23.V.Kind, .i x_23.V.N, .i x_23.V.Block, .i (IntKind.i64.wrap (x_23.Readers + 1)), .bool x_23.Writer]) (PV' := [.hole (fun x => .elem (T6).o (elemAddr v_6 ((r_15.1).toNat * ((T6).o).size)) x) (fun x => .row (T6).o 85 v_6 (Sl.set x_7 r_15.1 x)), .cell (elemAddr v_6 ((r_15.1).toNat * ((T6).o).size)) [.i x_23.Block, .i x_23.Number, .i x_23.V.Kind, .i x_23.V.N, .i x_23.V.Block, .i (IntKind.i64.wrap (x_23.Readers + 1)), .bool x_23.Writer], .cell a_1 [v_2, v_4, v_6, .i Used_8], .row (tBool).o 4 v_2 x_3, .row ((tInt .i64)).o 2 v_4 x_5, .cell c_13 [.i p_10.Kind, .i p_10.N, .i p_10.Block]]) 1 pi3 (pe_add v_6 ((r_15.1).toNat * ((T6).o).size) 5) rfl rfl ⟨rfl, trivial⟩ rfl rfl rfl rfl rfl ?_)
      refine ⟨.inl (.inl rfl), ?_⟩
      refine JA_done (by kernel_rfl) ?_
      refine J_put (T := (T6).o) (i := r_15.1) (s := x_7) (s' := (Sl.set x_7 r_15.1 (⟨x_23.Block, x_23.Number, x_23.V, IntKind.i64.wrap (x_23.Readers + 1), x_23.Writer⟩ : Glychgateref06_Cell))) (A := []) (C := [.cell a_1 [v_2, v_4, v_6, .i Used_8], .row (tBool).o 4 v_2 x_3, .row ((tInt .i64)).o 2 v_4 x_5, .cell c_13 [.i p_10.Kind, .i p_10.N, .i p_10.Block]]) (⟨x_23.Block, x_23.Number, x_23.V, IntKind.i64.wrap (x_23.Readers + 1), x_23.Writer⟩ : Glychgateref06_Cell) () trivial rfl rfl rfl ?_
      refine J_select (PV' := [.cell a_1 [v_2, v_4, v_6, .i Used_8], .row (tBool).o 4 v_2 x_3, .row ((tInt .i64)).o 2 v_4 x_5, .row (T6).o 85 v_6 (Sl.set x_7 r_15.1 (⟨x_23.Block, x_23.Number, x_23.V, IntKind.i64.wrap (x_23.Readers + 1), x_23.Writer⟩ : Glychgateref06_Cell))]) [1, 2, 3, 0] (by decide) rfl ?_
      refine J_cut_end _ ?_ ⟨rfl, rfl, rfl, rfl⟩ trivial
      exact trivial
    ·rintro y_42 _ _ b s_45 _ ⟨rfl, ⟨rfl, rfl, rfl⟩⟩
     refine J_then ?_
     refine J_seq ?_
     refine J_region ?_
     refine JL_op rfl (op_read rfl rfl (r_assign (v := .i 0) rfl) ?_)
     refine JL_nil ?_
     refine J_then ?_
     refine J_ret ?_
     exact J_returnV1 (PV' := [.cell a_1 [v_2, v_4, v_6, .i Used_8], .row (tBool).o 4 v_2 x_3, .row ((tInt .i64)).o 2 v_4 x_5, .row (T6).o 85 v_6 y_42]) rfl rv_tmp [0, 1, 2, 3] (by decide) rfl ⟨rfl, rfl, rfl⟩
def lychgateref06_Plain_post (σ0 : FS) (v_1 : Value) (v_2 : Glychgateref06_Value) (r : Glychgateref06_Value) (σ : FS) (PV : List Priv) (v : Value) : Prop :=
 σ0 = σ ∧ .agg #[.i r.Kind, .i r.N, .i r.Block] = v ∧ PV = []
set_option maxRecDepth 100000 in
theorem lychgateref06_Plain_ref (s : Start) (σ : FS) (v_1 : Value) (v_2 : Glychgateref06_Value) (h_3 : T4.vrel σ v_1 v_2) (hs : Pre s σ []) (r : Glychgateref06_Value) (hr : lychgateref06_Plain v_2 = some r) : Does Try.prog 39 [v_1] s σ (lychgateref06_Plain_post σ v_1 v_2 r) := by
 unfold lychgateref06_Plain at hr
 obtain rfl := T4_v.1 h_3
 refine does_of_J Try.func39 rfl (n := 14) rfl rfl hs hr ?_
 refine J_seq ?_
 refine J_region ?_
 refine JL_op rfl (op_box (cs := [.i v_2.Kind, .i v_2.N, .i v_2.Block]) rfl rfl ?_)
 intro c_4
 refine JL_op rfl (op_alloc (cs := [.i 0, .i 0, .i 0]) rfl pi74 rfl rfl ?_)
 intro c_6
 refine JL_nil ?_
 refine J_then ?_
 refine J_seq ?_
 refine J_seq ?_
 refine J_region ?_
 refine JL_op rfl (op_read rfl rfl (r_fieldAddr (r := Addr.add c_4 0) pu74 (f := Try.pf74.getD 0 default) rfl pi3 (by decide) rfl (Addr.add_add _ _ _)) ?_)
 refine JL_op rfl (op_read rfl rfl (r_load_priv (a := c_4) (off := 0) (cs' := [.i v_2.Kind]) (v := .i v_2.Kind) 1 pu3 pi3 rfl rfl rfl rfl (by decide) rfl) ?_)
 refine JL_op rfl (op_read rfl rfl (r_eql rfl rfl) ?_)
 refine JL_nil ?_
 refine J_then ?_
 refine J_cond rfl (fun hc_8 => ?_) (fun hc_8 => ?_)
 ·refine J_seq ?_
  refine J_region ?_
  refine JL_op rfl (op_read rfl rfl (r_fieldAddr (r := Addr.add c_4 1) pu74 (f := Try.pf74.getD 1 default) rfl pi2 (by decide) rfl (Addr.add_add _ _ _)) ?_)
  refine JL_op rfl (op_read rfl rfl (r_load_priv (a := c_4) (off := 1) (cs' := [.i v_2.N]) (v := .i v_2.N) 1 pu2 pi2 rfl rfl rfl rfl (by decide) rfl) ?_)
  refine JL_op rfl (op_read rfl rfl (r_build (cs := [.i 1, .i v_2.N, .i 0]) (vs := [(0, .i 1), (1, .i v_2.N)]) (pcs := [(0, [.i 1]), (1, [.i v_2.N])]) (pls := [(0, 1), (1, 1), (2, 1)]) pu74 pi74 rfl (by kernel_rfl) rfl ⟨rfl, rfl, ⟨rfl, rfl, trivial⟩⟩ rfl) ?_)
  refine JL_op rfl (op_store_priv (a := c_6) (off := 0) (vs := [.i 1, .i v_2.N, .i 0]) (cs' := [.i 1, .i v_2.N, .i 0]) (PV' := [.cell c_6 [.i 1, .i v_2.N, .i 0], .cell c_4 [.i v_2.Kind, .i v_2.N, .i v_2.Block]]) 0 pi74 rfl rfl rfl ⟨rfl, rfl, rfl, trivial⟩ rfl rfl rfl rfl rfl ?_)
  refine JL_nil ?_
  refine J_then ?_
  refine J_ret ?_
  refine J_then_ret ?_
  exact J_returnV1 (PV' := []) rfl (rv_cell (cs := [.i 1, .i v_2.N, .i 0]) (v := .agg #[.i 1, .i v_2.N, .i 0]) 0 pu74 pi74 rfl rfl rfl (by decide) rfl) [] (by decide) rfl ⟨rfl, rfl, rfl⟩
 ·refine J_skip ?_
  refine J_then ?_
  refine J_seq ?_
  refine J_seq ?_
  refine J_region ?_
  refine JL_op rfl (op_read rfl rfl (r_fieldAddr (r := Addr.add c_4 0) pu74 (f := Try.pf74.getD 0 default) rfl pi3 (by decide) rfl (Addr.add_add _ _ _)) ?_)
  refine JL_op rfl (op_read rfl rfl (r_load_priv (a := c_4) (off := 0) (cs' := [.i v_2.Kind]) (v := .i v_2.Kind) 1 pu3 pi3 rfl rfl rfl rfl (by decide) rfl) ?_)
  refine JL_op rfl (op_read rfl rfl (r_eql rfl rfl) ?_)
  refine JL_nil ?_
  refine J_then ?_
  refine J_cond rfl (fun hc_9 => ?_) (fun hc_9 => ?_)
  ·refine J_seq ?_
   refine J_region ?_
   refine JL_op rfl (op_read rfl rfl (r_load_priv (a := c_4) (off := 0) (cs' := [.i v_2.Kind, .i v_2.N, .i v_2.Block]) (v := .agg #[.i v_2.Kind, .i v_2.N, .i v_2.Block]) 1 pu74 pi74 rfl rfl rfl rfl (by decide) rfl) ?_)
   refine JL_op rfl (op_store_priv (a := c_6) (off := 0) (vs := [.i v_2.Kind, .i v_2.N, .i v_2.Block]) (cs' := [.i v_2.Kind, .i v_2.N, .i v_2.Block]) (PV' := [.cell c_6 [.i v_2.Kind, .i v_2.N, .i v_2.Block], .cell c_4 [.i v_2.Kind, .i v_2.N, .i v_2.Block]]) 0 pi74 rfl rfl rfl ⟨rfl, rfl, rfl, trivial⟩ rfl rfl rfl rfl rfl ?_)
   refine JL_nil ?_
   refine J_then ?_
   refine J_ret ?_
   refine J_then_ret ?_
   exact J_returnV1 (PV' := []) rfl (rv_cell (cs := [.i v_2.Kind, .i v_2.N, .i v_2.Block]) (v := .agg #[.i v_2.Kind, .i v_2.N, .i v_2.Block]) 0 pu74 pi74 rfl rfl rfl (by decide) rfl) [] (by decide) rfl ⟨rfl, rfl, rfl⟩
  ·refine J_skip ?_
   refine J_then ?_
   refine J_seq ?_
   refine J_region ?_
   refine JL_op rfl (op_read rfl rfl (r_build (cs := [.i 0, .i 0, .i 0]) (vs := []) (pcs := []) (pls := [(0, 1), (1, 1), (2, 1)]) pu74 pi74 rfl (by kernel_rfl) rfl trivial rfl) ?_)
   refine JL_op rfl (op_store_priv (a := c_6) (off := 0) (vs := [.i 0, .i 0, .i 0]) (cs' := [.i 0, .i 0, .i 0]) (PV' := [.cell c_6 [.i 0, .i 0, .i 0], .cell c_4 [.i v_2.Kind, .i v_2.N, .i v_2.Block]]) 0 pi74 rfl rfl rfl ⟨rfl, rfl, rfl, trivial⟩ rfl rfl rfl rfl rfl ?_)
   refine JL_nil ?_
   refine J_then ?_
   refine J_ret ?_
   exact J_returnV1 (PV' := []) rfl (rv_cell (cs := [.i 0, .i 0, .i 0]) (v := .agg #[.i 0, .i 0, .i 0]) 0 pu74 pi74 rfl rfl rfl (by decide) rfl) [] (by decide) rfl ⟨rfl, rfl, rfl⟩
def lychgateref06_End_post (σ0 : FS) (a_1 : Addr) (v_2 : Value) (x_3 : Sl Bool) (v_4 : Value) (x_5 : Sl Int) (v_6 : Value) (x_7 : Sl Glychgateref06_Cell) (Used_8 : Int) (v_9 : Value) (p_10 : Glychgateref06_Value) (write_12 : Bool) (v_13 : Value) (v_14 : Glychgateref06_Value) (r : Glychgateref06_Value × Int × (Sl Glychgateref06_Cell)) (σ : FS) (PV : List Priv) (v : Value) : Prop :=
 σ0 = σ ∧ .tuple #[.agg #[.i r.1.Kind, .i r.1.N, .i r.1.Block], .i r.2.1] = v ∧ PV = [.cell a_1 [v_2, v_4, v_6, .i Used_8], .row (tBool).o 4 v_2 x_3, .row ((tInt .i64)).o 2 v_4 x_5, .row (T6).o 85 v_6 r.2.2]
set_option maxRecDepth 100000 in
theorem lychgateref06_End_ref (s : Start) (σ : FS) (a_1 : Addr) (v_2 : Value) (x_3 : Sl Bool) (v_4 : Value) (x_5 : Sl Int) (v_6 : Value) (x_7 : Sl Glychgateref06_Cell) (Used_8 : Int) (v_9 : Value) (p_10 : Glychgateref06_Value) (h_11 : T4.vrel σ v_9 p_10) (write_12 : Bool) (v_13 : Value) (v_14 : Glychgateref06_Value) (h_15 : T4.vrel σ v_13 v_14) (hs : Pre s σ [.cell a_1 [v_2, v_4, v_6, .i Used_8], .row (tBool).o 4 v_2 x_3, .row ((tInt .i64)).o 2 v_4 x_5, .row (T6).o 85 v_6 x_7]) (r : Glychgateref06_Value × Int × (Sl Glychgateref06_Cell)) (hr : lychgateref06_End x_3 x_5 x_7 Used_8 p_10 write_12 v_14 = some r) : Does Try.prog 34 [.pointer (some (Addr.add a_1 0)), v_9, .bool write_12, v_13] s σ (lychgateref06_End_post σ a_1 v_2 x_3 v_4 x_5 v_6 x_7 Used_8 v_9 p_10 write_12 v_13 v_14 r) := by
 unfold lychgateref06_End at hr
 obtain rfl := T4_v.1 h_11
 obtain rfl := T4_v.1 h_15
 refine does_of_J Try.func34 rfl (n := 95) rfl rfl hs hr ?_
 refine J_seq ?_
 refine J_region ?_
 refine JL_op rfl (op_box (cs := [.i p_10.Kind, .i p_10.N, .i p_10.Block]) rfl rfl ?_)
 intro c_16
 refine JL_op rfl (op_box (cs := [.i v_14.Kind, .i v_14.N, .i v_14.Block]) rfl rfl ?_)
 intro c_18
 refine JL_op rfl (op_alloc (cs := [.i 0, .i 0, .i 0]) rfl pi74 rfl rfl ?_)
 intro c_20
 refine JL_op rfl (op_read rfl rfl (r_assign (v := .i 0) rfl) ?_)
 refine JL_nil ?_
 refine J_then ?_
 refine J_seq ?_
 refine J_region ?_
 refine JL_op rfl (op_read rfl rfl (r_move (v := .pointer (some (Addr.add a_1 0))) rfl) ?_)
 refine JL_op rfl (op_read rfl rfl (r_load_priv (a := c_16) (off := 0) (cs' := [.i p_10.Kind, .i p_10.N, .i p_10.Block]) (v := .agg #[.i p_10.Kind, .i p_10.N, .i p_10.Block]) 2 pu74 pi74 rfl rfl rfl rfl (by decide) rfl) ?_)
 refine J_select (PV' := [.cell a_1 [v_2, v_4, v_6, .i Used_8], .row (tBool).o 4 v_2 x_3, .row ((tInt .i64)).o 2 v_4 x_5, .row (T6).o 85 v_6 x_7, .cell c_20 [.i 0, .i 0, .i 0], .cell c_18 [.i v_14.Kind, .i v_14.N, .i v_14.Block], .cell c_16 [.i p_10.Kind, .i p_10.N, .i p_10.Block]]) [3, 4, 5, 6, 0, 1, 2] (by decide) rfl ?_
 refine JL_op rfl (op_call (f := 38) (fn := Try.f38) (args := [.pointer (some (Addr.add a_1 0)), .agg #[.i p_10.Kind, .i p_10.N, .i p_10.Block]]) (post := lychgateref06_Find_post σ a_1 v_2 x_3 v_4 x_5 v_6 x_7 Used_8 (.agg #[.i p_10.Kind, .i p_10.N, .i p_10.Block]) p_10) [.cell a_1 [v_2, v_4, v_6, .i Used_8], .row (tBool).o 4 v_2 x_3, .row ((tInt .i64)).o 2 v_4 x_5, .row (T6).o 85 v_6 x_7] [.cell c_20 [.i 0, .i 0, .i 0], .cell c_18 [.i v_14.Kind, .i v_14.N, .i v_14.Block], .cell c_16 [.i p_10.Kind, .i p_10.N, .i p_10.Block]] rfl rfl rfl Try.func38 pn38 rfl rfl (fun y st hy hpre => lychgateref06_Find_ref st σ a_1 v_2 x_3 v_4 x_5 v_6 x_7 Used_8 (.agg #[.i p_10.Kind, .i p_10.N, .i p_10.Block]) p_10 (T4_v.2 rfl) hpre y hy) ?_)
 intro r_22 v_24 s_27 PV_25 hr_23 hle_28 hp_26
 obtain ⟨rfl, rfl, rfl⟩ := hp_26
 refine JL_op rfl (op_read rfl rfl (r_move (v := .tuple #[.i r_22.1, .i r_22.2]) rfl) ?_)
 refine JL_op rfl (op_read rfl rfl (r_extract (v := .i r_22.1) rfl rfl) ?_)
 refine JL_op rfl (op_read rfl rfl (r_extract (v := .i r_22.2) rfl rfl) ?_)
 refine JL_op rfl (op_read rfl rfl (r_assign (v := .i r_22.1) rfl) ?_)
 refine JL_op rfl (op_read rfl rfl (r_assign (v := .i r_22.2) rfl) ?_)
 refine JL_nil ?_
 refine J_then ?_
 refine J_seq ?_
 refine J_seq ?_
 refine J_region ?_
 refine JL_op rfl (op_read rfl rfl (r_move (v := .i r_22.2) rfl) ?_)
 refine JL_op rfl (op_read rfl rfl (r_neq rfl rfl) ?_)
 refine JL_nil ?_
 refine J_then ?_
 refine J_cond rfl (fun hc_29 => ?_) (fun hc_29 => ?_)
 ·refine J_seq ?_
  refine J_region ?_
  refine JL_op rfl (op_read rfl rfl (r_build (cs := [.i 0, .i 0, .i 0]) (vs := []) (pcs := []) (pls := [(0, 1), (1, 1), (2, 1)]) pu74 pi74 rfl (by kernel_rfl) rfl trivial rfl) ?_)
  refine JL_op rfl (op_read rfl rfl (r_move (v := .i r_22.2) rfl) ?_)
  refine JL_op rfl (op_store_priv (a := c_20) (off := 0) (vs := [.i 0, .i 0, .i 0]) (cs' := [.i 0, .i 0, .i 0]) (PV' := [.cell a_1 [v_2, v_4, v_6, .i Used_8], .row (tBool).o 4 v_2 x_3, .row ((tInt .i64)).o 2 v_4 x_5, .row (T6).o 85 v_6 x_7, .cell c_20 [.i 0, .i 0, .i 0], .cell c_18 [.i v_14.Kind, .i v_14.N, .i v_14.Block], .cell c_16 [.i p_10.Kind, .i p_10.N, .i p_10.Block]]) 4 pi74 rfl rfl rfl ⟨rfl, rfl, rfl, trivial⟩ rfl rfl rfl rfl rfl ?_)
  refine JL_op rfl (op_read rfl rfl (r_assign (v := .i r_22.2) rfl) ?_)
  refine JL_nil ?_
  refine J_then ?_
  refine J_ret ?_
  refine J_then_ret ?_
  exact J_returnV2 (PV' := [.cell a_1 [v_2, v_4, v_6, .i Used_8], .row (tBool).o 4 v_2 x_3, .row ((tInt .i64)).o 2 v_4 x_5, .row (T6).o 85 v_6 x_7]) rfl (rv_cell (cs := [.i 0, .i 0, .i 0]) (v := .agg #[.i 0, .i 0, .i 0]) 4 pu74 pi74 rfl rfl rfl (by decide) rfl) rv_tmp [0, 1, 2, 3] (by decide) rfl ⟨rfl, rfl, rfl⟩
 ·refine J_skip ?_
  refine J_then ?_
  refine J_seq ?_
  refine J_seq ?_
  refine J_region ?_
  refine JL_op rfl (op_read rfl rfl (r_move (v := .bool write_12) rfl) ?_)
  refine JL_nil ?_
  refine J_then ?_
  refine J_cond rfl (fun hc_30 => ?_) (fun hc_30 => ?_)
  ·refine J_seq ?_
   refine J_seq ?_
   refine J_region ?_
   refine JL_op rfl (op_read rfl rfl (r_move (v := .pointer (some (Addr.add a_1 0))) rfl) ?_)
   refine JL_op rfl (op_read rfl rfl (r_nilCheck (a := (Addr.add a_1 0)) rfl) ?_)
   refine JL_op rfl (op_read rfl rfl (r_fieldAddr (r := Addr.add a_1 2) pu56 (f := Try.pf56.getD 2 default) rfl pi54 (by decide) rfl (Addr.add_add _ _ _)) ?_)
   refine JL_op rfl (op_read rfl rfl (r_load_priv (a := a_1) (off := 2) (cs' := [v_6]) (v := v_6) 0 pu54 pi54 rfl rfl rfl rfl (by decide) rfl) ?_)
   refine JL_op rfl (op_read rfl rfl (r_move (v := .i r_22.1) rfl) ?_)
   refine J_bind fun x_31 hx_32 => ?_
   refine JL_op rfl (op_read rfl rfl (r_index_row (v := v_6) (T := (T6).o) (q := x_31) 3 pu54 pi85 rfl rfl rfl rfl hx_32) ?_)
   refine JL_op rfl (op_read rfl rfl (r_fieldAddr (r := elemAddr v_6 ((r_22.1).toNat * ((T6).o).size + 6)) pu85 (f := Try.pf85.getD 4 default) rfl pi4 (by decide) rfl (elemAddr_add _ _ _)) ?_)
   refine JL_op rfl (op_reads rfl rfl (l_elem_orow (v := v_6) (T := (T6).o) (Tf := tBool) (q := x_31) (i := r_22.1) (off := 6) 3 pu4 pi4 rfl rfl rfl rfl hx_32 (OFieldAt.of f_Glychgateref06_Cell_Writer) (by decide)) ?_)
   intro v_33 h_34
   obtain rfl := tBool_v.1 h_34
   refine JL_op rfl (op_read rfl rfl (r_not rfl) ?_)
   refine JL_nil ?_
   refine J_then ?_
   refine J_cond rfl (fun hc_35 => ?_) (fun hc_35 => ?_)
   ·refine J_seq ?_
    refine J_region ?_
    refine JL_op rfl (op_read rfl rfl (r_build (cs := [.i 0, .i 0, .i 0]) (vs := []) (pcs := []) (pls := [(0, 1), (1, 1), (2, 1)]) pu74 pi74 rfl (by kernel_rfl) rfl trivial rfl) ?_)
    refine JL_op rfl (op_store_priv (a := c_20) (off := 0) (vs := [.i 0, .i 0, .i 0]) (cs' := [.i 0, .i 0, .i 0]) (PV' := [.cell a_1 [v_2, v_4, v_6, .i Used_8], .row (tBool).o 4 v_2 x_3, .row ((tInt .i64)).o 2 v_4 x_5, .row (T6).o 85 v_6 x_7, .cell c_20 [.i 0, .i 0, .i 0], .cell c_18 [.i v_14.Kind, .i v_14.N, .i v_14.Block], .cell c_16 [.i p_10.Kind, .i p_10.N, .i p_10.Block]]) 4 pi74 rfl rfl rfl ⟨rfl, rfl, rfl, trivial⟩ rfl rfl rfl rfl rfl ?_)
    refine JL_op rfl (op_read rfl rfl (r_assign (v := .i 6) rfl) ?_)
    refine JL_nil ?_
    refine J_then ?_
    refine J_ret ?_
    refine J_then_ret ?_
    refine J_then_ret ?_
    exact J_returnV2 (PV' := [.cell a_1 [v_2, v_4, v_6, .i Used_8], .row (tBool).o 4 v_2 x_3, .row ((tInt .i64)).o 2 v_4 x_5, .row (T6).o 85 v_6 x_7]) rfl (rv_cell (cs := [.i 0, .i 0, .i 0]) (v := .agg #[.i 0, .i 0, .i 0]) 4 pu74 pi74 rfl rfl rfl (by decide) rfl) rv_tmp [0, 1, 2, 3] (by decide) rfl ⟨rfl, rfl, rfl⟩
   ·refine J_skip ?_
    refine J_then ?_
    refine J_seq ?_
    refine J_region ?_
    refine JL_op rfl (op_read rfl rfl (r_move (v := .pointer (some (Addr.add a_1 0))) rfl) ?_)
    refine JL_op rfl (op_read rfl rfl (r_nilCheck (a := (Addr.add a_1 0)) rfl) ?_)
    refine JL_op rfl (op_read rfl rfl (r_fieldAddr (r := Addr.add a_1 2) pu56 (f := Try.pf56.getD 2 default) rfl pi54 (by decide) rfl (Addr.add_add _ _ _)) ?_)
    refine JL_op rfl (op_read rfl rfl (r_load_priv (a := a_1) (off := 2) (cs' := [v_6]) (v := v_6) 0 pu54 pi54 rfl rfl rfl rfl (by decide) rfl) ?_)
    refine JL_op rfl (op_read rfl rfl (r_move (v := .i r_22.1) rfl) ?_)
    refine JL_op rfl (op_read rfl rfl (r_index_row (v := v_6) (T := (T6).o) (q := x_31) 3 pu54 pi85 rfl rfl rfl rfl hx_32) ?_)
    refine JL_op rfl (op_read rfl rfl (r_fieldAddr (r := elemAddr v_6 ((r_22.1).toNat * ((T6).o).size + 6)) pu85 (f := Try.pf85.getD 4 default) rfl pi4 (by decide) rfl (elemAddr_add _ _ _)) ?_)
    refine J_select (PV' := [.row (T6).o 85 v_6 x_7, .cell a_1 [v_2, v_4, v_6, .i Used_8], .row (tBool).o 4 v_2 x_3, .row ((tInt .i64)).o 2 v_4 x_5, .cell c_20 [.i 0, .i 0, .i 0], .cell c_18 [.i v_14.Kind, .i v_14.N, .i v_14.Block], .cell c_16 [.i p_10.Kind, .i p_10.N, .i p_10.Block]]) [3, 0, 1, 2, 4, 5, 6] (by decide) rfl ?_
    refine J_take (T := (T6).o) (i := r_22.1) hx_32 fun u_37 hu_36 => ?_
    change J _ _ _ _ _ _ _ _ [.hole (fun x => .elem (T6).o (elemAddr v_6 ((r_22.1).toNat * ((T6).o).size)) x) (fun x => .row (T6).o 85 v_6 (Sl.set x_7 r_22.1 x)), .cell (elemAddr v_6 ((r_22.1).toNat * ((T6).o).size)) [.i x_31.Block, .i x_31.Number, .i x_31.V.Kind, .i x_31.V.N, .i x_31.V.Block, .i x_31.Readers, .bool x_31.Writer], .cell a_1 [v_2, v_4, v_6, .i Used_8], .row (tBool).o 4 v_2 x_3, .row ((tInt .i64)).o 2 v_4 x_5, .cell c_20 [.i 0, .i 0, .i 0], .cell c_18 [.i v_14.Kind, .i v_14.N, .i v_14.Block], .cell c_16 [.i p_10.Kind, .i p_10.N, .i p_10.Block]]
    refine JL_op rfl (op_store_priv (a := (elemAddr v_6 ((r_22.1).toNat * ((T6).o).size))) (off := 6) (vs := [.bool false]) (cs' := [.i x_31.Block, .i x_31.Number, .i x_31.V.Kind, .i x_31.V.N, .i x_31.V.Block, .i x_31.Readers, .bool false]) (PV' := [.hole (fun x => .elem (T6).o (elemAddr v_6 ((r_22.1).toNat * ((T6).o).size)) x) (fun x => .row (T6).o 85 v_6 (Sl.set x_7 r_22.1 x)), .cell (elemAddr v_6 ((r_22.1).toNat * ((T6).o).size)) [.i x_31.Block, .i x_31.Number, .i x_31.V.Kind, .i x_31.V.N, .i x_31.V.Block, .i x_31.Readers, .bool false], .cell a_1 [v_2, v_4, v_6, .i Used_8], .row (tBool).o 4 v_2 x_3, .row ((tInt .i64)).o 2 v_4 x_5, .cell c_20 [.i 0, .i 0, .i 0], .cell c_18 [.i v_14.Kind, .i v_14.N, .i v_14.Block], .cell c_16 [.i p_10.Kind, .i p_10.N, .i p_10.Block]]) 1 pi4 (pe_add v_6 ((r_22.1).toNat * ((T6).o).size) 6) rfl rfl ⟨rfl, trivial⟩ rfl rfl rfl rfl rfl ?_)
    refine JL_nil ?_
    refine J_then ?_
    refine J_seq ?_
    refine J_put (T := (T6).o) (i := r_22.1) (s := x_7) (s' := (Sl.set x_7 r_22.1 (⟨x_31.Block, x_31.Number, x_31.V, x_31.Readers, false⟩ : Glychgateref06_Cell))) (A := []) (C := [.cell a_1 [v_2, v_4, v_6, .i Used_8], .row (tBool).o 4 v_2 x_3, .row ((tInt .i64)).o 2 v_4 x_5, .cell c_20 [.i 0, .i 0, .i 0], .cell c_18 [.i v_14.Kind, .i v_14.N, .i v_14.Block], .cell c_16 [.i p_10.Kind, .i p_10.N, .i p_10.Block]]) (⟨x_31.Block, x_31.Number, x_31.V, x_31.Readers, false⟩ : Glychgateref06_Cell) () trivial rfl rfl rfl ?_
    refine J_region_any 9 [.row (T6).o 85 v_6 (Sl.set x_7 r_22.1 (⟨x_31.Block, x_31.Number, x_31.V, x_31.Readers, false⟩ : Glychgateref06_Cell)), .cell a_1 [v_2, v_4, v_6, .i Used_8], .row (tBool).o 4 v_2 x_3, .row ((tInt .i64)).o 2 v_4 x_5, .cell c_20 [.i 0, .i 0, .i 0], .cell c_18 [.i v_14.Kind, .i v_14.N, .i v_14.Block], .cell c_16 [.i p_10.Kind, .i p_10.N, .i p_10.Block]] Try.mixed (by kernel_rfl) fun hns => ?_
    have hS_39 : HeldOK σ [.row (T6).o 85 v_6 (Sl.set x_7 r_22.1 (⟨x_31.Block, x_31.Number, x_31.V, x_31.Readers, false⟩ : Glychgateref06_Cell)), .cell a_1 [v_2, v_4, v_6, .i Used_8], .row (tBool).o 4 v_2 x_3, .row ((tInt .i64)).o 2 v_4 x_5, .cell c_20 [.i 0, .i 0, .i 0], .cell c_18 [.i v_14.Kind, .i v_14.N, .i v_14.Block], .cell c_16 [.i p_10.Kind, .i p_10.N, .i p_10.Block]] σ [.row (T6).o 85 v_6 (Sl.set x_7 r_22.1 (⟨x_31.Block, x_31.Number, x_31.V, x_31.Readers, false⟩ : Glychgateref06_Cell)), .cell a_1 [v_2, v_4, v_6, .i Used_8], .row (tBool).o 4 v_2 x_3, .row ((tInt .i64)).o 2 v_4 x_5, .cell c_20 [.i 0, .i 0, .i 0], .cell c_18 [.i v_14.Kind, .i v_14.N, .i v_14.Block], .cell c_16 [.i p_10.Kind, .i p_10.N, .i p_10.Block]] := HeldOK.same [0, 1, 2, 3, 4, 5, 6] (by decide) rfl
    refine JA_takep 0 rfl hns (by kernel_rfl) (by kernel_rfl) rfl (.inr hS_39) rfl rfl rfl (r_move (v := .pointer (some (Addr.add a_1 0))) rfl) ?_
    refine JA_takep 1 rfl hns (by kernel_rfl) (by kernel_rfl) rfl (.inr hS_39) rfl rfl rfl (r_nilCheck (a := (Addr.add a_1 0)) rfl) ?_
    refine JA_takep 2 rfl hns (by kernel_rfl) (by kernel_rfl) rfl (.inr hS_39) rfl rfl rfl (r_fieldAddr (r := Addr.add a_1 2) pu56 (f := Try.pf56.getD 2 default) rfl pi54 (by decide) rfl (Addr.add_add _ _ _)) ?_
    refine JA_take 3 rfl hns (by kernel_rfl) (by kernel_rfl) (by kernel_rfl) rfl (by kernel_rfl) hS_39 rfl rfl rfl (r_load_priv (a := a_1) (off := 2) (cs' := [v_6]) (v := v_6) 1 pu54 pi54 rfl rfl rfl rfl (by decide) rfl) ?_
    refine JA_takep 4 rfl hns (by kernel_rfl) (by kernel_rfl) rfl (.inr hS_39) rfl rfl rfl (r_move (v := .i r_22.1) rfl) ?_
    refine JA_take 5 rfl hns (by kernel_rfl) (by kernel_rfl) (by kernel_rfl) rfl (by kernel_rfl) hS_39 rfl rfl rfl (r_load_priv (a := c_18) (off := 0) (cs' := [.i v_14.Kind, .i v_14.N, .i v_14.Block]) (v := .agg #[.i v_14.Kind, .i v_14.N, .i v_14.Block]) 5 pu74 pi74 rfl rfl rfl rfl (by decide) rfl) ?_
    refine JA_op (i := 6) (by kernel_rfl) rfl rfl (op_call (f := 39) (fn := Try.f39) (args := [.agg #[.i v_14.Kind, .i v_14.N, .i v_14.Block]]) (post := lychgateref06_Plain_post σ (.agg #[.i v_14.Kind, .i v_14.N, .i v_14.Block]) v_14) [] [.row (T6).o 85 v_6 (Sl.set x_7 r_22.1 (⟨x_31.Block, x_31.Number, x_31.V, x_31.Readers, false⟩ : Glychgateref06_Cell)), .cell a_1 [v_2, v_4, v_6, .i Used_8], .row (tBool).o 4 v_2 x_3, .row ((tInt .i64)).o 2 v_4 x_5, .cell c_20 [.i 0, .i 0, .i 0], .cell c_18 [.i v_14.Kind, .i v_14.N, .i v_14.Block], .cell c_16 [.i p_10.Kind, .i p_10.N, .i p_10.Block]] rfl rfl rfl Try.func39 pn39 rfl rfl (fun y st hy hpre => lychgateref06_Plain_ref st σ (.agg #[.i v_14.Kind, .i v_14.N, .i v_14.Block]) v_14 (T4_v.2 rfl) hpre y hy) ?_)
    intro r_40 v_42 s_45 PV_43 hr_41 hle_46 hp_44
    obtain ⟨rfl, rfl, rfl⟩ := hp_44
    have hS_47 : HeldOK σ [.row (T6).o 85 v_6 (Sl.set x_7 r_22.1 (⟨x_31.Block, x_31.Number, x_31.V, x_31.Readers, false⟩ : Glychgateref06_Cell)), .cell a_1 [v_2, v_4, v_6, .i Used_8], .row (tBool).o 4 v_2 x_3, .row ((tInt .i64)).o 2 v_4 x_5, .cell c_20 [.i 0, .i 0, .i 0], .cell c_18 [.i v_14.Kind, .i v_14.N, .i v_14.Block], .cell c_16 [.i p_10.Kind, .i p_10.N, .i p_10.Block]] σ [.row (T6).o 85 v_6 (Sl.set x_7 r_22.1 (⟨x_31.Block, x_31.Number, x_31.V, x_31.Readers, false⟩ : Glychgateref06_Cell)), .cell a_1 [v_2, v_4, v_6, .i Used_8], .row (tBool).o 4 v_2 x_3, .row ((tInt .i64)).o 2 v_4 x_5, .cell c_20 [.i 0, .i 0, .i 0], .cell c_18 [.i v_14.Kind, .i v_14.N, .i v_14.Block], .cell c_16 [.i p_10.Kind, .i p_10.N, .i p_10.Block]] := HeldOK.same [0, 1, 2, 3, 4, 5, 6] (by decide) rfl
    refine ⟨.inr hS_47, ?_⟩
    refine J_bind fun x_48 hx_49 => ?_
    refine JA_take 7 rfl hns (by kernel_rfl) (by kernel_rfl) (by kernel_rfl) rfl (by kernel_rfl) hS_47 rfl rfl rfl (r_index_row (v := v_6) (T := (T6).o) (q := x_48) 0 pu54 pi85 rfl rfl rfl rfl hx_49) ?_
    refine JA_takep 8 rfl hns (by kernel_rfl) (by kernel_rfl) rfl (.inr hS_47) rfl rfl rfl (r_fieldAddr (r := elemAddr v_6 ((r_22.1).toNat * ((T6).o).size + 2)) pu85 (f := Try.pf85.getD 2 default) rfl pi74 (by decide) rfl (elemAddr_add _ _ _)) ?_
    refine J_take (T := (T6).o) (i := r_22.1) hx_49 fun u_51 hu_50 => ?_
    change J _ _ _ _ _ _ _ _ [.hole (fun x => .elem (T6).o (elemAddr v_6 ((r_22.1).toNat * ((T6).o).size)) x) (fun x => .row (T6).o 85 v_6 (Sl.set (Sl.set x_7 r_22.1 (⟨x_31.Block, x_31.Number, x_31.V, x_31.Readers, false⟩ : Glychgateref06_Cell)) r_22.1 x)), .cell (elemAddr v_6 ((r_22.1).toNat * ((T6).o).size)) [.i x_48.Block, .i x_48.Number, .i x_48.V.Kind, .i x_48.V.N, .i x_48.V.Block, .i x_48.Readers, .bool x_48.Writer], .cell a_1 [v_2, v_4, v_6, .i Used_8], .row (tBool).o 4 v_2 x_3, .row ((tInt .i64)).o 2 v_4 x_5, .cell c_20 [.i 0, .i 0, .i 0], .cell c_18 [.i v_14.Kind, .i v_14.N, .i v_14.Block], .cell c_16 [.i p_10.Kind, .i p_10.N, .i p_10.Block]]
    refine JA_op (i := 9) (by kernel_rfl) rfl rfl (op_store_priv (a := (elemAddr v_6 ((r_22.1).toNat * ((T6).o).size))) (off := 2) (vs := [.i r_40.Kind, .i r_40.N, .i r_40.Block]) (cs' := [.i x_48.Block, .i x_48.Number, .i r_40.Kind, .i r_40.N, .i r_40.Block, .i x_48.Readers, .bool x_48.Writer]) (PV' := [.hole (fun x => .elem (T6).o (elemAddr v_6 ((r_22.1).toNat * ((T6).o).size)) x) (fun x => .row (T6).o 85 v_6 (Sl.set (Sl.set x_7 r_22.1 (⟨x_31.Block, x_31.Number, x_31.V, x_31.Readers, false⟩ : Glychgateref06_Cell)) r_22.1 x)), .cell (elemAddr v_6 ((r_22.1).toNat * ((T6).o).size)) [.i x_48.Block, .i x_48.Number, .i r_40.Kind, .i r_40.N, .i r_40.Block, .i x_48.Readers, .bool x_48.Writer], .cell a_1 [v_2, v_4, v_6, .i Used_8], .row (tBool).o 4 v_2 x_3, .row ((tInt .i64)).o 2 v_4 x_5, .cell c_20 [.i 0, .i 0, .i 0], .cell c_18 [.i v_14.Kind, .i v_14.N, .i v_14.Block], .cell c_16 [.i p_10.Kind, .i p_10.N, .i p_10.Block]]) 1 pi74 (pe_add v_6 ((r_22.1).toNat * ((T6).o).size) 2) rfl rfl ⟨rfl, rfl, rfl, trivial⟩ rfl rfl rfl rfl rfl ?_)
    refine ⟨.inl (.inl rfl), ?_⟩
    refine JA_done (by kernel_rfl) ?_
    refine J_then ?_
    refine J_seq ?_
    refine J_region ?_
    refine JL_op rfl (op_read rfl rfl (r_build (cs := [.i 0, .i 0, .i 0]) (vs := []) (pcs := []) (pls := [(0, 1), (1, 1), (2, 1)]) pu74 pi74 rfl (by kernel_rfl) rfl trivial rfl) ?_)
    refine JL_op rfl (op_store_priv (a := c_20) (off := 0) (vs := [.i 0, .i 0, .i 0]) (cs' := [.i 0, .i 0, .i 0]) (PV' := [.hole (fun x => .elem (T6).o (elemAddr v_6 ((r_22.1).toNat * ((T6).o).size)) x) (fun x => .row (T6).o 85 v_6 (Sl.set (Sl.set x_7 r_22.1 (⟨x_31.Block, x_31.Number, x_31.V, x_31.Readers, false⟩ : Glychgateref06_Cell)) r_22.1 x)), .cell (elemAddr v_6 ((r_22.1).toNat * ((T6).o).size)) [.i x_48.Block, .i x_48.Number, .i r_40.Kind, .i r_40.N, .i r_40.Block, .i x_48.Readers, .bool x_48.Writer], .cell a_1 [v_2, v_4, v_6, .i Used_8], .row (tBool).o 4 v_2 x_3, .row ((tInt .i64)).o 2 v_4 x_5, .cell c_20 [.i 0, .i 0, .i 0], .cell c_18 [.i v_14.Kind, .i v_14.N, .i v_14.Block], .cell c_16 [.i p_10.Kind, .i p_10.N, .i p_10.Block]]) 5 pi74 rfl rfl rfl ⟨rfl, rfl, rfl, trivial⟩ rfl rfl rfl rfl rfl ?_)
    refine JL_op rfl (op_read rfl rfl (r_assign (v := .i 0) rfl) ?_)
    refine JL_nil ?_
    refine J_then ?_
    refine J_ret ?_
    refine J_then_ret ?_
    refine J_put (T := (T6).o) (i := r_22.1) (s := (Sl.set x_7 r_22.1 (⟨x_31.Block, x_31.Number, x_31.V, x_31.Readers, false⟩ : Glychgateref06_Cell))) (s' := (Sl.set (Sl.set x_7 r_22.1 (⟨x_31.Block, x_31.Number, x_31.V, x_31.Readers, false⟩ : Glychgateref06_Cell)) r_22.1 (⟨x_48.Block, x_48.Number, r_40, x_48.Readers, x_48.Writer⟩ : Glychgateref06_Cell))) (A := []) (C := [.cell a_1 [v_2, v_4, v_6, .i Used_8], .row (tBool).o 4 v_2 x_3, .row ((tInt .i64)).o 2 v_4 x_5, .cell c_20 [.i 0, .i 0, .i 0], .cell c_18 [.i v_14.Kind, .i v_14.N, .i v_14.Block], .cell c_16 [.i p_10.Kind, .i p_10.N, .i p_10.Block]]) (⟨x_48.Block, x_48.Number, r_40, x_48.Readers, x_48.Writer⟩ : Glychgateref06_Cell) () trivial rfl rfl rfl ?_
    exact J_returnV2 (PV' := [.cell a_1 [v_2, v_4, v_6, .i Used_8], .row (tBool).o 4 v_2 x_3, .row ((tInt .i64)).o 2 v_4 x_5, .row (T6).o 85 v_6 (Sl.set (Sl.set x_7 r_22.1 (⟨x_31.Block, x_31.Number, x_31.V, x_31.Readers, false⟩ : Glychgateref06_Cell)) r_22.1 (⟨x_48.Block, x_48.Number, r_40, x_48.Readers, x_48.Writer⟩ : Glychgateref06_Cell))]) rfl (rv_cell (cs := [.i 0, .i 0, .i 0]) (v := .agg #[.i 0, .i 0, .i 0]) 4 pu74 pi74 rfl rfl rfl (by decide) rfl) rv_tmp [1, 2, 3, 0] (by decide) rfl ⟨rfl, rfl, rfl⟩
  ·refine J_skip ?_
   refine J_then ?_
   refine J_seq ?_
   refine J_seq ?_
   refine J_region ?_
   refine JL_op rfl (op_read rfl rfl (r_move (v := .pointer (some (Addr.add a_1 0))) rfl) ?_)
   refine JL_op rfl (op_read rfl rfl (r_nilCheck (a := (Addr.add a_1 0)) rfl) ?_)
   refine JL_op rfl (op_read rfl rfl (r_fieldAddr (r := Addr.add a_1 2) pu56 (f := Try.pf56.getD 2 default) rfl pi54 (by decide) rfl (Addr.add_add _ _ _)) ?_)
   refine JL_op rfl (op_read rfl rfl (r_load_priv (a := a_1) (off := 2) (cs' := [v_6]) (v := v_6) 0 pu54 pi54 rfl rfl rfl rfl (by decide) rfl) ?_)
   refine JL_op rfl (op_read rfl rfl (r_move (v := .i r_22.1) rfl) ?_)
   refine J_bind fun x_53 hx_54 => ?_
   refine JL_op rfl (op_read rfl rfl (r_index_row (v := v_6) (T := (T6).o) (q := x_53) 3 pu54 pi85 rfl rfl rfl rfl hx_54) ?_)
   refine JL_op rfl (op_read rfl rfl (r_fieldAddr (r := elemAddr v_6 ((r_22.1).toNat * ((T6).o).size + 5)) pu85 (f := Try.pf85.getD 3 default) rfl pi3 (by decide) rfl (elemAddr_add _ _ _)) ?_)
   refine JL_op rfl (op_reads rfl rfl (l_elem_orow (v := v_6) (T := (T6).o) (Tf := (tInt .i64)) (q := x_53) (i := r_22.1) (off := 5) 3 pu3 pi3 rfl rfl rfl rfl hx_54 (OFieldAt.of f_Glychgateref06_Cell_Readers) (by decide)) ?_)
   intro v_55 h_56
   obtain rfl := tInt_v.1 h_56
   refine JL_op rfl (op_read rfl rfl (r_eql rfl rfl) ?_)
   refine JL_nil ?_
   refine J_then ?_
   refine J_cond rfl (fun hc_57 => ?_) (fun hc_57 => ?_)
   ·refine J_seq ?_
    refine J_region ?_
    refine JL_op rfl (op_read rfl rfl (r_build (cs := [.i 0, .i 0, .i 0]) (vs := []) (pcs := []) (pls := [(0, 1), (1, 1), (2, 1)]) pu74 pi74 rfl (by kernel_rfl) rfl trivial rfl) ?_)
    refine JL_op rfl (op_store_priv (a := c_20) (off := 0) (vs := [.i 0, .i 0, .i 0]) (cs' := [.i 0, .i 0, .i 0]) (PV' := [.cell a_1 [v_2, v_4, v_6, .i Used_8], .row (tBool).o 4 v_2 x_3, .row ((tInt .i64)).o 2 v_4 x_5, .row (T6).o 85 v_6 x_7, .cell c_20 [.i 0, .i 0, .i 0], .cell c_18 [.i v_14.Kind, .i v_14.N, .i v_14.Block], .cell c_16 [.i p_10.Kind, .i p_10.N, .i p_10.Block]]) 4 pi74 rfl rfl rfl ⟨rfl, rfl, rfl, trivial⟩ rfl rfl rfl rfl rfl ?_)
    refine JL_op rfl (op_read rfl rfl (r_assign (v := .i 6) rfl) ?_)
    refine JL_nil ?_
    refine J_then ?_
    refine J_ret ?_
    refine J_then_ret ?_
    exact J_returnV2 (PV' := [.cell a_1 [v_2, v_4, v_6, .i Used_8], .row (tBool).o 4 v_2 x_3, .row ((tInt .i64)).o 2 v_4 x_5, .row (T6).o 85 v_6 x_7]) rfl (rv_cell (cs := [.i 0, .i 0, .i 0]) (v := .agg #[.i 0, .i 0, .i 0]) 4 pu74 pi74 rfl rfl rfl (by decide) rfl) rv_tmp [0, 1, 2, 3] (by decide) rfl ⟨rfl, rfl, rfl⟩
   ·refine J_skip ?_
    refine J_then ?_
    refine J_seq ?_
    refine J_region_any 16 [.cell a_1 [v_2, v_4, v_6, .i Used_8], .row (tBool).o 4 v_2 x_3, .row ((tInt .i64)).o 2 v_4 x_5, .row (T6).o 85 v_6 x_7, .cell c_20 [.i 0, .i 0, .i 0], .cell c_18 [.i v_14.Kind, .i v_14.N, .i v_14.Block], .cell c_16 [.i p_10.Kind, .i p_10.N, .i p_10.Block]] Try.mixed (by kernel_rfl) fun hns => ?_
    have hS_58 : HeldOK σ [.cell a_1 [v_2, v_4, v_6, .i Used_8], .row (tBool).o 4 v_2 x_3, .row ((tInt .i64)).o 2 v_4 x_5, .row (T6).o 85 v_6 x_7, .cell c_20 [.i 0, .i 0, .i 0], .cell c_18 [.i v_14.Kind, .i v_14.N, .i v_14.Block], .cell c_16 [.i p_10.Kind, .i p_10.N, .i p_10.Block]] σ [.cell a_1 [v_2, v_4, v_6, .i Used_8], .row (tBool).o 4 v_2 x_3, .row ((tInt .i64)).o 2 v_4 x_5, .row (T6).o 85 v_6 x_7, .cell c_20 [.i 0, .i 0, .i 0], .cell c_18 [.i v_14.Kind, .i v_14.N, .i v_14.Block], .cell c_16 [.i p_10.Kind, .i p_10.N, .i p_10.Block]] := HeldOK.same [0, 1, 2, 3, 4, 5, 6] (by decide) rfl
    refine JA_takep 0 rfl hns (by kernel_rfl) (by kernel_rfl) rfl (.inr hS_58) rfl rfl rfl (r_move (v := .pointer (some (Addr.add a_1 0))) rfl) ?_
    refine JA_takep 1 rfl hns (by kernel_rfl) (by kernel_rfl) rfl (.inr hS_58) rfl rfl rfl (r_nilCheck (a := (Addr.add a_1 0)) rfl) ?_
    refine JA_takep 2 rfl hns (by kernel_rfl) (by kernel_rfl) rfl (.inr hS_58) rfl rfl rfl (r_fieldAddr (r := Addr.add a_1 2) pu56 (f := Try.pf56.getD 2 default) rfl pi54 (by decide) rfl (Addr.add_add _ _ _)) ?_
    refine JA_take 3 rfl hns (by kernel_rfl) (by kernel_rfl) (by kernel_rfl) rfl (by kernel_rfl) hS_58 rfl rfl rfl (r_load_priv (a := a_1) (off := 2) (cs' := [v_6]) (v := v_6) 0 pu54 pi54 rfl rfl rfl rfl (by decide) rfl) ?_
    refine JA_takep 4 rfl hns (by kernel_rfl) (by kernel_rfl) rfl (.inr hS_58) rfl rfl rfl (r_move (v := .i r_22.1) rfl) ?_
    refine JA_takep 5 rfl hns (by kernel_rfl) (by kernel_rfl) rfl (.inr hS_58) rfl rfl rfl (r_move (v := .pointer (some (Addr.add a_1 0))) rfl) ?_
    refine JA_takep 6 rfl hns (by kernel_rfl) (by kernel_rfl) rfl (.inr hS_58) rfl rfl rfl (r_nilCheck (a := (Addr.add a_1 0)) rfl) ?_
    refine JA_takep 7 rfl hns (by kernel_rfl) (by kernel_rfl) rfl (.inr hS_58) rfl rfl rfl (r_fieldAddr (r := Addr.add a_1 2) pu56 (f := Try.pf56.getD 2 default) rfl pi54 (by decide) rfl (Addr.add_add _ _ _)) ?_
    refine JA_take 8 rfl hns (by kernel_rfl) (by kernel_rfl) (by kernel_rfl) rfl (by kernel_rfl) hS_58 rfl rfl rfl (r_load_priv (a := a_1) (off := 2) (cs' := [v_6]) (v := v_6) 0 pu54 pi54 rfl rfl rfl rfl (by decide) rfl) ?_
    refine JA_takep 9 rfl hns (by kernel_rfl) (by kernel_rfl) rfl (.inr hS_58) rfl rfl rfl (r_move (v := .i r_22.1) rfl) ?_
    refine JA_take 10 rfl hns (by kernel_rfl) (by kernel_rfl) (by kernel_rfl) rfl (by kernel_rfl) hS_58 rfl rfl rfl (r_index_row (v := v_6) (T := (T6).o) (q := x_53) 3 pu54 pi85 rfl rfl rfl rfl hx_54) ?_
    refine JA_takep 11 rfl hns (by kernel_rfl) (by kernel_rfl) rfl (.inr hS_58) rfl rfl rfl (r_fieldAddr (r := elemAddr v_6 ((r_22.1).toNat * ((T6).o).size + 5)) pu85 (f := Try.pf85.getD 3 default) rfl pi3 (by decide) rfl (elemAddr_add _ _ _)) ?_
    refine JA_takes 12 rfl hns (by kernel_rfl) (by kernel_rfl) (by kernel_rfl) rfl (by kernel_rfl) hS_58 rfl rfl rfl (l_elem_orow (v := v_6) (T := (T6).o) (Tf := (tInt .i64)) (q := x_53) (i := r_22.1) (off := 5) 3 pu3 pi3 rfl rfl rfl rfl hx_54 (OFieldAt.of f_Glychgateref06_Cell_Readers) (by decide)) ?_
    intro v_59 h_60
    obtain rfl := tInt_v.1 h_60
    refine JA_takep 13 rfl hns (by kernel_rfl) (by kernel_rfl) rfl (.inr hS_58) rfl rfl rfl (r_sub rfl rfl) ?_
    refine JA_take 14 rfl hns (by kernel_rfl) (by kernel_rfl) (by kernel_rfl) rfl (by kernel_rfl) hS_58 rfl rfl rfl (r_index_row (v := v_6) (T := (T6).o) (q := x_53) 3 pu54 pi85 rfl rfl rfl rfl hx_54) ?_
    refine JA_takep 15 rfl hns (by kernel_rfl) (by kernel_rfl) rfl (.inr hS_58) rfl rfl rfl (r_fieldAddr (r := elemAddr v_6 ((r_22.1).toNat * ((T6).o).size + 5)) pu85 (f := Try.pf85.getD 3 default) rfl pi3 (by decide) rfl (elemAddr_add _ _ _)) ?_
    refine J_select (PV' := [.row (T6).o 85 v_6 x_7, .cell a_1 [v_2, v_4, v_6, .i Used_8], .row (tBool).o 4 v_2 x_3, .row ((tInt .i64)).o 2 v_4 x_5, .cell c_20 [.i 0, .i 0, .i 0], .cell c_18 [.i v_14.Kind, .i v_14.N, .i v_14.Block], .cell c_16 [.i p_10.Kind, .i p_10.N, .i p_10.Block]]) [3, 0, 1, 2, 4, 5, 6] (by decide) rfl ?_
    refine J_take (T := (T6).o) (i := r_22.1) hx_54 fun u_62 hu_61 => ?_
    change J _ _ _ _ _ _ _ _ [.hole (fun x => .elem (T6).o (elemAddr v_6 ((r_22.1).toNat * ((T6).o).size)) x) (fun x => .row (T6).o 85 v_6 (Sl.set x_7 r_22.1 x)), .cell (elemAddr v_6 ((r_22.1).toNat * ((T6).o).size)) [.i x_53.Block, .i x_53.Number, .i x_53.V.Kind, .i x_53.V.N, .i x_53.V.Block, .i x_53.Readers, .bool x_53.Writer], .cell a_1 [v_2, v_4, v_6, .i Used_8], .row (tBool).o 4 v_2 x_3, .row ((tInt .i64)).o 2 v_4 x_5, .cell c_20 [.i 0, .i 0, .i 0], .cell c_18 [.i v_14.Kind, .i v_14.N, .i v_14.Block], .cell c_16 [.i p_10.Kind, .i p_10.N, .i p_10.Block]]
    refine JA_op (i := 16) (by kernel_rfl) rfl rfl (op_store_priv (a := (elemAddr v_6 ((r_22.1).toNat * ((T6).o).size))) (off := 5) (vs := [.i (IntKind.i64.wrap (x_53.Readers - 1))]) (cs' := [.i x_53.Block, .i x_53.Number, .i x_53.V.Kind, .i x_53.V.N, .i x_53.V.Block, .i (IntKind.i64.wrap (x_53.Readers - 1)), .bool x_53.Writer]) (PV' := [.hole (fun x => .elem (T6).o (elemAddr v_6 ((r_22.1).toNat * ((T6).o).size)) x) (fun x => .row (T6).o 85 v_6 (Sl.set x_7 r_22.1 x)), .cell (elemAddr v_6 ((r_22.1).toNat * ((T6).o).size)) [.i x_53.Block, .i x_53.Number, .i x_53.V.Kind, .i x_53.V.N, .i x_53.V.Block, .i (IntKind.i64.wrap (x_53.Readers - 1)), .bool x_53.Writer], .cell a_1 [v_2, v_4, v_6, .i Used_8], .row (tBool).o 4 v_2 x_3, .row ((tInt .i64)).o 2 v_4 x_5, .cell c_20 [.i 0, .i 0, .i 0], .cell c_18 [.i v_14.Kind, .i v_14.N, .i v_14.Block], .cell c_16 [.i p_10.Kind, .i p_10.N, .i p_10.Block]]) 1 pi3 (pe_add v_6 ((r_22.1).toNat * ((T6).o).size) 5) rfl rfl ⟨rfl, trivial⟩ rfl rfl rfl rfl rfl ?_)
    refine ⟨.inl (.inl rfl), ?_⟩
    refine JA_done (by kernel_rfl) ?_
    refine J_then ?_
    refine J_seq ?_
    refine J_seq ?_
    refine J_region ?_
    refine JL_op rfl (op_read rfl rfl (r_move (v := .pointer (some (Addr.add a_1 0))) rfl) ?_)
    refine JL_op rfl (op_read rfl rfl (r_nilCheck (a := (Addr.add a_1 0)) rfl) ?_)
    refine JL_op rfl (op_read rfl rfl (r_fieldAddr (r := Addr.add a_1 2) pu56 (f := Try.pf56.getD 2 default) rfl pi54 (by decide) rfl (Addr.add_add _ _ _)) ?_)
    refine JL_op rfl (op_read rfl rfl (r_load_priv (a := a_1) (off := 2) (cs' := [v_6]) (v := v_6) 2 pu54 pi54 rfl rfl rfl rfl (by decide) rfl) ?_)
    refine JL_op rfl (op_read rfl rfl (r_move (v := .i r_22.1) rfl) ?_)
    refine J_put (T := (T6).o) (i := r_22.1) (s := x_7) (s' := (Sl.set x_7 r_22.1 (⟨x_53.Block, x_53.Number, x_53.V, IntKind.i64.wrap (x_53.Readers - 1), x_53.Writer⟩ : Glychgateref06_Cell))) (A := []) (C := [.cell a_1 [v_2, v_4, v_6, .i Used_8], .row (tBool).o 4 v_2 x_3, .row ((tInt .i64)).o 2 v_4 x_5, .cell c_20 [.i 0, .i 0, .i 0], .cell c_18 [.i v_14.Kind, .i v_14.N, .i v_14.Block], .cell c_16 [.i p_10.Kind, .i p_10.N, .i p_10.Block]]) (⟨x_53.Block, x_53.Number, x_53.V, IntKind.i64.wrap (x_53.Readers - 1), x_53.Writer⟩ : Glychgateref06_Cell) () trivial rfl rfl rfl ?_
    refine J_bind fun x_64 hx_65 => ?_
    refine JL_op rfl (op_read rfl rfl (r_index_row (v := v_6) (T := (T6).o) (q := x_64) 0 pu54 pi85 rfl rfl rfl rfl hx_65) ?_)
    refine JL_op rfl (op_read rfl rfl (r_fieldAddr (r := elemAddr v_6 ((r_22.1).toNat * ((T6).o).size + 2)) pu85 (f := Try.pf85.getD 2 default) rfl pi74 (by decide) rfl (elemAddr_add _ _ _)) ?_)
    refine JL_op rfl (op_read rfl rfl (r_fieldAddr (r := elemAddr v_6 ((r_22.1).toNat * ((T6).o).size + 2)) pu74 (f := Try.pf74.getD 0 default) rfl pi3 (by decide) rfl (elemAddr_add _ _ _)) ?_)
    refine JL_op rfl (op_reads rfl rfl (l_elem_orow (v := v_6) (T := (T6).o) (Tf := (tInt .i64)) (q := x_64) (i := r_22.1) (off := 2) 0 pu3 pi3 rfl rfl rfl rfl hx_65 (OFieldAt.comp (OFieldAt.of f_Glychgateref06_Cell_V) f_Glychgateref06_Value_Kind (by decide)) (by decide)) ?_)
    intro v_66 h_67
    obtain rfl := tInt_v.1 h_67
    refine JL_op rfl (op_read rfl rfl (r_eql rfl rfl) ?_)
    refine JL_nil ?_
    refine J_then ?_
    refine J_cond rfl (fun hc_68 => ?_) (fun hc_68 => ?_)
    ·refine J_seq ?_
     refine J_region ?_
     refine JL_op rfl (op_read rfl rfl (r_build (cs := [.i 0, .i 0, .i 0]) (vs := []) (pcs := []) (pls := [(0, 1), (1, 1), (2, 1)]) pu74 pi74 rfl (by kernel_rfl) rfl trivial rfl) ?_)
     refine JL_op rfl (op_store_priv (a := c_20) (off := 0) (vs := [.i 0, .i 0, .i 0]) (cs' := [.i 0, .i 0, .i 0]) (PV' := [.row (T6).o 85 v_6 (Sl.set x_7 r_22.1 (⟨x_53.Block, x_53.Number, x_53.V, IntKind.i64.wrap (x_53.Readers - 1), x_53.Writer⟩ : Glychgateref06_Cell)), .cell a_1 [v_2, v_4, v_6, .i Used_8], .row (tBool).o 4 v_2 x_3, .row ((tInt .i64)).o 2 v_4 x_5, .cell c_20 [.i 0, .i 0, .i 0], .cell c_18 [.i v_14.Kind, .i v_14.N, .i v_14.Block], .cell c_16 [.i p_10.Kind, .i p_10.N, .i p_10.Block]]) 4 pi74 rfl rfl rfl ⟨rfl, rfl, rfl, trivial⟩ rfl rfl rfl rfl rfl ?_)
     refine JL_op rfl (op_read rfl rfl (r_assign (v := .i 4) rfl) ?_)
     refine JL_nil ?_
     refine J_then ?_
     refine J_ret ?_
     refine J_then_ret ?_
     exact J_returnV2 (PV' := [.cell a_1 [v_2, v_4, v_6, .i Used_8], .row (tBool).o 4 v_2 x_3, .row ((tInt .i64)).o 2 v_4 x_5, .row (T6).o 85 v_6 (Sl.set x_7 r_22.1 (⟨x_53.Block, x_53.Number, x_53.V, IntKind.i64.wrap (x_53.Readers - 1), x_53.Writer⟩ : Glychgateref06_Cell))]) rfl (rv_cell (cs := [.i 0, .i 0, .i 0]) (v := .agg #[.i 0, .i 0, .i 0]) 4 pu74 pi74 rfl rfl rfl (by decide) rfl) rv_tmp [1, 2, 3, 0] (by decide) rfl ⟨rfl, rfl, rfl⟩
    ·refine J_skip ?_
     refine J_then ?_
     refine J_seq ?_
     refine J_region ?_
     refine JL_op rfl (op_read rfl rfl (r_move (v := .pointer (some (Addr.add a_1 0))) rfl) ?_)
     refine JL_op rfl (op_read rfl rfl (r_nilCheck (a := (Addr.add a_1 0)) rfl) ?_)
     refine JL_op rfl (op_read rfl rfl (r_fieldAddr (r := Addr.add a_1 2) pu56 (f := Try.pf56.getD 2 default) rfl pi54 (by decide) rfl (Addr.add_add _ _ _)) ?_)
     refine JL_op rfl (op_read rfl rfl (r_load_priv (a := a_1) (off := 2) (cs' := [v_6]) (v := v_6) 1 pu54 pi54 rfl rfl rfl rfl (by decide) rfl) ?_)
     refine JL_op rfl (op_read rfl rfl (r_move (v := .i r_22.1) rfl) ?_)
     refine JL_op rfl (op_read rfl rfl (r_index_row (v := v_6) (T := (T6).o) (q := x_64) 0 pu54 pi85 rfl rfl rfl rfl hx_65) ?_)
     refine JL_op rfl (op_read rfl rfl (r_fieldAddr (r := elemAddr v_6 ((r_22.1).toNat * ((T6).o).size + 2)) pu85 (f := Try.pf85.getD 2 default) rfl pi74 (by decide) rfl (elemAddr_add _ _ _)) ?_)
     refine JL_op rfl (op_reads rfl rfl (l_elem_orow (v := v_6) (T := (T6).o) (Tf := T4) (q := x_64) (i := r_22.1) (off := 2) 0 pu74 pi74 rfl rfl rfl rfl hx_65 (OFieldAt.of f_Glychgateref06_Cell_V) (by decide)) ?_)
     intro v_69 h_70
     obtain rfl := T4_v.1 h_70
     refine JL_op rfl (op_store_priv (a := c_20) (off := 0) (vs := [.i x_64.V.Kind, .i x_64.V.N, .i x_64.V.Block]) (cs' := [.i x_64.V.Kind, .i x_64.V.N, .i x_64.V.Block]) (PV' := [.row (T6).o 85 v_6 (Sl.set x_7 r_22.1 (⟨x_53.Block, x_53.Number, x_53.V, IntKind.i64.wrap (x_53.Readers - 1), x_53.Writer⟩ : Glychgateref06_Cell)), .cell a_1 [v_2, v_4, v_6, .i Used_8], .row (tBool).o 4 v_2 x_3, .row ((tInt .i64)).o 2 v_4 x_5, .cell c_20 [.i x_64.V.Kind, .i x_64.V.N, .i x_64.V.Block], .cell c_18 [.i v_14.Kind, .i v_14.N, .i v_14.Block], .cell c_16 [.i p_10.Kind, .i p_10.N, .i p_10.Block]]) 4 pi74 rfl rfl rfl ⟨rfl, rfl, rfl, trivial⟩ rfl rfl rfl rfl rfl ?_)
     refine JL_op rfl (op_read rfl rfl (r_assign (v := .i 0) rfl) ?_)
     refine JL_nil ?_
     refine J_then ?_
     refine J_ret ?_
     exact J_returnV2 (PV' := [.cell a_1 [v_2, v_4, v_6, .i Used_8], .row (tBool).o 4 v_2 x_3, .row ((tInt .i64)).o 2 v_4 x_5, .row (T6).o 85 v_6 (Sl.set x_7 r_22.1 (⟨x_53.Block, x_53.Number, x_53.V, IntKind.i64.wrap (x_53.Readers - 1), x_53.Writer⟩ : Glychgateref06_Cell))]) rfl (rv_cell (cs := [.i x_64.V.Kind, .i x_64.V.N, .i x_64.V.Block]) (v := .agg #[.i x_64.V.Kind, .i x_64.V.N, .i x_64.V.Block]) 4 pu74 pi74 rfl rfl rfl (by decide) rfl) rv_tmp [1, 2, 3, 0] (by decide) rfl ⟨rfl, rfl, rfl⟩
def lychgateref06_whole_post (σ0 : FS) (a_1 : Addr) (v_2 : Value) (x_3 : Sl Bool) (v_4 : Value) (x_5 : Sl Int) (v_6 : Value) (x_7 : Sl Glychgateref06_Cell) (Used_8 : Int) (v_9 : Value) (p_10 : Glychgateref06_Value) (r : Int × Int) (σ : FS) (PV : List Priv) (v : Value) : Prop :=
 σ0 = σ ∧ .tuple #[.i r.1, .i r.2] = v ∧ PV = [.cell a_1 [v_2, v_4, v_6, .i Used_8], .row (tBool).o 4 v_2 x_3, .row ((tInt .i64)).o 2 v_4 x_5, .row (T6).o 85 v_6 x_7]
set_option maxRecDepth 100000 in
theorem lychgateref06_whole_ref (s : Start) (σ : FS) (a_1 : Addr) (v_2 : Value) (x_3 : Sl Bool) (v_4 : Value) (x_5 : Sl Int) (v_6 : Value) (x_7 : Sl Glychgateref06_Cell) (Used_8 : Int) (v_9 : Value) (p_10 : Glychgateref06_Value) (h_11 : T4.vrel σ v_9 p_10) (hs : Pre s σ [.cell a_1 [v_2, v_4, v_6, .i Used_8], .row (tBool).o 4 v_2 x_3, .row ((tInt .i64)).o 2 v_4 x_5, .row (T6).o 85 v_6 x_7]) (r : Int × Int) (hr : lychgateref06_whole x_3 x_5 x_7 Used_8 p_10 = some r) : Does Try.prog 40 [.pointer (some (Addr.add a_1 0)), v_9] s σ (lychgateref06_whole_post σ a_1 v_2 x_3 v_4 x_5 v_6 x_7 Used_8 v_9 p_10 r) := by
 unfold lychgateref06_whole at hr
 obtain rfl := T4_v.1 h_11
 refine does_of_J Try.func40 rfl (n := 61) rfl rfl hs hr ?_
 refine J_seq ?_
 refine J_region ?_
 refine JL_op rfl (op_box (cs := [.i p_10.Kind, .i p_10.N, .i p_10.Block]) rfl rfl ?_)
 intro c_12
 refine JL_op rfl (op_read rfl rfl (r_assign (v := .i 0) rfl) ?_)
 refine JL_op rfl (op_read rfl rfl (r_assign (v := .i 0) rfl) ?_)
 refine JL_nil ?_
 refine J_then ?_
 refine J_seq ?_
 refine J_region ?_
 refine JL_op rfl (op_read rfl rfl (r_move (v := .pointer (some (Addr.add a_1 0))) rfl) ?_)
 refine JL_op rfl (op_read rfl rfl (r_load_priv (a := c_12) (off := 0) (cs' := [.i p_10.Kind, .i p_10.N, .i p_10.Block]) (v := .agg #[.i p_10.Kind, .i p_10.N, .i p_10.Block]) 0 pu74 pi74 rfl rfl rfl rfl (by decide) rfl) ?_)
 refine J_select (PV' := [.cell a_1 [v_2, v_4, v_6, .i Used_8], .row (tBool).o 4 v_2 x_3, .row ((tInt .i64)).o 2 v_4 x_5, .row (T6).o 85 v_6 x_7, .cell c_12 [.i p_10.Kind, .i p_10.N, .i p_10.Block]]) [1, 2, 3, 4, 0] (by decide) rfl ?_
 refine JL_op rfl (op_call (f := 38) (fn := Try.f38) (args := [.pointer (some (Addr.add a_1 0)), .agg #[.i p_10.Kind, .i p_10.N, .i p_10.Block]]) (post := lychgateref06_Find_post σ a_1 v_2 x_3 v_4 x_5 v_6 x_7 Used_8 (.agg #[.i p_10.Kind, .i p_10.N, .i p_10.Block]) p_10) [.cell a_1 [v_2, v_4, v_6, .i Used_8], .row (tBool).o 4 v_2 x_3, .row ((tInt .i64)).o 2 v_4 x_5, .row (T6).o 85 v_6 x_7] [.cell c_12 [.i p_10.Kind, .i p_10.N, .i p_10.Block]] rfl rfl rfl Try.func38 pn38 rfl rfl (fun y st hy hpre => lychgateref06_Find_ref st σ a_1 v_2 x_3 v_4 x_5 v_6 x_7 Used_8 (.agg #[.i p_10.Kind, .i p_10.N, .i p_10.Block]) p_10 (T4_v.2 rfl) hpre y hy) ?_)
 intro r_14 v_16 s_19 PV_17 hr_15 hle_20 hp_18
 obtain ⟨rfl, rfl, rfl⟩ := hp_18
 refine JL_op rfl (op_read rfl rfl (r_move (v := .tuple #[.i r_14.1, .i r_14.2]) rfl) ?_)
 refine JL_op rfl (op_read rfl rfl (r_extract (v := .i r_14.1) rfl rfl) ?_)
 refine JL_op rfl (op_read rfl rfl (r_extract (v := .i r_14.2) rfl rfl) ?_)
 refine JL_op rfl (op_read rfl rfl (r_assign (v := .i r_14.1) rfl) ?_)
 refine JL_op rfl (op_read rfl rfl (r_assign (v := .i r_14.2) rfl) ?_)
 refine JL_nil ?_
 refine J_then ?_
 refine J_seq ?_
 refine J_seq ?_
 refine J_region ?_
 refine JL_op rfl (op_read rfl rfl (r_move (v := .i r_14.2) rfl) ?_)
 refine JL_op rfl (op_read rfl rfl (r_neq rfl rfl) ?_)
 refine JL_nil ?_
 refine J_then ?_
 refine J_cond rfl (fun hc_21 => ?_) (fun hc_21 => ?_)
 ·refine J_seq ?_
  refine J_region ?_
  refine JL_op rfl (op_read rfl rfl (r_move (v := .i r_14.1) rfl) ?_)
  refine JL_op rfl (op_read rfl rfl (r_move (v := .i r_14.2) rfl) ?_)
  refine JL_op rfl (op_read rfl rfl (r_assign (v := .i r_14.1) rfl) ?_)
  refine JL_op rfl (op_read rfl rfl (r_assign (v := .i r_14.2) rfl) ?_)
  refine JL_nil ?_
  refine J_then ?_
  refine J_ret ?_
  refine J_then_ret ?_
  exact J_returnV2 (PV' := [.cell a_1 [v_2, v_4, v_6, .i Used_8], .row (tBool).o 4 v_2 x_3, .row ((tInt .i64)).o 2 v_4 x_5, .row (T6).o 85 v_6 x_7]) rfl rv_tmp rv_tmp [0, 1, 2, 3] (by decide) rfl ⟨rfl, rfl, rfl⟩
 ·refine J_skip ?_
  refine J_then ?_
  refine J_seq ?_
  refine J_seq ?_
  refine J_region ?_
  refine JL_op rfl (op_read rfl rfl (r_move (v := .pointer (some (Addr.add a_1 0))) rfl) ?_)
  refine JL_op rfl (op_read rfl rfl (r_nilCheck (a := (Addr.add a_1 0)) rfl) ?_)
  refine JL_op rfl (op_read rfl rfl (r_fieldAddr (r := Addr.add a_1 2) pu56 (f := Try.pf56.getD 2 default) rfl pi54 (by decide) rfl (Addr.add_add _ _ _)) ?_)
  refine JL_op rfl (op_read rfl rfl (r_load_priv (a := a_1) (off := 2) (cs' := [v_6]) (v := v_6) 0 pu54 pi54 rfl rfl rfl rfl (by decide) rfl) ?_)
  refine JL_op rfl (op_read rfl rfl (r_move (v := .i r_14.1) rfl) ?_)
  refine J_bind fun x_22 hx_23 => ?_
  refine JL_op rfl (op_read rfl rfl (r_index_row (v := v_6) (T := (T6).o) (q := x_22) 3 pu54 pi85 rfl rfl rfl rfl hx_23) ?_)
  refine JL_op rfl (op_read rfl rfl (r_fieldAddr (r := elemAddr v_6 ((r_14.1).toNat * ((T6).o).size + 5)) pu85 (f := Try.pf85.getD 3 default) rfl pi3 (by decide) rfl (elemAddr_add _ _ _)) ?_)
  refine JL_op rfl (op_reads rfl rfl (l_elem_orow (v := v_6) (T := (T6).o) (Tf := (tInt .i64)) (q := x_22) (i := r_14.1) (off := 5) 3 pu3 pi3 rfl rfl rfl rfl hx_23 (OFieldAt.of f_Glychgateref06_Cell_Readers) (by decide)) ?_)
  intro v_24 h_25
  obtain rfl := tInt_v.1 h_25
  refine JL_op rfl (op_read rfl rfl (r_gtr rfl rfl) ?_)
  refine JL_op rfl (op_read rfl rfl (r_move (v := .bool (decide (0 < x_22.Readers))) rfl) ?_)
  refine J_forkL (e := (decide (0 < x_22.Readers))) 9 [(0, .pointer (some (Addr.add a_1 0))), (6, .i r_14.1), (36, .bool (decide (0 < x_22.Readers) || x_22.Writer))] (fun hc_26 hk => ?_) (fun hc_26 hk => ?_) (fun b => ?_)
  ·refine JL_skip rfl rfl hc_26 rfl rfl ?_
   iterate 7 refine JL_skip rfl rfl hc_26 rfl rfl ?_
   refine JL_op rfl (op_read rfl rfl (r_pick_t (v := .bool true) rfl hc_26 rfl) ?_)
   refine J_prune [(0, .pointer (some (Addr.add a_1 0))), (6, .i r_14.1), (36, .bool (decide (0 < x_22.Readers) || x_22.Writer))] ⟨rfl, rfl, (by show Value.bool _ = Value.bool _; rw [hc_26]; rfl), trivial⟩ hk
  ·refine JL_opg rfl rfl hc_26 (op_read rfl rfl (r_move (v := .pointer (some (Addr.add a_1 0))) rfl) ?_)
   refine JL_opg rfl rfl hc_26 (op_read rfl rfl (r_nilCheck (a := (Addr.add a_1 0)) rfl) ?_)
   refine JL_opg rfl rfl hc_26 (op_read rfl rfl (r_fieldAddr (r := Addr.add a_1 2) pu56 (f := Try.pf56.getD 2 default) rfl pi54 (by decide) rfl (Addr.add_add _ _ _)) ?_)
   refine JL_opg rfl rfl hc_26 (op_read rfl rfl (r_load_priv (a := a_1) (off := 2) (cs' := [v_6]) (v := v_6) 0 pu54 pi54 rfl rfl rfl rfl (by decide) rfl) ?_)
   refine JL_opg rfl rfl hc_26 (op_read rfl rfl (r_move (v := .i r_14.1) rfl) ?_)
   refine JL_opg rfl rfl hc_26 (op_read rfl rfl (r_index_row (v := v_6) (T := (T6).o) (q := x_22) 3 pu54 pi85 rfl rfl rfl rfl hx_23) ?_)
   refine JL_opg rfl rfl hc_26 (op_read rfl rfl (r_fieldAddr (r := elemAddr v_6 ((r_14.1).toNat * ((T6).o).size + 6)) pu85 (f := Try.pf85.getD 4 default) rfl pi4 (by decide) rfl (elemAddr_add _ _ _)) ?_)
   refine JL_opg rfl rfl hc_26 (op_reads rfl rfl (l_elem_orow (v := v_6) (T := (T6).o) (Tf := tBool) (q := x_22) (i := r_14.1) (off := 6) 3 pu4 pi4 rfl rfl rfl rfl hx_23 (OFieldAt.of f_Glychgateref06_Cell_Writer) (by decide)) ?_)
   intro v_27 h_28
   obtain rfl := tBool_v.1 h_28
   refine JL_op rfl (op_read rfl rfl (r_pick_f (v := .bool x_22.Writer) rfl hc_26 rfl) ?_)
   refine J_prune [(0, .pointer (some (Addr.add a_1 0))), (6, .i r_14.1), (36, .bool (decide (0 < x_22.Readers) || x_22.Writer))] ⟨rfl, rfl, (by show Value.bool _ = Value.bool _; rw [hc_26]; rfl), trivial⟩ hk
  ·refine JL_nil ?_
   refine J_then ?_
   refine J_cond rfl (fun hc_29 => ?_) (fun hc_29 => ?_)
   ·refine J_seq ?_
    refine J_region ?_
    refine JL_op rfl (op_read rfl rfl (r_move (v := .i r_14.1) rfl) ?_)
    refine JL_op rfl (op_read rfl rfl (r_assign (v := .i r_14.1) rfl) ?_)
    refine JL_op rfl (op_read rfl rfl (r_assign (v := .i 6) rfl) ?_)
    refine JL_nil ?_
    refine J_then ?_
    refine J_ret ?_
    refine J_then_ret ?_
    exact J_returnV2 (PV' := [.cell a_1 [v_2, v_4, v_6, .i Used_8], .row (tBool).o 4 v_2 x_3, .row ((tInt .i64)).o 2 v_4 x_5, .row (T6).o 85 v_6 x_7]) rfl rv_tmp rv_tmp [0, 1, 2, 3] (by decide) rfl ⟨rfl, rfl, rfl⟩
   ·refine J_skip ?_
    refine J_then ?_
    refine J_seq ?_
    refine J_seq ?_
    refine J_region ?_
    refine JL_op rfl (op_read rfl rfl (r_move (v := .pointer (some (Addr.add a_1 0))) rfl) ?_)
    refine JL_op rfl (op_read rfl rfl (r_nilCheck (a := (Addr.add a_1 0)) rfl) ?_)
    refine JL_op rfl (op_read rfl rfl (r_fieldAddr (r := Addr.add a_1 2) pu56 (f := Try.pf56.getD 2 default) rfl pi54 (by decide) rfl (Addr.add_add _ _ _)) ?_)
    refine JL_op rfl (op_read rfl rfl (r_load_priv (a := a_1) (off := 2) (cs' := [v_6]) (v := v_6) 0 pu54 pi54 rfl rfl rfl rfl (by decide) rfl) ?_)
    refine JL_op rfl (op_read rfl rfl (r_move (v := .i r_14.1) rfl) ?_)
    refine JL_op rfl (op_read rfl rfl (r_index_row (v := v_6) (T := (T6).o) (q := x_22) 3 pu54 pi85 rfl rfl rfl rfl hx_23) ?_)
    refine JL_op rfl (op_read rfl rfl (r_fieldAddr (r := elemAddr v_6 ((r_14.1).toNat * ((T6).o).size + 2)) pu85 (f := Try.pf85.getD 2 default) rfl pi74 (by decide) rfl (elemAddr_add _ _ _)) ?_)
    refine JL_op rfl (op_read rfl rfl (r_fieldAddr (r := elemAddr v_6 ((r_14.1).toNat * ((T6).o).size + 2)) pu74 (f := Try.pf74.getD 0 default) rfl pi3 (by decide) rfl (elemAddr_add _ _ _)) ?_)
    refine JL_op rfl (op_reads rfl rfl (l_elem_orow (v := v_6) (T := (T6).o) (Tf := (tInt .i64)) (q := x_22) (i := r_14.1) (off := 2) 3 pu3 pi3 rfl rfl rfl rfl hx_23 (OFieldAt.comp (OFieldAt.of f_Glychgateref06_Cell_V) f_Glychgateref06_Value_Kind (by decide)) (by decide)) ?_)
    intro v_30 h_31
    obtain rfl := tInt_v.1 h_31
    refine JL_op rfl (op_read rfl rfl (r_eql rfl rfl) ?_)
    refine JL_nil ?_
    refine J_then ?_
    refine J_cond rfl (fun hc_32 => ?_) (fun hc_32 => ?_)
    ·refine J_seq ?_
     refine J_region ?_
     refine JL_op rfl (op_read rfl rfl (r_move (v := .i r_14.1) rfl) ?_)
     refine JL_op rfl (op_read rfl rfl (r_assign (v := .i r_14.1) rfl) ?_)
     refine JL_op rfl (op_read rfl rfl (r_assign (v := .i 4) rfl) ?_)
     refine JL_nil ?_
     refine J_then ?_
     refine J_ret ?_
     refine J_then_ret ?_
     exact J_returnV2 (PV' := [.cell a_1 [v_2, v_4, v_6, .i Used_8], .row (tBool).o 4 v_2 x_3, .row ((tInt .i64)).o 2 v_4 x_5, .row (T6).o 85 v_6 x_7]) rfl rv_tmp rv_tmp [0, 1, 2, 3] (by decide) rfl ⟨rfl, rfl, rfl⟩
    ·refine J_skip ?_
     refine J_then ?_
     refine J_seq ?_
     refine J_seq ?_
     refine J_region ?_
     refine JL_op rfl (op_read rfl rfl (r_move (v := .pointer (some (Addr.add a_1 0))) rfl) ?_)
     refine JL_op rfl (op_read rfl rfl (r_nilCheck (a := (Addr.add a_1 0)) rfl) ?_)
     refine JL_op rfl (op_read rfl rfl (r_fieldAddr (r := Addr.add a_1 2) pu56 (f := Try.pf56.getD 2 default) rfl pi54 (by decide) rfl (Addr.add_add _ _ _)) ?_)
     refine JL_op rfl (op_read rfl rfl (r_load_priv (a := a_1) (off := 2) (cs' := [v_6]) (v := v_6) 0 pu54 pi54 rfl rfl rfl rfl (by decide) rfl) ?_)
     refine JL_op rfl (op_read rfl rfl (r_move (v := .i r_14.1) rfl) ?_)
     refine JL_op rfl (op_read rfl rfl (r_index_row (v := v_6) (T := (T6).o) (q := x_22) 3 pu54 pi85 rfl rfl rfl rfl hx_23) ?_)
     refine JL_op rfl (op_read rfl rfl (r_fieldAddr (r := elemAddr v_6 ((r_14.1).toNat * ((T6).o).size + 2)) pu85 (f := Try.pf85.getD 2 default) rfl pi74 (by decide) rfl (elemAddr_add _ _ _)) ?_)
     refine JL_op rfl (op_read rfl rfl (r_fieldAddr (r := elemAddr v_6 ((r_14.1).toNat * ((T6).o).size + 2)) pu74 (f := Try.pf74.getD 0 default) rfl pi3 (by decide) rfl (elemAddr_add _ _ _)) ?_)
     refine JL_op rfl (op_reads rfl rfl (l_elem_orow (v := v_6) (T := (T6).o) (Tf := (tInt .i64)) (q := x_22) (i := r_14.1) (off := 2) 3 pu3 pi3 rfl rfl rfl rfl hx_23 (OFieldAt.comp (OFieldAt.of f_Glychgateref06_Cell_V) f_Glychgateref06_Value_Kind (by decide)) (by decide)) ?_)
     intro v_33 h_34
     obtain rfl := tInt_v.1 h_34
     refine JL_op rfl (op_read rfl rfl (r_neq rfl rfl) ?_)
     refine JL_nil ?_
     refine J_then ?_
     refine J_cond rfl (fun hc_35 => ?_) (fun hc_35 => ?_)
     ·refine J_seq ?_
      refine J_region ?_
      refine JL_op rfl (op_read rfl rfl (r_move (v := .i r_14.1) rfl) ?_)
      refine JL_op rfl (op_read rfl rfl (r_assign (v := .i r_14.1) rfl) ?_)
      refine JL_op rfl (op_read rfl rfl (r_assign (v := .i 1) rfl) ?_)
      refine JL_nil ?_
      refine J_then ?_
      refine J_ret ?_
      refine J_then_ret ?_
      exact J_returnV2 (PV' := [.cell a_1 [v_2, v_4, v_6, .i Used_8], .row (tBool).o 4 v_2 x_3, .row ((tInt .i64)).o 2 v_4 x_5, .row (T6).o 85 v_6 x_7]) rfl rv_tmp rv_tmp [0, 1, 2, 3] (by decide) rfl ⟨rfl, rfl, rfl⟩
     ·refine J_skip ?_
      refine J_then ?_
      refine J_seq ?_
      refine J_region ?_
      refine JL_op rfl (op_read rfl rfl (r_move (v := .i r_14.1) rfl) ?_)
      refine JL_op rfl (op_read rfl rfl (r_assign (v := .i r_14.1) rfl) ?_)
      refine JL_op rfl (op_read rfl rfl (r_assign (v := .i 0) rfl) ?_)
      refine JL_nil ?_
      refine J_then ?_
      refine J_ret ?_
      exact J_returnV2 (PV' := [.cell a_1 [v_2, v_4, v_6, .i Used_8], .row (tBool).o 4 v_2 x_3, .row ((tInt .i64)).o 2 v_4 x_5, .row (T6).o 85 v_6 x_7]) rfl rv_tmp rv_tmp [0, 1, 2, 3] (by decide) rfl ⟨rfl, rfl, rfl⟩
def lychgateref06_Lock_post (σ0 : FS) (a_1 : Addr) (v_2 : Value) (x_3 : Sl Bool) (v_4 : Value) (x_5 : Sl Int) (v_6 : Value) (x_7 : Sl Glychgateref06_Cell) (Used_8 : Int) (v_9 : Value) (p_10 : Glychgateref06_Value) (r : Bool × Int × (Sl Glychgateref06_Cell)) (σ : FS) (PV : List Priv) (v : Value) : Prop :=
 σ0 = σ ∧ .tuple #[.bool r.1, .i r.2.1] = v ∧ PV = [.cell a_1 [v_2, v_4, v_6, .i Used_8], .row (tBool).o 4 v_2 x_3, .row ((tInt .i64)).o 2 v_4 x_5, .row (T6).o 85 v_6 r.2.2]
set_option maxRecDepth 100000 in
theorem lychgateref06_Lock_ref (s : Start) (σ : FS) (a_1 : Addr) (v_2 : Value) (x_3 : Sl Bool) (v_4 : Value) (x_5 : Sl Int) (v_6 : Value) (x_7 : Sl Glychgateref06_Cell) (Used_8 : Int) (v_9 : Value) (p_10 : Glychgateref06_Value) (h_11 : T4.vrel σ v_9 p_10) (hs : Pre s σ [.cell a_1 [v_2, v_4, v_6, .i Used_8], .row (tBool).o 4 v_2 x_3, .row ((tInt .i64)).o 2 v_4 x_5, .row (T6).o 85 v_6 x_7]) (r : Bool × Int × (Sl Glychgateref06_Cell)) (hr : lychgateref06_Lock x_3 x_5 x_7 Used_8 p_10 = some r) : Does Try.prog 35 [.pointer (some (Addr.add a_1 0)), v_9] s σ (lychgateref06_Lock_post σ a_1 v_2 x_3 v_4 x_5 v_6 x_7 Used_8 v_9 p_10 r) := by
 unfold lychgateref06_Lock at hr
 obtain rfl := T4_v.1 h_11
 refine does_of_J Try.func35 rfl (n := 35) rfl rfl hs hr ?_
 refine J_seq ?_
 refine J_region ?_
 refine JL_op rfl (op_box (cs := [.i p_10.Kind, .i p_10.N, .i p_10.Block]) rfl rfl ?_)
 intro c_12
 refine JL_op rfl (op_read rfl rfl (r_assign (v := .bool false) rfl) ?_)
 refine JL_op rfl (op_read rfl rfl (r_assign (v := .i 0) rfl) ?_)
 refine JL_nil ?_
 refine J_then ?_
 refine J_seq ?_
 refine J_region ?_
 refine JL_op rfl (op_read rfl rfl (r_move (v := .pointer (some (Addr.add a_1 0))) rfl) ?_)
 refine JL_op rfl (op_read rfl rfl (r_load_priv (a := c_12) (off := 0) (cs' := [.i p_10.Kind, .i p_10.N, .i p_10.Block]) (v := .agg #[.i p_10.Kind, .i p_10.N, .i p_10.Block]) 0 pu74 pi74 rfl rfl rfl rfl (by decide) rfl) ?_)
 refine J_select (PV' := [.cell a_1 [v_2, v_4, v_6, .i Used_8], .row (tBool).o 4 v_2 x_3, .row ((tInt .i64)).o 2 v_4 x_5, .row (T6).o 85 v_6 x_7, .cell c_12 [.i p_10.Kind, .i p_10.N, .i p_10.Block]]) [1, 2, 3, 4, 0] (by decide) rfl ?_
 refine JL_op rfl (op_call (f := 40) (fn := Try.f40) (args := [.pointer (some (Addr.add a_1 0)), .agg #[.i p_10.Kind, .i p_10.N, .i p_10.Block]]) (post := lychgateref06_whole_post σ a_1 v_2 x_3 v_4 x_5 v_6 x_7 Used_8 (.agg #[.i p_10.Kind, .i p_10.N, .i p_10.Block]) p_10) [.cell a_1 [v_2, v_4, v_6, .i Used_8], .row (tBool).o 4 v_2 x_3, .row ((tInt .i64)).o 2 v_4 x_5, .row (T6).o 85 v_6 x_7] [.cell c_12 [.i p_10.Kind, .i p_10.N, .i p_10.Block]] rfl rfl rfl Try.func40 pn40 rfl rfl (fun y st hy hpre => lychgateref06_whole_ref st σ a_1 v_2 x_3 v_4 x_5 v_6 x_7 Used_8 (.agg #[.i p_10.Kind, .i p_10.N, .i p_10.Block]) p_10 (T4_v.2 rfl) hpre y hy) ?_)
 intro r_14 v_16 s_19 PV_17 hr_15 hle_20 hp_18
 obtain ⟨rfl, rfl, rfl⟩ := hp_18
 refine JL_op rfl (op_read rfl rfl (r_move (v := .tuple #[.i r_14.1, .i r_14.2]) rfl) ?_)
 refine JL_op rfl (op_read rfl rfl (r_extract (v := .i r_14.1) rfl rfl) ?_)
 refine JL_op rfl (op_read rfl rfl (r_extract (v := .i r_14.2) rfl rfl) ?_)
 refine JL_op rfl (op_read rfl rfl (r_assign (v := .i r_14.1) rfl) ?_)
 refine JL_op rfl (op_read rfl rfl (r_assign (v := .i r_14.2) rfl) ?_)
 refine JL_nil ?_
 refine J_then ?_
 refine J_seq ?_
 refine J_seq ?_
 refine J_region ?_
 refine JL_op rfl (op_read rfl rfl (r_move (v := .i r_14.2) rfl) ?_)
 refine JL_op rfl (op_read rfl rfl (r_neq rfl rfl) ?_)
 refine JL_nil ?_
 refine J_then ?_
 refine J_cond rfl (fun hc_21 => ?_) (fun hc_21 => ?_)
 ·refine J_seq ?_
  refine J_region ?_
  refine JL_op rfl (op_read rfl rfl (r_move (v := .i r_14.2) rfl) ?_)
  refine JL_op rfl (op_read rfl rfl (r_assign (v := .bool false) rfl) ?_)
  refine JL_op rfl (op_read rfl rfl (r_assign (v := .i r_14.2) rfl) ?_)
  refine JL_nil ?_
  refine J_then ?_
  refine J_ret ?_
  refine J_then_ret ?_
  exact J_returnV2 (PV' := [.cell a_1 [v_2, v_4, v_6, .i Used_8], .row (tBool).o 4 v_2 x_3, .row ((tInt .i64)).o 2 v_4 x_5, .row (T6).o 85 v_6 x_7]) rfl rv_tmp rv_tmp [0, 1, 2, 3] (by decide) rfl ⟨rfl, rfl, rfl⟩
 ·refine J_skip ?_
  refine J_then ?_
  refine J_seq ?_
  refine J_seq ?_
  refine J_region ?_
  refine JL_op rfl (op_read rfl rfl (r_move (v := .pointer (some (Addr.add a_1 0))) rfl) ?_)
  refine JL_op rfl (op_read rfl rfl (r_nilCheck (a := (Addr.add a_1 0)) rfl) ?_)
  refine JL_op rfl (op_read rfl rfl (r_fieldAddr (r := Addr.add a_1 2) pu56 (f := Try.pf56.getD 2 default) rfl pi54 (by decide) rfl (Addr.add_add _ _ _)) ?_)
  refine JL_op rfl (op_read rfl rfl (r_load_priv (a := a_1) (off := 2) (cs' := [v_6]) (v := v_6) 0 pu54 pi54 rfl rfl rfl rfl (by decide) rfl) ?_)
  refine JL_op rfl (op_read rfl rfl (r_move (v := .i r_14.1) rfl) ?_)
  refine J_bind fun x_22 hx_23 => ?_
  refine JL_op rfl (op_read rfl rfl (r_index_row (v := v_6) (T := (T6).o) (q := x_22) 3 pu54 pi85 rfl rfl rfl rfl hx_23) ?_)
  refine JL_op rfl (op_read rfl rfl (r_fieldAddr (r := elemAddr v_6 ((r_14.1).toNat * ((T6).o).size + 2)) pu85 (f := Try.pf85.getD 2 default) rfl pi74 (by decide) rfl (elemAddr_add _ _ _)) ?_)
  refine JL_op rfl (op_read rfl rfl (r_fieldAddr (r := elemAddr v_6 ((r_14.1).toNat * ((T6).o).size + 3)) pu74 (f := Try.pf74.getD 1 default) rfl pi2 (by decide) rfl (elemAddr_add _ _ _)) ?_)
  refine JL_op rfl (op_reads rfl rfl (l_elem_orow (v := v_6) (T := (T6).o) (Tf := (tInt .i64)) (q := x_22) (i := r_14.1) (off := 3) 3 pu2 pi2 rfl rfl rfl rfl hx_23 (OFieldAt.comp (OFieldAt.of f_Glychgateref06_Cell_V) f_Glychgateref06_Value_N (by decide)) (by decide)) ?_)
  intro v_24 h_25
  obtain rfl := tInt_v.1 h_25
  refine JL_op rfl (op_read rfl rfl (r_neq rfl rfl) ?_)
  refine JL_nil ?_
  refine J_then ?_
  refine J_cond rfl (fun hc_26 => ?_) (fun hc_26 => ?_)
  ·refine J_seq ?_
   refine J_region ?_
   refine JL_op rfl (op_read rfl rfl (r_assign (v := .bool false) rfl) ?_)
   refine JL_op rfl (op_read rfl rfl (r_assign (v := .i 0) rfl) ?_)
   refine JL_nil ?_
   refine J_then ?_
   refine J_ret ?_
   refine J_then_ret ?_
   exact J_returnV2 (PV' := [.cell a_1 [v_2, v_4, v_6, .i Used_8], .row (tBool).o 4 v_2 x_3, .row ((tInt .i64)).o 2 v_4 x_5, .row (T6).o 85 v_6 x_7]) rfl rv_tmp rv_tmp [0, 1, 2, 3] (by decide) rfl ⟨rfl, rfl, rfl⟩
  ·refine J_skip ?_
   refine J_then ?_
   refine J_seq ?_
   refine J_region ?_
   refine JL_op rfl (op_read rfl rfl (r_move (v := .pointer (some (Addr.add a_1 0))) rfl) ?_)
   refine JL_op rfl (op_read rfl rfl (r_nilCheck (a := (Addr.add a_1 0)) rfl) ?_)
   refine JL_op rfl (op_read rfl rfl (r_fieldAddr (r := Addr.add a_1 2) pu56 (f := Try.pf56.getD 2 default) rfl pi54 (by decide) rfl (Addr.add_add _ _ _)) ?_)
   refine JL_op rfl (op_read rfl rfl (r_load_priv (a := a_1) (off := 2) (cs' := [v_6]) (v := v_6) 0 pu54 pi54 rfl rfl rfl rfl (by decide) rfl) ?_)
   refine JL_op rfl (op_read rfl rfl (r_move (v := .i r_14.1) rfl) ?_)
   refine JL_op rfl (op_read rfl rfl (r_index_row (v := v_6) (T := (T6).o) (q := x_22) 3 pu54 pi85 rfl rfl rfl rfl hx_23) ?_)
   refine JL_op rfl (op_read rfl rfl (r_fieldAddr (r := elemAddr v_6 ((r_14.1).toNat * ((T6).o).size + 2)) pu85 (f := Try.pf85.getD 2 default) rfl pi74 (by decide) rfl (elemAddr_add _ _ _)) ?_)
   refine JL_op rfl (op_read rfl rfl (r_fieldAddr (r := elemAddr v_6 ((r_14.1).toNat * ((T6).o).size + 3)) pu74 (f := Try.pf74.getD 1 default) rfl pi2 (by decide) rfl (elemAddr_add _ _ _)) ?_)
   refine J_select (PV' := [.row (T6).o 85 v_6 x_7, .cell a_1 [v_2, v_4, v_6, .i Used_8], .row (tBool).o 4 v_2 x_3, .row ((tInt .i64)).o 2 v_4 x_5, .cell c_12 [.i p_10.Kind, .i p_10.N, .i p_10.Block]]) [3, 0, 1, 2, 4] (by decide) rfl ?_
   refine J_take (T := (T6).o) (i := r_14.1) hx_23 fun u_28 hu_27 => ?_
   change J _ _ _ _ _ _ _ _ [.hole (fun x => .elem (T6).o (elemAddr v_6 ((r_14.1).toNat * ((T6).o).size)) x) (fun x => .row (T6).o 85 v_6 (Sl.set x_7 r_14.1 x)), .cell (elemAddr v_6 ((r_14.1).toNat * ((T6).o).size)) [.i x_22.Block, .i x_22.Number, .i x_22.V.Kind, .i x_22.V.N, .i x_22.V.Block, .i x_22.Readers, .bool x_22.Writer], .cell a_1 [v_2, v_4, v_6, .i Used_8], .row (tBool).o 4 v_2 x_3, .row ((tInt .i64)).o 2 v_4 x_5, .cell c_12 [.i p_10.Kind, .i p_10.N, .i p_10.Block]]
   refine JL_op rfl (op_store_priv (a := (elemAddr v_6 ((r_14.1).toNat * ((T6).o).size))) (off := 3) (vs := [.i 1]) (cs' := [.i x_22.Block, .i x_22.Number, .i x_22.V.Kind, .i 1, .i x_22.V.Block, .i x_22.Readers, .bool x_22.Writer]) (PV' := [.hole (fun x => .elem (T6).o (elemAddr v_6 ((r_14.1).toNat * ((T6).o).size)) x) (fun x => .row (T6).o 85 v_6 (Sl.set x_7 r_14.1 x)), .cell (elemAddr v_6 ((r_14.1).toNat * ((T6).o).size)) [.i x_22.Block, .i x_22.Number, .i x_22.V.Kind, .i 1, .i x_22.V.Block, .i x_22.Readers, .bool x_22.Writer], .cell a_1 [v_2, v_4, v_6, .i Used_8], .row (tBool).o 4 v_2 x_3, .row ((tInt .i64)).o 2 v_4 x_5, .cell c_12 [.i p_10.Kind, .i p_10.N, .i p_10.Block]]) 1 pi2 (pe_add v_6 ((r_14.1).toNat * ((T6).o).size) 3) rfl rfl ⟨rfl, trivial⟩ rfl rfl rfl rfl rfl ?_)
   refine JL_nil ?_
   refine J_then ?_
   refine J_seq ?_
   refine J_region ?_
   refine JL_op rfl (op_read rfl rfl (r_assign (v := .bool true) rfl) ?_)
   refine JL_op rfl (op_read rfl rfl (r_assign (v := .i 0) rfl) ?_)
   refine JL_nil ?_
   refine J_then ?_
   refine J_ret ?_
   refine J_put (T := (T6).o) (i := r_14.1) (s := x_7) (s' := (Sl.set x_7 r_14.1 (⟨x_22.Block, x_22.Number, (⟨x_22.V.Kind, 1, x_22.V.Block⟩ : Glychgateref06_Value), x_22.Readers, x_22.Writer⟩ : Glychgateref06_Cell))) (A := []) (C := [.cell a_1 [v_2, v_4, v_6, .i Used_8], .row (tBool).o 4 v_2 x_3, .row ((tInt .i64)).o 2 v_4 x_5, .cell c_12 [.i p_10.Kind, .i p_10.N, .i p_10.Block]]) (⟨x_22.Block, x_22.Number, (⟨x_22.V.Kind, 1, x_22.V.Block⟩ : Glychgateref06_Value), x_22.Readers, x_22.Writer⟩ : Glychgateref06_Cell) () trivial rfl rfl rfl ?_
   exact J_returnV2 (PV' := [.cell a_1 [v_2, v_4, v_6, .i Used_8], .row (tBool).o 4 v_2 x_3, .row ((tInt .i64)).o 2 v_4 x_5, .row (T6).o 85 v_6 (Sl.set x_7 r_14.1 (⟨x_22.Block, x_22.Number, (⟨x_22.V.Kind, 1, x_22.V.Block⟩ : Glychgateref06_Value), x_22.Readers, x_22.Writer⟩ : Glychgateref06_Cell))]) rfl rv_tmp rv_tmp [1, 2, 3, 0] (by decide) rfl ⟨rfl, rfl, rfl⟩
end Go.Px
