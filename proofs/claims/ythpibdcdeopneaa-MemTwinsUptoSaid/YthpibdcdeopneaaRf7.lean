/- The calls do what the models say, part 7. -/
import Derived.Test.YthpibdcdeopneaaMd
import Derived.Test.YthpibdcdeopneaaRf1
import Derived.Test.YthpibdcdeopneaaRf2
import Derived.Test.YthpibdcdeopneaaRf3
import Derived.Test.YthpibdcdeopneaaRf4
import Derived.Test.YthpibdcdeopneaaRf5
import Derived.Test.YthpibdcdeopneaaRf6
namespace Go.Px
open Go.Proofs
set_option linter.unusedVariables false
def lychgateref06_Unlock_post (σ0 : FS) (a_1 : Addr) (v_2 : Value) (x_3 : Sl Bool) (v_4 : Value) (x_5 : Sl Int) (v_6 : Value) (x_7 : Sl Glychgateref06_Cell) (Used_8 : Int) (v_9 : Value) (p_10 : Glychgateref06_Value) (r : Int × (Sl Glychgateref06_Cell)) (σ : FS) (PV : List Priv) (v : Value) : Prop :=
 σ0 = σ ∧ .i r.1 = v ∧ PV = [.cell a_1 [v_2, v_4, v_6, .i Used_8], .row (tBool).o 4 v_2 x_3, .row ((tInt .i64)).o 2 v_4 x_5, .row (T6).o 85 v_6 r.2]
set_option maxRecDepth 100000 in
theorem lychgateref06_Unlock_ref (s : Start) (σ : FS) (a_1 : Addr) (v_2 : Value) (x_3 : Sl Bool) (v_4 : Value) (x_5 : Sl Int) (v_6 : Value) (x_7 : Sl Glychgateref06_Cell) (Used_8 : Int) (v_9 : Value) (p_10 : Glychgateref06_Value) (h_11 : T4.vrel σ v_9 p_10) (hs : Pre s σ [.cell a_1 [v_2, v_4, v_6, .i Used_8], .row (tBool).o 4 v_2 x_3, .row ((tInt .i64)).o 2 v_4 x_5, .row (T6).o 85 v_6 x_7]) (r : Int × (Sl Glychgateref06_Cell)) (hr : lychgateref06_Unlock x_3 x_5 x_7 Used_8 p_10 = some r) : Does Try.prog 36 [.pointer (some (Addr.add a_1 0)), v_9] s σ (lychgateref06_Unlock_post σ a_1 v_2 x_3 v_4 x_5 v_6 x_7 Used_8 v_9 p_10 r) := by
 unfold lychgateref06_Unlock at hr
 obtain rfl := T4_v.1 h_11
 refine does_of_J Try.func36 rfl (n := 24) rfl rfl hs hr ?_
 refine J_seq ?_
 refine J_region ?_
 refine JL_op rfl (op_box (cs := [.i p_10.Kind, .i p_10.N, .i p_10.Block]) rfl rfl ?_)
 intro c_12
 refine JL_op rfl (op_read rfl rfl (r_assign (v := .i 0) rfl) ?_)
 refine JL_nil ?_
 refine J_then ?_
 refine J_seq ?_
 refine J_region ?_
 refine JL_op rfl (op_read rfl rfl (r_move (v := .pointer (some (Addr.add a_1 0))) rfl) ?_)
 refine JL_op rfl (op_read rfl rfl (r_load_priv (a := c_12) (off := 0) (cs' := [.i p_10.Kind, .i p_10.N, .i p_10.Block]) (v := .agg #[.i p_10.Kind, .i p_10.N, .i p_10.Block]) 0 pu74 pi74 rfl rfl rfl rfl (by decide) rfl) ?_)
 refine J_select (PV' := [.cell a_1 [v_2, v_4, v_6, .i Used_8], .row (tBool).o 4 v_2 x_3, .row ((tInt .i64)).o 2 v_4 x_5, .row (T6).o 85 v_6 x_7, .cell c_12 [.i p_10.Kind, .i p_10.N, .i p_10.Block]]) [1, 2, 3, 4, 0] (by decide) rfl ?_
 refine JL_op rfl (op_call (f := 40) (fn := Try.f40) (args := [.pointer (some (Addr.add a_1 0)), .agg #[.i p_10.Kind, .i p_10.N, .i p_10.Block]]) (post := lychgateref06_whole_post σ a_1 v_2 x_3 v_4 x_5 v_6 x_7 Used_8 (.agg #[.i p_10.Kind, .i p_10.N, .i p_10.Block]) p_10) [.cell a_1 [v_2, v_4, v_6, .i Used_8], .row (tBool).o 4 v_2 x_3, .row ((tInt .i64)).o 2 v_4 x_5, .row (T6).o 85 v_6 x_7] [.cell c_12 [.i p_10.Kind, .i p_10.N, .i p_10.Block]] rfl rfl rfl Try.func40 pn40 rfl rfl (fun y st hy hpre => lychgateref06_whole_ref st σ a_1 v_2 x_3 v_4 x_5 v_6 x_7 Used_8 (.agg #[.i p_10.Kind, .i p_10.N, .i p_10.Block]) p_10 (T4_v.2 rfl) hpre y hy) ?_)
 intro r_14 v_16 s_19 PV_17 hr_15 hle_20 hp_18
 obtain ⟨rfl, rfl, rfl⟩ := hp_18
 refine JL_op rfl (op_read rfl rfl (r_move (v := .tuple #[.i r_14.1, .i r_14.2]) rfl) ?_)
 refine JL_op rfl (op_read rfl rfl (r_extract (v := .i r_14.1) rfl rfl) ?_)
 refine JL_op rfl (op_read rfl rfl (r_extract (v := .i r_14.2) rfl rfl) ?_)
 refine JL_op rfl (op_read rfl rfl (r_assign (v := .i r_14.1) rfl) ?_)
 refine JL_op rfl (op_read rfl rfl (r_assign (v := .i r_14.2) rfl) ?_)
 refine JL_nil ?_
 refine J_then ?_
 refine J_seq ?_
 refine J_seq ?_
 refine J_region ?_
 refine JL_op rfl (op_read rfl rfl (r_move (v := .i r_14.2) rfl) ?_)
 refine JL_op rfl (op_read rfl rfl (r_eql rfl rfl) ?_)
 refine JL_nil ?_
 refine J_then ?_
 refine J_cut (fun (y : (Sl Glychgateref06_Cell)) e L τ PV => e = .normal ∧ (σ = τ ∧ L = [(6, .i r_14.2)] ∧ PV = [.cell a_1 [v_2, v_4, v_6, .i Used_8], .row (tBool).o 4 v_2 x_3, .row ((tInt .i64)).o 2 v_4 x_5, .row (T6).o 85 v_6 y])) ?_ ?_
 ·refine J_cond rfl (fun hc_21 => ?_) (fun hc_21 => ?_)
  ·refine J_region ?_
   refine JL_op rfl (op_read rfl rfl (r_move (v := .pointer (some (Addr.add a_1 0))) rfl) ?_)
   refine JL_op rfl (op_read rfl rfl (r_nilCheck (a := (Addr.add a_1 0)) rfl) ?_)
   refine JL_op rfl (op_read rfl rfl (r_fieldAddr (r := Addr.add a_1 2) pu56 (f := Try.pf56.getD 2 default) rfl pi54 (by decide) rfl (Addr.add_add _ _ _)) ?_)
   refine JL_op rfl (op_read rfl rfl (r_load_priv (a := a_1) (off := 2) (cs' := [v_6]) (v := v_6) 0 pu54 pi54 rfl rfl rfl rfl (by decide) rfl) ?_)
   refine JL_op rfl (op_read rfl rfl (r_move (v := .i r_14.1) rfl) ?_)
   refine J_bind fun x_22 hx_23 => ?_
   refine JL_op rfl (op_read rfl rfl (r_index_row (v := v_6) (T := (T6).o) (q := x_22) 3 pu54 pi85 rfl rfl rfl rfl hx_23) ?_)
   refine JL_op rfl (op_read rfl rfl (r_fieldAddr (r := elemAddr v_6 ((r_14.1).toNat * ((T6).o).size + 2)) pu85 (f := Try.pf85.getD 2 default) rfl pi74 (by decide) rfl (elemAddr_add _ _ _)) ?_)
   refine JL_op rfl (op_read rfl rfl (r_fieldAddr (r := elemAddr v_6 ((r_14.1).toNat * ((T6).o).size + 3)) pu74 (f := Try.pf74.getD 1 default) rfl pi2 (by decide) rfl (elemAddr_add _ _ _)) ?_)
   refine J_select (PV' := [.row (T6).o 85 v_6 x_7, .cell a_1 [v_2, v_4, v_6, .i Used_8], .row (tBool).o 4 v_2 x_3, .row ((tInt .i64)).o 2 v_4 x_5, .cell c_12 [.i p_10.Kind, .i p_10.N, .i p_10.Block]]) [3, 0, 1, 2, 4] (by decide) rfl ?_
   refine J_take (T := (T6).o) (i := r_14.1) hx_23 fun u_25 hu_24 => ?_
   change J _ _ _ _ _ _ _ _ [.hole (fun x => .elem (T6).o (elemAddr v_6 ((r_14.1).toNat * ((T6).o).size)) x) (fun x => .row (T6).o 85 v_6 (Sl.set x_7 r_14.1 x)), .cell (elemAddr v_6 ((r_14.1).toNat * ((T6).o).size)) [.i x_22.Block, .i x_22.Number, .i x_22.V.Kind, .i x_22.V.N, .i x_22.V.Block, .i x_22.Readers, .bool x_22.Writer], .cell a_1 [v_2, v_4, v_6, .i Used_8], .row (tBool).o 4 v_2 x_3, .row ((tInt .i64)).o 2 v_4 x_5, .cell c_12 [.i p_10.Kind, .i p_10.N, .i p_10.Block]]
   refine JL_op rfl (op_store_priv (a := (elemAddr v_6 ((r_14.1).toNat * ((T6).o).size))) (off := 3) (vs := [.i 0]) (cs' := [.i x_22.Block, .i x_22.Number, .i x_22.V.Kind, .i 0, .i x_22.V.Block, .i x_22.Readers, .bool x_22.Writer]) (PV' := [.hole (fun x => .elem (T6).o (elemAddr v_6 ((r_14.1).toNat * ((T6).o).size)) x) (fun x => .row (T6).o 85 v_6 (Sl.set x_7 r_14.1 x)), .cell (elemAddr v_6 ((r_14.1).toNat * ((T6).o).size)) [.i x_22.Block, .i x_22.Number, .i x_22.V.Kind, .i 0, .i x_22.V.Block, .i x_22.Readers, .bool x_22.Writer], .cell a_1 [v_2, v_4, v_6, .i Used_8], .row (tBool).o 4 v_2 x_3, .row ((tInt .i64)).o 2 v_4 x_5, .cell c_12 [.i p_10.Kind, .i p_10.N, .i p_10.Block]]) 1 pi2 (pe_add v_6 ((r_14.1).toNat * ((T6).o).size) 3) rfl rfl ⟨rfl, trivial⟩ rfl rfl rfl rfl rfl ?_)
   refine JL_nil ?_
   refine J_put (T := (T6).o) (i := r_14.1) (s := x_7) (s' := (Sl.set x_7 r_14.1 (⟨x_22.Block, x_22.Number, (⟨x_22.V.Kind, 0, x_22.V.Block⟩ : Glychgateref06_Value), x_22.Readers, x_22.Writer⟩ : Glychgateref06_Cell))) (A := []) (C := [.cell a_1 [v_2, v_4, v_6, .i Used_8], .row (tBool).o 4 v_2 x_3, .row ((tInt .i64)).o 2 v_4 x_5, .cell c_12 [.i p_10.Kind, .i p_10.N, .i p_10.Block]]) (⟨x_22.Block, x_22.Number, (⟨x_22.V.Kind, 0, x_22.V.Block⟩ : Glychgateref06_Value), x_22.Readers, x_22.Writer⟩ : Glychgateref06_Cell) () trivial rfl rfl rfl ?_
   refine J_select (PV' := [.cell a_1 [v_2, v_4, v_6, .i Used_8], .row (tBool).o 4 v_2 x_3, .row ((tInt .i64)).o 2 v_4 x_5, .row (T6).o 85 v_6 (Sl.set x_7 r_14.1 (⟨x_22.Block, x_22.Number, (⟨x_22.V.Kind, 0, x_22.V.Block⟩ : Glychgateref06_Value), x_22.Readers, x_22.Writer⟩ : Glychgateref06_Cell))]) [1, 2, 3, 0] (by decide) rfl ?_
   refine J_cut_end _ ?_ ⟨rfl, rfl, rfl, rfl⟩ trivial
   exact ⟨rfl, trivial⟩
  ·refine J_skip ?_
   refine J_select (PV' := [.cell a_1 [v_2, v_4, v_6, .i Used_8], .row (tBool).o 4 v_2 x_3, .row ((tInt .i64)).o 2 v_4 x_5, .row (T6).o 85 v_6 x_7]) [0, 1, 2, 3] (by decide) rfl ?_
   refine J_cut_end _ ?_ ⟨rfl, rfl, rfl, rfl⟩ trivial
   exact ⟨rfl, trivial⟩
 ·rintro y_27 _ _ b s_30 _ ⟨rfl, ⟨rfl, rfl, rfl⟩⟩
  refine J_then ?_
  refine J_seq ?_
  refine J_region ?_
  refine JL_op rfl (op_read rfl rfl (r_move (v := .i r_14.2) rfl) ?_)
  refine JL_op rfl (op_read rfl rfl (r_assign (v := .i r_14.2) rfl) ?_)
  refine JL_nil ?_
  refine J_then ?_
  refine J_ret ?_
  exact J_returnV1 (PV' := [.cell a_1 [v_2, v_4, v_6, .i Used_8], .row (tBool).o 4 v_2 x_3, .row ((tInt .i64)).o 2 v_4 x_5, .row (T6).o 85 v_6 y_27]) rfl rv_tmp [0, 1, 2, 3] (by decide) rfl ⟨rfl, rfl, rfl⟩
def lychgatelaw06_step_post (σ0 : FS) (a_1 : Addr) (v_2 : Value) (x_3 : Sl Gmem_Block) (used_4 : Int) (a_5 : Addr) (v_6 : Value) (x_7 : Sl Bool) (v_8 : Value) (x_9 : Sl Int) (v_10 : Value) (x_11 : Sl Glychgateref06_Cell) (Used_12 : Int) (v_13 : Value) (o_14 : Glychgatelaw06_Op) (r : Bool × (Sl Gmem_Block) × Int × (Sl Bool) × (Sl Int) × (Sl Glychgateref06_Cell) × Int) (σ : FS) (PV : List Priv) (v : Value) : Prop :=
 ∃ (w0 : Value) (w1 : Value) (w2 : Value) (w3 : Value), σ0 = σ ∧ .bool r.1 = v ∧ PV = [.cell a_1 [w0, .i r.2.2.1], .row O11 45 w0 r.2.1, .cell a_5 [w1, w2, w3, .i r.2.2.2.2.2.2], .row (tBool).o 4 w1 r.2.2.2.1, .row ((tInt .i64)).o 2 w2 r.2.2.2.2.1, .row (T6).o 85 w3 r.2.2.2.2.2.1]
set_option maxRecDepth 100000 in
theorem lychgatelaw06_step_ref (s : Start) (σ : FS) (a_1 : Addr) (v_2 : Value) (x_3 : Sl Gmem_Block) (used_4 : Int) (a_5 : Addr) (v_6 : Value) (x_7 : Sl Bool) (v_8 : Value) (x_9 : Sl Int) (v_10 : Value) (x_11 : Sl Glychgateref06_Cell) (Used_12 : Int) (v_13 : Value) (o_14 : Glychgatelaw06_Op) (h_15 : T7.vrel σ v_13 o_14) (hs : Pre s σ [.cell a_1 [v_2, .i used_4], .row O11 45 v_2 x_3, .cell a_5 [v_6, v_8, v_10, .i Used_12], .row (tBool).o 4 v_6 x_7, .row ((tInt .i64)).o 2 v_8 x_9, .row (T6).o 85 v_10 x_11]) (r : Bool × (Sl Gmem_Block) × Int × (Sl Bool) × (Sl Int) × (Sl Glychgateref06_Cell) × Int) (hr : lychgatelaw06_step x_3 used_4 x_7 x_9 x_11 Used_12 o_14 = some r) : Does Try.prog 20 [.pointer (some (Addr.add a_1 0)), .pointer (some (Addr.add a_5 0)), v_13] s σ (lychgatelaw06_step_post σ a_1 v_2 x_3 used_4 a_5 v_6 x_7 v_8 x_9 v_10 x_11 Used_12 v_13 o_14 r) := by
 unfold lychgatelaw06_step at hr
 obtain rfl := T7_v.1 h_15
 refine does_of_J Try.func20 rfl (n := 142) rfl rfl hs hr ?_
 refine J_seq ?_
 refine J_region ?_
 refine JL_op rfl (op_box (cs := [.i o_14.Kind, .i o_14.P.Kind, .i o_14.P.N, .i o_14.P.Block, .i o_14.V.Kind, .i o_14.V.N, .i o_14.V.Block, .bool o_14.Write]) rfl rfl ?_)
 intro c_16
 refine JL_op rfl (op_read rfl rfl (r_assign (v := .bool false) rfl) ?_)
 refine JL_nil ?_
 refine J_then ?_
 refine J_seq ?_
 refine J_region ?_
 refine JL_op rfl (op_read rfl rfl (r_fieldAddr (r := Addr.add c_16 1) pu58 (f := Try.pf58.getD 1 default) rfl pi29 (by decide) rfl (Addr.add_add _ _ _)) ?_)
 refine JL_op rfl (op_read rfl rfl (r_load_priv (a := c_16) (off := 1) (cs' := [.i o_14.P.Kind, .i o_14.P.N, .i o_14.P.Block]) (v := .agg #[.i o_14.P.Kind, .i o_14.P.N, .i o_14.P.Block]) 0 pu29 pi29 rfl rfl rfl rfl (by decide) rfl) ?_)
 refine JL_op rfl (op_call (f := 30) (fn := Try.f30) (args := [.agg #[.i o_14.P.Kind, .i o_14.P.N, .i o_14.P.Block]]) (post := lychgatelaw06_val_post σ (.agg #[.i o_14.P.Kind, .i o_14.P.N, .i o_14.P.Block]) o_14.P) [] [.cell c_16 [.i o_14.Kind, .i o_14.P.Kind, .i o_14.P.N, .i o_14.P.Block, .i o_14.V.Kind, .i o_14.V.N, .i o_14.V.Block, .bool o_14.Write], .cell a_1 [v_2, .i used_4], .row O11 45 v_2 x_3, .cell a_5 [v_6, v_8, v_10, .i Used_12], .row (tBool).o 4 v_6 x_7, .row ((tInt .i64)).o 2 v_8 x_9, .row (T6).o 85 v_10 x_11] rfl rfl rfl Try.func30 pn30 rfl rfl (fun y st hy hpre => lychgatelaw06_val_ref st σ (.agg #[.i o_14.P.Kind, .i o_14.P.N, .i o_14.P.Block]) o_14.P (T13_v.2 rfl) hpre y hy) ?_)
 intro r_18 v_20 s_23 PV_21 hr_19 hle_24 hp_22
 obtain ⟨rfl, rfl, rfl⟩ := hp_22
 refine JL_op rfl (op_alloc (cs := [.i 0, .i 0, .i 0]) rfl pi74 rfl rfl ?_)
 intro c_25
 refine JL_op rfl (op_store_priv (a := c_25) (off := 0) (vs := [.i o_14.P.Kind, .i o_14.P.N, .i o_14.P.Block]) (cs' := [.i o_14.P.Kind, .i o_14.P.N, .i o_14.P.Block]) (PV' := [.cell c_25 [.i o_14.P.Kind, .i o_14.P.N, .i o_14.P.Block], .cell c_16 [.i o_14.Kind, .i o_14.P.Kind, .i o_14.P.N, .i o_14.P.Block, .i o_14.V.Kind, .i o_14.V.N, .i o_14.V.Block, .bool o_14.Write], .cell a_1 [v_2, .i used_4], .row O11 45 v_2 x_3, .cell a_5 [v_6, v_8, v_10, .i Used_12], .row (tBool).o 4 v_6 x_7, .row ((tInt .i64)).o 2 v_8 x_9, .row (T6).o 85 v_10 x_11]) 0 pi74 rfl rfl rfl ⟨rfl, rfl, rfl, trivial⟩ rfl rfl rfl rfl rfl ?_)
 refine JL_nil ?_
 refine J_then ?_
 refine J_seq ?_
 refine J_seq ?_
 refine J_region ?_
 refine JL_op rfl (op_read rfl rfl (r_fieldAddr (r := Addr.add c_16 0) pu58 (f := Try.pf58.getD 0 default) rfl pi3 (by decide) rfl (Addr.add_add _ _ _)) ?_)
 refine JL_op rfl (op_read rfl rfl (r_load_priv (a := c_16) (off := 0) (cs' := [.i o_14.Kind]) (v := .i o_14.Kind) 1 pu3 pi3 rfl rfl rfl rfl (by decide) rfl) ?_)
 refine JL_nil ?_
 refine J_then ?_
 refine J_block ?_
 refine J_seq ?_
 refine J_region ?_
 refine JL_op rfl (op_read rfl rfl (r_eql rfl rfl) ?_)
 refine JL_op rfl (op_read rfl rfl (r_assign (v := .bool (decide (o_14.Kind = 1))) rfl) ?_)
 refine JL_nil ?_
 refine J_then ?_
 refine J_cond rfl (fun hc_27 => ?_) (fun hc_27 => ?_)
 ·refine J_seq ?_
  refine J_region ?_
  refine JL_op rfl (op_read rfl rfl (r_move (v := .pointer (some (Addr.add a_1 0))) rfl) ?_)
  refine JL_op rfl (op_read rfl rfl (r_fieldAddr (r := Addr.add c_16 1) pu58 (f := Try.pf58.getD 1 default) rfl pi29 (by decide) rfl (Addr.add_add _ _ _)) ?_)
  refine JL_op rfl (op_read rfl rfl (r_fieldAddr (r := Addr.add c_16 2) pu29 (f := Try.pf29.getD 1 default) rfl pi2 (by decide) rfl (Addr.add_add _ _ _)) ?_)
  refine JL_op rfl (op_read rfl rfl (r_load_priv (a := c_16) (off := 2) (cs' := [.i o_14.P.N]) (v := .i o_14.P.N) 1 pu2 pi2 rfl rfl rfl rfl (by decide) rfl) ?_)
  refine J_select (PV' := [.cell a_1 [v_2, .i used_4], .row O11 45 v_2 x_3, .cell c_25 [.i o_14.P.Kind, .i o_14.P.N, .i o_14.P.Block], .cell c_16 [.i o_14.Kind, .i o_14.P.Kind, .i o_14.P.N, .i o_14.P.Block, .i o_14.V.Kind, .i o_14.V.N, .i o_14.V.Block, .bool o_14.Write], .cell a_5 [v_6, v_8, v_10, .i Used_12], .row (tBool).o 4 v_6 x_7, .row ((tInt .i64)).o 2 v_8 x_9, .row (T6).o 85 v_10 x_11]) [2, 3, 0, 1, 4, 5, 6, 7] (by decide) rfl ?_
  refine JL_op rfl (op_call (f := 12) (fn := Try.f12) (args := [.pointer (some (Addr.add a_1 0)), .i o_14.P.N]) (post := mem_Memory_Alloc_post σ a_1 v_2 x_3 used_4 o_14.P.N) [.cell a_1 [v_2, .i used_4], .row O11 45 v_2 x_3] [.cell c_25 [.i o_14.P.Kind, .i o_14.P.N, .i o_14.P.Block], .cell c_16 [.i o_14.Kind, .i o_14.P.Kind, .i o_14.P.N, .i o_14.P.Block, .i o_14.V.Kind, .i o_14.V.N, .i o_14.V.Block, .bool o_14.Write], .cell a_5 [v_6, v_8, v_10, .i Used_12], .row (tBool).o 4 v_6 x_7, .row ((tInt .i64)).o 2 v_8 x_9, .row (T6).o 85 v_10 x_11] rfl rfl rfl Try.func12 pn12 rfl rfl (fun y st hy hpre => mem_Memory_Alloc_ref st σ a_1 v_2 x_3 used_4 o_14.P.N hpre y hy) ?_)
  intro r_28 v_30 s_33 PV_31 hr_29 hle_34 hp_32
  obtain ⟨v_35, rfl, rfl, rfl⟩ := hp_32
  refine JL_op rfl (op_read rfl rfl (r_move (v := .tuple #[.agg #[.i r_28.1.Kind, .i r_28.1.N, .i r_28.1.Block], .bool r_28.2.1]) rfl) ?_)
  refine JL_op rfl (op_read rfl rfl (r_extract (v := .agg #[.i r_28.1.Kind, .i r_28.1.N, .i r_28.1.Block]) rfl rfl) ?_)
  refine JL_op rfl (op_read rfl rfl (r_extract (v := .bool r_28.2.1) rfl rfl) ?_)
  refine JL_op rfl (op_alloc (cs := [.i 0, .i 0, .i 0]) rfl pi29 rfl rfl ?_)
  intro c_36
  refine JL_op rfl (op_store_priv (a := c_36) (off := 0) (vs := [.i r_28.1.Kind, .i r_28.1.N, .i r_28.1.Block]) (cs' := [.i r_28.1.Kind, .i r_28.1.N, .i r_28.1.Block]) (PV' := [.cell c_36 [.i r_28.1.Kind, .i r_28.1.N, .i r_28.1.Block], .cell a_1 [v_35, .i r_28.2.2.2], .row O11 45 v_35 r_28.2.2.1, .cell c_25 [.i o_14.P.Kind, .i o_14.P.N, .i o_14.P.Block], .cell c_16 [.i o_14.Kind, .i o_14.P.Kind, .i o_14.P.N, .i o_14.P.Block, .i o_14.V.Kind, .i o_14.V.N, .i o_14.V.Block, .bool o_14.Write], .cell a_5 [v_6, v_8, v_10, .i Used_12], .row (tBool).o 4 v_6 x_7, .row ((tInt .i64)).o 2 v_8 x_9, .row (T6).o 85 v_10 x_11]) 0 pi29 rfl rfl rfl ⟨rfl, rfl, rfl, trivial⟩ rfl rfl rfl rfl rfl ?_)
  refine JL_op rfl (op_read rfl rfl (r_assign (v := .bool r_28.2.1) rfl) ?_)
  refine JL_nil ?_
  refine J_then ?_
  refine J_seq ?_
  refine J_region ?_
  refine JL_op rfl (op_read rfl rfl (r_move (v := .pointer (some (Addr.add a_5 0))) rfl) ?_)
  refine JL_op rfl (op_read rfl rfl (r_fieldAddr (r := Addr.add c_16 1) pu58 (f := Try.pf58.getD 1 default) rfl pi29 (by decide) rfl (Addr.add_add _ _ _)) ?_)
  refine JL_op rfl (op_read rfl rfl (r_fieldAddr (r := Addr.add c_16 2) pu29 (f := Try.pf29.getD 1 default) rfl pi2 (by decide) rfl (Addr.add_add _ _ _)) ?_)
  refine JL_op rfl (op_read rfl rfl (r_load_priv (a := c_16) (off := 2) (cs' := [.i o_14.P.N]) (v := .i o_14.P.N) 4 pu2 pi2 rfl rfl rfl rfl (by decide) rfl) ?_)
  refine J_select (PV' := [.cell a_5 [v_6, v_8, v_10, .i Used_12], .row (tBool).o 4 v_6 x_7, .row ((tInt .i64)).o 2 v_8 x_9, .row (T6).o 85 v_10 x_11, .cell c_36 [.i r_28.1.Kind, .i r_28.1.N, .i r_28.1.Block], .cell a_1 [v_35, .i r_28.2.2.2], .row O11 45 v_35 r_28.2.2.1, .cell c_25 [.i o_14.P.Kind, .i o_14.P.N, .i o_14.P.Block], .cell c_16 [.i o_14.Kind, .i o_14.P.Kind, .i o_14.P.N, .i o_14.P.Block, .i o_14.V.Kind, .i o_14.V.N, .i o_14.V.Block, .bool o_14.Write]]) [5, 6, 7, 8, 0, 1, 2, 3, 4] (by decide) rfl ?_
  refine JL_op rfl (op_call (f := 31) (fn := Try.f31) (args := [.pointer (some (Addr.add a_5 0)), .i o_14.P.N]) (post := lychgateref06_Alloc_post σ a_5 v_6 x_7 v_8 x_9 v_10 x_11 Used_12 o_14.P.N) [.cell a_5 [v_6, v_8, v_10, .i Used_12], .row (tBool).o 4 v_6 x_7, .row ((tInt .i64)).o 2 v_8 x_9, .row (T6).o 85 v_10 x_11] [.cell c_36 [.i r_28.1.Kind, .i r_28.1.N, .i r_28.1.Block], .cell a_1 [v_35, .i r_28.2.2.2], .row O11 45 v_35 r_28.2.2.1, .cell c_25 [.i o_14.P.Kind, .i o_14.P.N, .i o_14.P.Block], .cell c_16 [.i o_14.Kind, .i o_14.P.Kind, .i o_14.P.N, .i o_14.P.Block, .i o_14.V.Kind, .i o_14.V.N, .i o_14.V.Block, .bool o_14.Write]] rfl rfl rfl Try.func31 pn31 rfl rfl (fun y st hy hpre => lychgateref06_Alloc_ref st σ a_5 v_6 x_7 v_8 x_9 v_10 x_11 Used_12 o_14.P.N hpre y hy) ?_)
  intro r_38 v_40 s_43 PV_41 hr_39 hle_44 hp_42
  obtain ⟨v_45, v_46, v_47, rfl, rfl, rfl⟩ := hp_42
  refine JL_op rfl (op_read rfl rfl (r_move (v := .tuple #[.agg #[.i r_38.1.Kind, .i r_38.1.N, .i r_38.1.Block], .bool r_38.2.1]) rfl) ?_)
  refine JL_op rfl (op_read rfl rfl (r_extract (v := .agg #[.i r_38.1.Kind, .i r_38.1.N, .i r_38.1.Block]) rfl rfl) ?_)
  refine JL_op rfl (op_read rfl rfl (r_extract (v := .bool r_38.2.1) rfl rfl) ?_)
  refine JL_op rfl (op_alloc (cs := [.i 0, .i 0, .i 0]) rfl pi74 rfl rfl ?_)
  intro c_48
  refine JL_op rfl (op_store_priv (a := c_48) (off := 0) (vs := [.i r_38.1.Kind, .i r_38.1.N, .i r_38.1.Block]) (cs' := [.i r_38.1.Kind, .i r_38.1.N, .i r_38.1.Block]) (PV' := [.cell c_48 [.i r_38.1.Kind, .i r_38.1.N, .i r_38.1.Block], .cell a_5 [v_45, v_46, v_47, .i r_38.2.2.2.2.2], .row (tBool).o 4 v_45 r_38.2.2.1, .row ((tInt .i64)).o 2 v_46 r_38.2.2.2.1, .row (T6).o 85 v_47 r_38.2.2.2.2.1, .cell c_36 [.i r_28.1.Kind, .i r_28.1.N, .i r_28.1.Block], .cell a_1 [v_35, .i r_28.2.2.2], .row O11 45 v_35 r_28.2.2.1, .cell c_25 [.i o_14.P.Kind, .i o_14.P.N, .i o_14.P.Block], .cell c_16 [.i o_14.Kind, .i o_14.P.Kind, .i o_14.P.N, .i o_14.P.Block, .i o_14.V.Kind, .i o_14.V.N, .i o_14.V.Block, .bool o_14.Write]]) 0 pi74 rfl rfl rfl ⟨rfl, rfl, rfl, trivial⟩ rfl rfl rfl rfl rfl ?_)
  refine JL_op rfl (op_read rfl rfl (r_assign (v := .bool r_38.2.1) rfl) ?_)
  refine JL_nil ?_
  refine J_then ?_
  refine J_seq ?_
  refine J_region_any 10 [.cell c_48 [.i r_38.1.Kind, .i r_38.1.N, .i r_38.1.Block], .cell a_5 [v_45, v_46, v_47, .i r_38.2.2.2.2.2], .row (tBool).o 4 v_45 r_38.2.2.1, .row ((tInt .i64)).o 2 v_46 r_38.2.2.2.1, .row (T6).o 85 v_47 r_38.2.2.2.2.1, .cell c_36 [.i r_28.1.Kind, .i r_28.1.N, .i r_28.1.Block], .cell a_1 [v_35, .i r_28.2.2.2], .row O11 45 v_35 r_28.2.2.1, .cell c_25 [.i o_14.P.Kind, .i o_14.P.N, .i o_14.P.Block], .cell c_16 [.i o_14.Kind, .i o_14.P.Kind, .i o_14.P.N, .i o_14.P.Block, .i o_14.V.Kind, .i o_14.V.N, .i o_14.V.Block, .bool o_14.Write]] Try.mixed (by kernel_rfl) fun hns => ?_
  have hS_50 : HeldOK σ [.cell c_48 [.i r_38.1.Kind, .i r_38.1.N, .i r_38.1.Block], .cell a_5 [v_45, v_46, v_47, .i r_38.2.2.2.2.2], .row (tBool).o 4 v_45 r_38.2.2.1, .row ((tInt .i64)).o 2 v_46 r_38.2.2.2.1, .row (T6).o 85 v_47 r_38.2.2.2.2.1, .cell c_36 [.i r_28.1.Kind, .i r_28.1.N, .i r_28.1.Block], .cell a_1 [v_35, .i r_28.2.2.2], .row O11 45 v_35 r_28.2.2.1, .cell c_25 [.i o_14.P.Kind, .i o_14.P.N, .i o_14.P.Block], .cell c_16 [.i o_14.Kind, .i o_14.P.Kind, .i o_14.P.N, .i o_14.P.Block, .i o_14.V.Kind, .i o_14.V.N, .i o_14.V.Block, .bool o_14.Write]] σ [.cell c_48 [.i r_38.1.Kind, .i r_38.1.N, .i r_38.1.Block], .cell a_5 [v_45, v_46, v_47, .i r_38.2.2.2.2.2], .row (tBool).o 4 v_45 r_38.2.2.1, .row ((tInt .i64)).o 2 v_46 r_38.2.2.2.1, .row (T6).o 85 v_47 r_38.2.2.2.2.1, .cell c_36 [.i r_28.1.Kind, .i r_28.1.N, .i r_28.1.Block], .cell a_1 [v_35, .i r_28.2.2.2], .row O11 45 v_35 r_28.2.2.1, .cell c_25 [.i o_14.P.Kind, .i o_14.P.N, .i o_14.P.Block], .cell c_16 [.i o_14.Kind, .i o_14.P.Kind, .i o_14.P.N, .i o_14.P.Block, .i o_14.V.Kind, .i o_14.V.N, .i o_14.V.Block, .bool o_14.Write]] := HeldOK.same [0, 1, 2, 3, 4, 5, 6, 7, 8, 9] (by decide) rfl
  refine JA_take 0 rfl hns (by kernel_rfl) (by kernel_rfl) (by kernel_rfl) rfl (by kernel_rfl) hS_50 rfl rfl rfl (r_load_priv (a := c_36) (off := 0) (cs' := [.i r_28.1.Kind, .i r_28.1.N, .i r_28.1.Block]) (v := .agg #[.i r_28.1.Kind, .i r_28.1.N, .i r_28.1.Block]) 5 pu29 pi29 rfl rfl rfl rfl (by decide) rfl) ?_
  refine JA_take 2 rfl hns (by kernel_rfl) (by kernel_rfl) (by kernel_rfl) rfl (by kernel_rfl) hS_50 rfl rfl rfl (r_load_priv (a := c_48) (off := 0) (cs' := [.i r_38.1.Kind, .i r_38.1.N, .i r_38.1.Block]) (v := .agg #[.i r_38.1.Kind, .i r_38.1.N, .i r_38.1.Block]) 0 pu74 pi74 rfl rfl rfl rfl (by decide) rfl) ?_
  refine JA_op (i := 1) (by kernel_rfl) rfl rfl (op_call (f := 30) (fn := Try.f30) (args := [.agg #[.i r_28.1.Kind, .i r_28.1.N, .i r_28.1.Block]]) (post := lychgatelaw06_val_post σ (.agg #[.i r_28.1.Kind, .i r_28.1.N, .i r_28.1.Block]) r_28.1) [] [.cell c_48 [.i r_38.1.Kind, .i r_38.1.N, .i r_38.1.Block], .cell a_5 [v_45, v_46, v_47, .i r_38.2.2.2.2.2], .row (tBool).o 4 v_45 r_38.2.2.1, .row ((tInt .i64)).o 2 v_46 r_38.2.2.2.1, .row (T6).o 85 v_47 r_38.2.2.2.2.1, .cell c_36 [.i r_28.1.Kind, .i r_28.1.N, .i r_28.1.Block], .cell a_1 [v_35, .i r_28.2.2.2], .row O11 45 v_35 r_28.2.2.1, .cell c_25 [.i o_14.P.Kind, .i o_14.P.N, .i o_14.P.Block], .cell c_16 [.i o_14.Kind, .i o_14.P.Kind, .i o_14.P.N, .i o_14.P.Block, .i o_14.V.Kind, .i o_14.V.N, .i o_14.V.Block, .bool o_14.Write]] rfl rfl rfl Try.func30 pn30 rfl rfl (fun y st hy hpre => lychgatelaw06_val_ref st σ (.agg #[.i r_28.1.Kind, .i r_28.1.N, .i r_28.1.Block]) r_28.1 (T13_v.2 rfl) hpre y hy) ?_)
  intro r_51 v_53 s_56 PV_54 hr_52 hle_57 hp_55
  obtain ⟨rfl, rfl, rfl⟩ := hp_55
  have hS_58 : HeldOK σ [.cell c_48 [.i r_38.1.Kind, .i r_38.1.N, .i r_38.1.Block], .cell a_5 [v_45, v_46, v_47, .i r_38.2.2.2.2.2], .row (tBool).o 4 v_45 r_38.2.2.1, .row ((tInt .i64)).o 2 v_46 r_38.2.2.2.1, .row (T6).o 85 v_47 r_38.2.2.2.2.1, .cell c_36 [.i r_28.1.Kind, .i r_28.1.N, .i r_28.1.Block], .cell a_1 [v_35, .i r_28.2.2.2], .row O11 45 v_35 r_28.2.2.1, .cell c_25 [.i o_14.P.Kind, .i o_14.P.N, .i o_14.P.Block], .cell c_16 [.i o_14.Kind, .i o_14.P.Kind, .i o_14.P.N, .i o_14.P.Block, .i o_14.V.Kind, .i o_14.V.N, .i o_14.V.Block, .bool o_14.Write]] σ [.cell c_48 [.i r_38.1.Kind, .i r_38.1.N, .i r_38.1.Block], .cell a_5 [v_45, v_46, v_47, .i r_38.2.2.2.2.2], .row (tBool).o 4 v_45 r_38.2.2.1, .row ((tInt .i64)).o 2 v_46 r_38.2.2.2.1, .row (T6).o 85 v_47 r_38.2.2.2.2.1, .cell c_36 [.i r_28.1.Kind, .i r_28.1.N, .i r_28.1.Block], .cell a_1 [v_35, .i r_28.2.2.2], .row O11 45 v_35 r_28.2.2.1, .cell c_25 [.i o_14.P.Kind, .i o_14.P.N, .i o_14.P.Block], .cell c_16 [.i o_14.Kind, .i o_14.P.Kind, .i o_14.P.N, .i o_14.P.Block, .i o_14.V.Kind, .i o_14.V.N, .i o_14.V.Block, .bool o_14.Write]] := HeldOK.same [0, 1, 2, 3, 4, 5, 6, 7, 8, 9] (by decide) rfl
  refine ⟨.inr hS_58, ?_⟩
  refine JA_takep 3 rfl hns (by kernel_rfl) (by kernel_rfl) rfl (.inr hS_58) rfl rfl rfl (r_eql_struct (by kernel_rfl) rfl rfl (by decide) (eq_Glychgateref06_Value (x := (⟨r_28.1.Kind, r_28.1.N, r_28.1.Block⟩ : Glychgateref06_Value)) (y := r_38.1))) ?_
  refine JA_takep 4 rfl hns (by kernel_rfl) (by kernel_rfl) rfl (.inr hS_58) rfl rfl rfl (r_move (v := .bool (decide ((⟨r_28.1.Kind, r_28.1.N, r_28.1.Block⟩ : Glychgateref06_Value) = r_38.1))) rfl) ?_
  refine J_forkA (e := (decide ((⟨r_28.1.Kind, r_28.1.N, r_28.1.Block⟩ : Glychgateref06_Value) = r_38.1))) 1 #[true, true, true, true, true, true, true, true, true, false] [(6, .bool false), (51, .bool (decide ((⟨r_28.1.Kind, r_28.1.N, r_28.1.Block⟩ : Glychgateref06_Value) = r_38.1) && (r_28.2.1 == r_38.2.1)))] (fun hc_59 hk => ?_) (fun hc_59 hk => ?_) (fun b => ?_)
  ·refine JA_takepg 5 rfl hns (by kernel_rfl) (by kernel_rfl) rfl (.inr hS_58) rfl rfl hc_59 rfl rfl (r_move (v := .bool r_28.2.1) rfl) ?_
   refine JA_takepg 6 rfl hns (by kernel_rfl) (by kernel_rfl) rfl (.inr hS_58) rfl rfl hc_59 rfl rfl (r_move (v := .bool r_38.2.1) rfl) ?_
   refine JA_takepg 7 rfl hns (by kernel_rfl) (by kernel_rfl) rfl (.inr hS_58) rfl rfl hc_59 rfl rfl (r_beql pu4 rfl rfl) ?_
   refine JA_takep 8 rfl hns (by kernel_rfl) (by kernel_rfl) rfl (.inr hS_58) rfl rfl rfl (r_pick_t (v := .bool (r_28.2.1 == r_38.2.1)) rfl hc_59 rfl) ?_
   refine J_prune [(6, .bool false), (51, .bool (decide ((⟨r_28.1.Kind, r_28.1.N, r_28.1.Block⟩ : Glychgateref06_Value) = r_38.1) && (r_28.2.1 == r_38.2.1)))] ⟨rfl, (by show Value.bool _ = Value.bool _; rw [hc_59]; rfl), trivial⟩ hk
  ·refine JA_skip (y := some (decide ((⟨r_28.1.Kind, r_28.1.N, r_28.1.Block⟩ : Glychgateref06_Value) = r_38.1))) 5 rfl hns (by kernel_rfl) (by kernel_rfl) rfl (.inr hS_58) rfl rfl (by rw [hc_59]; decide) rfl rfl ?_
   refine JA_skip (y := some (decide ((⟨r_28.1.Kind, r_28.1.N, r_28.1.Block⟩ : Glychgateref06_Value) = r_38.1))) 6 rfl hns (by kernel_rfl) (by kernel_rfl) rfl (.inr hS_58) rfl rfl (by rw [hc_59]; decide) rfl rfl ?_
   refine JA_skip (y := some (decide ((⟨r_28.1.Kind, r_28.1.N, r_28.1.Block⟩ : Glychgateref06_Value) = r_38.1))) 7 rfl hns (by kernel_rfl) (by kernel_rfl) rfl (.inr hS_58) rfl rfl (by rw [hc_59]; decide) rfl rfl ?_
   refine JA_takep 8 rfl hns (by kernel_rfl) (by kernel_rfl) rfl (.inr hS_58) rfl rfl rfl (r_pick_f (v := .bool false) rfl hc_59 rfl) ?_
   refine J_prune [(6, .bool false), (51, .bool (decide ((⟨r_28.1.Kind, r_28.1.N, r_28.1.Block⟩ : Glychgateref06_Value) = r_38.1) && (r_28.2.1 == r_38.2.1)))] ⟨rfl, (by show Value.bool _ = Value.bool _; rw [hc_59]; rfl), trivial⟩ hk
  ·refine JA_takep 9 rfl hns (by kernel_rfl) (by kernel_rfl) rfl (.inr hS_58) rfl rfl rfl (r_assign (v := .bool (decide ((⟨r_28.1.Kind, r_28.1.N, r_28.1.Block⟩ : Glychgateref06_Value) = r_38.1) && (r_28.2.1 == r_38.2.1))) rfl) ?_
   refine JA_done (by kernel_rfl) ?_
   refine J_then ?_
   refine J_ret ?_
   refine J_in_ret ?_
   refine J_then_ret ?_
   exact J_returnV1 (PV' := [.cell a_1 [v_35, .i r_28.2.2.2], .row O11 45 v_35 r_28.2.2.1, .cell a_5 [v_45, v_46, v_47, .i r_38.2.2.2.2.2], .row (tBool).o 4 v_45 r_38.2.2.1, .row ((tInt .i64)).o 2 v_46 r_38.2.2.2.1, .row (T6).o 85 v_47 r_38.2.2.2.2.1]) rfl rv_tmp [6, 7, 1, 2, 3, 4] (by decide) rfl ⟨v_35, v_45, v_46, v_47, rfl, rfl, rfl⟩
 ·refine J_seq ?_
  refine J_region ?_
  refine JL_op rfl (op_read rfl rfl (r_eql rfl rfl) ?_)
  refine JL_op rfl (op_read rfl rfl (r_assign (v := .bool (decide (o_14.Kind = 2))) rfl) ?_)
  refine JL_nil ?_
  refine J_then ?_
  refine J_cond rfl (fun hc_60 => ?_) (fun hc_60 => ?_)
  ·refine J_seq ?_
   refine J_region_any 3 [.cell c_25 [.i o_14.P.Kind, .i o_14.P.N, .i o_14.P.Block], .cell c_16 [.i o_14.Kind, .i o_14.P.Kind, .i o_14.P.N, .i o_14.P.Block, .i o_14.V.Kind, .i o_14.V.N, .i o_14.V.Block, .bool o_14.Write], .cell a_1 [v_2, .i used_4], .cell a_5 [v_6, v_8, v_10, .i Used_12], .row (tBool).o 4 v_6 x_7, .row ((tInt .i64)).o 2 v_8 x_9, .row (T6).o 85 v_10 x_11] Try.mixed (by kernel_rfl) fun hns => ?_
   have hS_61 : HeldOK σ [.cell c_25 [.i o_14.P.Kind, .i o_14.P.N, .i o_14.P.Block], .cell c_16 [.i o_14.Kind, .i o_14.P.Kind, .i o_14.P.N, .i o_14.P.Block, .i o_14.V.Kind, .i o_14.V.N, .i o_14.V.Block, .bool o_14.Write], .cell a_1 [v_2, .i used_4], .cell a_5 [v_6, v_8, v_10, .i Used_12], .row (tBool).o 4 v_6 x_7, .row ((tInt .i64)).o 2 v_8 x_9, .row (T6).o 85 v_10 x_11] σ [.cell c_25 [.i o_14.P.Kind, .i o_14.P.N, .i o_14.P.Block], .cell c_16 [.i o_14.Kind, .i o_14.P.Kind, .i o_14.P.N, .i o_14.P.Block, .i o_14.V.Kind, .i o_14.V.N, .i o_14.V.Block, .bool o_14.Write], .cell a_1 [v_2, .i used_4], .row O11 45 v_2 x_3, .cell a_5 [v_6, v_8, v_10, .i Used_12], .row (tBool).o 4 v_6 x_7, .row ((tInt .i64)).o 2 v_8 x_9, .row (T6).o 85 v_10 x_11] := HeldOK.same [0, 1, 2, 4, 5, 6, 7] (by decide) rfl
   refine JA_takep 0 rfl hns (by kernel_rfl) (by kernel_rfl) rfl (.inr hS_61) rfl rfl rfl (r_move (v := .pointer (some (Addr.add a_1 0))) rfl) ?_
   refine JA_takep 1 rfl hns (by kernel_rfl) (by kernel_rfl) rfl (.inr hS_61) rfl rfl rfl (r_fieldAddr (r := Addr.add c_16 1) pu58 (f := Try.pf58.getD 1 default) rfl pi29 (by decide) rfl (Addr.add_add _ _ _)) ?_
   refine JA_take 2 rfl hns (by kernel_rfl) (by kernel_rfl) (by kernel_rfl) rfl (by kernel_rfl) hS_61 rfl rfl rfl (r_load_priv (a := c_16) (off := 1) (cs' := [.i o_14.P.Kind, .i o_14.P.N, .i o_14.P.Block]) (v := .agg #[.i o_14.P.Kind, .i o_14.P.N, .i o_14.P.Block]) 1 pu29 pi29 rfl rfl rfl rfl (by decide) rfl) ?_
   refine JA_takep 4 rfl hns (by kernel_rfl) (by kernel_rfl) rfl (.inr hS_61) rfl rfl rfl (r_move (v := .pointer (some (Addr.add a_5 0))) rfl) ?_
   refine J_bind fun k_62 hk_63 => ?_
   refine J_bind fun k_64 hk_65 => ?_
   refine J_meetD (fun y => lychgatelaw06_step_K1 Used_12 k_62 k_64 used_4 x_11 x_9 y) 0 #[true, true, true, true, true, true, true, true, true] (fun (y : Unit) L τ PV => σ = τ ∧ L = [(6, .bool (decide (k_62.1 = k_64.1)))] ∧ PV = [.cell a_1 [v_2, .i used_4], .row O11 45 v_2 k_62.2, .cell a_5 [v_6, v_8, v_10, .i Used_12], .row (tBool).o 4 v_6 k_64.2, .row ((tInt .i64)).o 2 v_8 x_9, .row (T6).o 85 v_10 x_11]) (fun hk => ?_) ?_
   ·refine JA_two (i := 3) (j := 5) (by kernel_rfl) ?_ ?_
    ·refine J_select (PV' := [.cell a_1 [v_2, .i used_4], .row O11 45 v_2 x_3, .cell c_25 [.i o_14.P.Kind, .i o_14.P.N, .i o_14.P.Block], .cell c_16 [.i o_14.Kind, .i o_14.P.Kind, .i o_14.P.N, .i o_14.P.Block, .i o_14.V.Kind, .i o_14.V.N, .i o_14.V.Block, .bool o_14.Write], .cell a_5 [v_6, v_8, v_10, .i Used_12], .row (tBool).o 4 v_6 x_7, .row ((tInt .i64)).o 2 v_8 x_9, .row (T6).o 85 v_10 x_11]) [2, 3, 0, 1, 4, 5, 6, 7] (by decide) rfl ?_
     have hS_75 : HeldOK σ [.cell c_25 [.i o_14.P.Kind, .i o_14.P.N, .i o_14.P.Block], .cell c_16 [.i o_14.Kind, .i o_14.P.Kind, .i o_14.P.N, .i o_14.P.Block, .i o_14.V.Kind, .i o_14.V.N, .i o_14.V.Block, .bool o_14.Write], .cell a_1 [v_2, .i used_4], .cell a_5 [v_6, v_8, v_10, .i Used_12], .row (tBool).o 4 v_6 x_7, .row ((tInt .i64)).o 2 v_8 x_9, .row (T6).o 85 v_10 x_11] σ [.cell a_1 [v_2, .i used_4], .row O11 45 v_2 x_3, .cell c_25 [.i o_14.P.Kind, .i o_14.P.N, .i o_14.P.Block], .cell c_16 [.i o_14.Kind, .i o_14.P.Kind, .i o_14.P.N, .i o_14.P.Block, .i o_14.V.Kind, .i o_14.V.N, .i o_14.V.Block, .bool o_14.Write], .cell a_5 [v_6, v_8, v_10, .i Used_12], .row (tBool).o 4 v_6 x_7, .row ((tInt .i64)).o 2 v_8 x_9, .row (T6).o 85 v_10 x_11] := HeldOK.same [2, 3, 0, 4, 5, 6, 7] (by decide) rfl
     refine J1_op rfl rfl (op_known hk_63 (op_call (f := 14) (fn := Try.f14) (args := [.pointer (some (Addr.add a_1 0)), .agg #[.i o_14.P.Kind, .i o_14.P.N, .i o_14.P.Block]]) (post := mem_Memory_Free_post σ a_1 v_2 x_3 used_4 (.agg #[.i o_14.P.Kind, .i o_14.P.N, .i o_14.P.Block]) o_14.P) [.cell a_1 [v_2, .i used_4], .row O11 45 v_2 x_3] [.cell c_25 [.i o_14.P.Kind, .i o_14.P.N, .i o_14.P.Block], .cell c_16 [.i o_14.Kind, .i o_14.P.Kind, .i o_14.P.N, .i o_14.P.Block, .i o_14.V.Kind, .i o_14.V.N, .i o_14.V.Block, .bool o_14.Write], .cell a_5 [v_6, v_8, v_10, .i Used_12], .row (tBool).o 4 v_6 x_7, .row ((tInt .i64)).o 2 v_8 x_9, .row (T6).o 85 v_10 x_11] rfl rfl rfl Try.func14 pn14 rfl rfl (fun y st hy hpre => mem_Memory_Free_ref st σ a_1 v_2 x_3 used_4 (.agg #[.i o_14.P.Kind, .i o_14.P.N, .i o_14.P.Block]) o_14.P (T13_v.2 rfl) hpre y hy) ?_))
     intro z_76 v_70 s_73 PV_71 hz_77 hle_74 hp_72
     obtain rfl := Option.some.inj (hk_63.symm.trans hz_77)
     obtain ⟨rfl, rfl, rfl⟩ := hp_72
     refine ⟨.inl (.inl rfl), ?_⟩
     refine JA_op (i := 5) (by kernel_rfl) rfl rfl (op_read rfl rfl (r_load_priv (a := c_25) (off := 0) (cs' := [.i o_14.P.Kind, .i o_14.P.N, .i o_14.P.Block]) (v := .agg #[.i o_14.P.Kind, .i o_14.P.N, .i o_14.P.Block]) 2 pu74 pi74 rfl rfl rfl rfl (by decide) rfl) ?_)
     refine ⟨.inl (.inr rfl), ?_⟩
     refine J_select (PV' := [.cell a_5 [v_6, v_8, v_10, .i Used_12], .row (tBool).o 4 v_6 x_7, .row ((tInt .i64)).o 2 v_8 x_9, .row (T6).o 85 v_10 x_11, .cell a_1 [v_2, .i used_4], .row O11 45 v_2 k_62.2, .cell c_25 [.i o_14.P.Kind, .i o_14.P.N, .i o_14.P.Block], .cell c_16 [.i o_14.Kind, .i o_14.P.Kind, .i o_14.P.N, .i o_14.P.Block, .i o_14.V.Kind, .i o_14.V.N, .i o_14.V.Block, .bool o_14.Write]]) [4, 5, 6, 7, 0, 1, 2, 3] (by decide) rfl ?_
     refine JA_op (i := 6) (by kernel_rfl) rfl rfl (op_known hk_65 (op_call (f := 32) (fn := Try.f32) (args := [.pointer (some (Addr.add a_5 0)), .agg #[.i o_14.P.Kind, .i o_14.P.N, .i o_14.P.Block]]) (post := lychgateref06_Free_post σ a_5 v_6 x_7 v_8 x_9 v_10 x_11 Used_12 (.agg #[.i o_14.P.Kind, .i o_14.P.N, .i o_14.P.Block]) (⟨o_14.P.Kind, o_14.P.N, o_14.P.Block⟩ : Glychgateref06_Value)) [.cell a_5 [v_6, v_8, v_10, .i Used_12], .row (tBool).o 4 v_6 x_7, .row ((tInt .i64)).o 2 v_8 x_9, .row (T6).o 85 v_10 x_11] [.cell a_1 [v_2, .i used_4], .row O11 45 v_2 k_62.2, .cell c_25 [.i o_14.P.Kind, .i o_14.P.N, .i o_14.P.Block], .cell c_16 [.i o_14.Kind, .i o_14.P.Kind, .i o_14.P.N, .i o_14.P.Block, .i o_14.V.Kind, .i o_14.V.N, .i o_14.V.Block, .bool o_14.Write]] rfl rfl rfl Try.func32 pn32 rfl rfl (fun y st hy hpre => lychgateref06_Free_ref st σ a_5 v_6 x_7 v_8 x_9 v_10 x_11 Used_12 (.agg #[.i o_14.P.Kind, .i o_14.P.N, .i o_14.P.Block]) (⟨o_14.P.Kind, o_14.P.N, o_14.P.Block⟩ : Glychgateref06_Value) (T4_v.2 rfl) hpre y hy) ?_))
     intro z_84 v_78 s_81 PV_79 hz_85 hle_82 hp_80
     obtain rfl := Option.some.inj (hk_65.symm.trans hz_85)
     obtain ⟨rfl, rfl, rfl⟩ := hp_80
     refine ⟨.inl (.inr rfl), ?_⟩
     refine JA_takep 7 rfl hns (by kernel_rfl) (by kernel_rfl) rfl (.inl rfl) rfl rfl rfl (r_eql rfl rfl) ?_
     refine JA_takep 8 rfl hns (by kernel_rfl) (by kernel_rfl) rfl (.inl rfl) rfl rfl rfl (r_assign (v := .bool (decide (k_62.1 = k_64.1))) rfl) ?_
     refine J_select (PV' := [.cell a_1 [v_2, .i used_4], .row O11 45 v_2 k_62.2, .cell a_5 [v_6, v_8, v_10, .i Used_12], .row (tBool).o 4 v_6 k_64.2, .row ((tInt .i64)).o 2 v_8 x_9, .row (T6).o 85 v_10 x_11]) [4, 5, 0, 1, 2, 3] (by decide) rfl ?_
     refine J_prune _ ?_ fun b => hk () _ b _ _ ⟨rfl, rfl, rfl⟩
     exact ⟨rfl, trivial⟩
    ·refine J1_op rfl rfl (op_read rfl rfl (r_load_priv (a := c_25) (off := 0) (cs' := [.i o_14.P.Kind, .i o_14.P.N, .i o_14.P.Block]) (v := .agg #[.i o_14.P.Kind, .i o_14.P.N, .i o_14.P.Block]) 0 pu74 pi74 rfl rfl rfl rfl (by decide) rfl) ?_)
     have hS_86 : HeldOK σ [.cell c_25 [.i o_14.P.Kind, .i o_14.P.N, .i o_14.P.Block], .cell c_16 [.i o_14.Kind, .i o_14.P.Kind, .i o_14.P.N, .i o_14.P.Block, .i o_14.V.Kind, .i o_14.V.N, .i o_14.V.Block, .bool o_14.Write], .cell a_1 [v_2, .i used_4], .cell a_5 [v_6, v_8, v_10, .i Used_12], .row (tBool).o 4 v_6 x_7, .row ((tInt .i64)).o 2 v_8 x_9, .row (T6).o 85 v_10 x_11] σ [.cell c_25 [.i o_14.P.Kind, .i o_14.P.N, .i o_14.P.Block], .cell c_16 [.i o_14.Kind, .i o_14.P.Kind, .i o_14.P.N, .i o_14.P.Block, .i o_14.V.Kind, .i o_14.V.N, .i o_14.V.Block, .bool o_14.Write], .cell a_1 [v_2, .i used_4], .row O11 45 v_2 x_3, .cell a_5 [v_6, v_8, v_10, .i Used_12], .row (tBool).o 4 v_6 x_7, .row ((tInt .i64)).o 2 v_8 x_9, .row (T6).o 85 v_10 x_11] := HeldOK.same [0, 1, 2, 4, 5, 6, 7] (by decide) rfl
     refine ⟨.inr hS_86, ?_⟩
     refine J_select (PV' := [.cell a_1 [v_2, .i used_4], .row O11 45 v_2 x_3, .cell c_25 [.i o_14.P.Kind, .i o_14.P.N, .i o_14.P.Block], .cell c_16 [.i o_14.Kind, .i o_14.P.Kind, .i o_14.P.N, .i o_14.P.Block, .i o_14.V.Kind, .i o_14.V.N, .i o_14.V.Block, .bool o_14.Write], .cell a_5 [v_6, v_8, v_10, .i Used_12], .row (tBool).o 4 v_6 x_7, .row ((tInt .i64)).o 2 v_8 x_9, .row (T6).o 85 v_10 x_11]) [2, 3, 0, 1, 4, 5, 6, 7] (by decide) rfl ?_
     have hS_92 : HeldOK σ [.cell c_25 [.i o_14.P.Kind, .i o_14.P.N, .i o_14.P.Block], .cell c_16 [.i o_14.Kind, .i o_14.P.Kind, .i o_14.P.N, .i o_14.P.Block, .i o_14.V.Kind, .i o_14.V.N, .i o_14.V.Block, .bool o_14.Write], .cell a_1 [v_2, .i used_4], .cell a_5 [v_6, v_8, v_10, .i Used_12], .row (tBool).o 4 v_6 x_7, .row ((tInt .i64)).o 2 v_8 x_9, .row (T6).o 85 v_10 x_11] σ [.cell a_1 [v_2, .i used_4], .row O11 45 v_2 x_3, .cell c_25 [.i o_14.P.Kind, .i o_14.P.N, .i o_14.P.Block], .cell c_16 [.i o_14.Kind, .i o_14.P.Kind, .i o_14.P.N, .i o_14.P.Block, .i o_14.V.Kind, .i o_14.V.N, .i o_14.V.Block, .bool o_14.Write], .cell a_5 [v_6, v_8, v_10, .i Used_12], .row (tBool).o 4 v_6 x_7, .row ((tInt .i64)).o 2 v_8 x_9, .row (T6).o 85 v_10 x_11] := HeldOK.same [2, 3, 0, 4, 5, 6, 7] (by decide) rfl
     refine JA_op (i := 3) (by kernel_rfl) rfl rfl (op_known hk_63 (op_call (f := 14) (fn := Try.f14) (args := [.pointer (some (Addr.add a_1 0)), .agg #[.i o_14.P.Kind, .i o_14.P.N, .i o_14.P.Block]]) (post := mem_Memory_Free_post σ a_1 v_2 x_3 used_4 (.agg #[.i o_14.P.Kind, .i o_14.P.N, .i o_14.P.Block]) o_14.P) [.cell a_1 [v_2, .i used_4], .row O11 45 v_2 x_3] [.cell c_25 [.i o_14.P.Kind, .i o_14.P.N, .i o_14.P.Block], .cell c_16 [.i o_14.Kind, .i o_14.P.Kind, .i o_14.P.N, .i o_14.P.Block, .i o_14.V.Kind, .i o_14.V.N, .i o_14.V.Block, .bool o_14.Write], .cell a_5 [v_6, v_8, v_10, .i Used_12], .row (tBool).o 4 v_6 x_7, .row ((tInt .i64)).o 2 v_8 x_9, .row (T6).o 85 v_10 x_11] rfl rfl rfl Try.func14 pn14 rfl rfl (fun y st hy hpre => mem_Memory_Free_ref st σ a_1 v_2 x_3 used_4 (.agg #[.i o_14.P.Kind, .i o_14.P.N, .i o_14.P.Block]) o_14.P (T13_v.2 rfl) hpre y hy) ?_))
     intro z_93 v_87 s_90 PV_88 hz_94 hle_91 hp_89
     obtain rfl := Option.some.inj (hk_63.symm.trans hz_94)
     obtain ⟨rfl, rfl, rfl⟩ := hp_89
     refine ⟨.inl (.inl rfl), ?_⟩
     refine J_select (PV' := [.cell a_5 [v_6, v_8, v_10, .i Used_12], .row (tBool).o 4 v_6 x_7, .row ((tInt .i64)).o 2 v_8 x_9, .row (T6).o 85 v_10 x_11, .cell a_1 [v_2, .i used_4], .row O11 45 v_2 k_62.2, .cell c_25 [.i o_14.P.Kind, .i o_14.P.N, .i o_14.P.Block], .cell c_16 [.i o_14.Kind, .i o_14.P.Kind, .i o_14.P.N, .i o_14.P.Block, .i o_14.V.Kind, .i o_14.V.N, .i o_14.V.Block, .bool o_14.Write]]) [4, 5, 6, 7, 0, 1, 2, 3] (by decide) rfl ?_
     refine JA_op (i := 6) (by kernel_rfl) rfl rfl (op_known hk_65 (op_call (f := 32) (fn := Try.f32) (args := [.pointer (some (Addr.add a_5 0)), .agg #[.i o_14.P.Kind, .i o_14.P.N, .i o_14.P.Block]]) (post := lychgateref06_Free_post σ a_5 v_6 x_7 v_8 x_9 v_10 x_11 Used_12 (.agg #[.i o_14.P.Kind, .i o_14.P.N, .i o_14.P.Block]) (⟨o_14.P.Kind, o_14.P.N, o_14.P.Block⟩ : Glychgateref06_Value)) [.cell a_5 [v_6, v_8, v_10, .i Used_12], .row (tBool).o 4 v_6 x_7, .row ((tInt .i64)).o 2 v_8 x_9, .row (T6).o 85 v_10 x_11] [.cell a_1 [v_2, .i used_4], .row O11 45 v_2 k_62.2, .cell c_25 [.i o_14.P.Kind, .i o_14.P.N, .i o_14.P.Block], .cell c_16 [.i o_14.Kind, .i o_14.P.Kind, .i o_14.P.N, .i o_14.P.Block, .i o_14.V.Kind, .i o_14.V.N, .i o_14.V.Block, .bool o_14.Write]] rfl rfl rfl Try.func32 pn32 rfl rfl (fun y st hy hpre => lychgateref06_Free_ref st σ a_5 v_6 x_7 v_8 x_9 v_10 x_11 Used_12 (.agg #[.i o_14.P.Kind, .i o_14.P.N, .i o_14.P.Block]) (⟨o_14.P.Kind, o_14.P.N, o_14.P.Block⟩ : Glychgateref06_Value) (T4_v.2 rfl) hpre y hy) ?_))
     intro z_101 v_95 s_98 PV_96 hz_102 hle_99 hp_97
     obtain rfl := Option.some.inj (hk_65.symm.trans hz_102)
     obtain ⟨rfl, rfl, rfl⟩ := hp_97
     refine ⟨.inl (.inr rfl), ?_⟩
     refine JA_takep 7 rfl hns (by kernel_rfl) (by kernel_rfl) rfl (.inl rfl) rfl rfl rfl (r_eql rfl rfl) ?_
     refine JA_takep 8 rfl hns (by kernel_rfl) (by kernel_rfl) rfl (.inl rfl) rfl rfl rfl (r_assign (v := .bool (decide (k_62.1 = k_64.1))) rfl) ?_
     refine J_select (PV' := [.cell a_1 [v_2, .i used_4], .row O11 45 v_2 k_62.2, .cell a_5 [v_6, v_8, v_10, .i Used_12], .row (tBool).o 4 v_6 k_64.2, .row ((tInt .i64)).o 2 v_8 x_9, .row (T6).o 85 v_10 x_11]) [4, 5, 0, 1, 2, 3] (by decide) rfl ?_
     refine J_prune _ ?_ fun b => hk () _ b _ _ ⟨rfl, rfl, rfl⟩
     exact ⟨rfl, trivial⟩
   ·rintro y_66 _ b s_69 _ ⟨rfl, rfl, rfl⟩
    unfold lychgatelaw06_step_K1
    refine JA_done (by kernel_rfl) ?_
    refine J_then ?_
    refine J_ret ?_
    refine J_in_ret ?_
    refine J_then_ret ?_
    exact J_returnV1 (PV' := [.cell a_1 [v_2, .i used_4], .row O11 45 v_2 k_62.2, .cell a_5 [v_6, v_8, v_10, .i Used_12], .row (tBool).o 4 v_6 k_64.2, .row ((tInt .i64)).o 2 v_8 x_9, .row (T6).o 85 v_10 x_11]) rfl rv_tmp [0, 1, 2, 3, 4, 5] (by decide) rfl ⟨v_2, v_6, v_8, v_10, rfl, rfl, rfl⟩
  ·refine J_seq ?_
   refine J_region ?_
   refine JL_op rfl (op_read rfl rfl (r_eql rfl rfl) ?_)
   refine JL_op rfl (op_read rfl rfl (r_assign (v := .bool (decide (o_14.Kind = 3))) rfl) ?_)
   refine JL_nil ?_
   refine J_then ?_
   refine J_cond rfl (fun hc_103 => ?_) (fun hc_103 => ?_)
   ·refine J_seq ?_
    refine J_region_any 5 [.cell c_25 [.i o_14.P.Kind, .i o_14.P.N, .i o_14.P.Block], .cell c_16 [.i o_14.Kind, .i o_14.P.Kind, .i o_14.P.N, .i o_14.P.Block, .i o_14.V.Kind, .i o_14.V.N, .i o_14.V.Block, .bool o_14.Write], .cell a_1 [v_2, .i used_4], .cell a_5 [v_6, v_8, v_10, .i Used_12], .row (tBool).o 4 v_6 x_7, .row ((tInt .i64)).o 2 v_8 x_9, .row (T6).o 85 v_10 x_11] Try.mixed (by kernel_rfl) fun hns => ?_
    have hS_104 : HeldOK σ [.cell c_25 [.i o_14.P.Kind, .i o_14.P.N, .i o_14.P.Block], .cell c_16 [.i o_14.Kind, .i o_14.P.Kind, .i o_14.P.N, .i o_14.P.Block, .i o_14.V.Kind, .i o_14.V.N, .i o_14.V.Block, .bool o_14.Write], .cell a_1 [v_2, .i used_4], .cell a_5 [v_6, v_8, v_10, .i Used_12], .row (tBool).o 4 v_6 x_7, .row ((tInt .i64)).o 2 v_8 x_9, .row (T6).o 85 v_10 x_11] σ [.cell c_25 [.i o_14.P.Kind, .i o_14.P.N, .i o_14.P.Block], .cell c_16 [.i o_14.Kind, .i o_14.P.Kind, .i o_14.P.N, .i o_14.P.Block, .i o_14.V.Kind, .i o_14.V.N, .i o_14.V.Block, .bool o_14.Write], .cell a_1 [v_2, .i used_4], .row O11 45 v_2 x_3, .cell a_5 [v_6, v_8, v_10, .i Used_12], .row (tBool).o 4 v_6 x_7, .row ((tInt .i64)).o 2 v_8 x_9, .row (T6).o 85 v_10 x_11] := HeldOK.same [0, 1, 2, 4, 5, 6, 7] (by decide) rfl
    refine JA_takep 0 rfl hns (by kernel_rfl) (by kernel_rfl) rfl (.inr hS_104) rfl rfl rfl (r_move (v := .pointer (some (Addr.add a_1 0))) rfl) ?_
    refine JA_takep 1 rfl hns (by kernel_rfl) (by kernel_rfl) rfl (.inr hS_104) rfl rfl rfl (r_fieldAddr (r := Addr.add c_16 1) pu58 (f := Try.pf58.getD 1 default) rfl pi29 (by decide) rfl (Addr.add_add _ _ _)) ?_
    refine JA_take 2 rfl hns (by kernel_rfl) (by kernel_rfl) (by kernel_rfl) rfl (by kernel_rfl) hS_104 rfl rfl rfl (r_load_priv (a := c_16) (off := 1) (cs' := [.i o_14.P.Kind, .i o_14.P.N, .i o_14.P.Block]) (v := .agg #[.i o_14.P.Kind, .i o_14.P.N, .i o_14.P.Block]) 1 pu29 pi29 rfl rfl rfl rfl (by decide) rfl) ?_
    refine JA_takep 3 rfl hns (by kernel_rfl) (by kernel_rfl) rfl (.inr hS_104) rfl rfl rfl (r_fieldAddr (r := Addr.add c_16 7) pu58 (f := Try.pf58.getD 3 default) rfl pi4 (by decide) rfl (Addr.add_add _ _ _)) ?_
    refine JA_take 4 rfl hns (by kernel_rfl) (by kernel_rfl) (by kernel_rfl) rfl (by kernel_rfl) hS_104 rfl rfl rfl (r_load_priv (a := c_16) (off := 7) (cs' := [.bool o_14.Write]) (v := .bool o_14.Write) 1 pu4 pi4 rfl rfl rfl rfl (by decide) rfl) ?_
    refine JA_takep 6 rfl hns (by kernel_rfl) (by kernel_rfl) rfl (.inr hS_104) rfl rfl rfl (r_move (v := .pointer (some (Addr.add a_5 0))) rfl) ?_
    refine JA_takep 8 rfl hns (by kernel_rfl) (by kernel_rfl) rfl (.inr hS_104) rfl rfl rfl (r_fieldAddr (r := Addr.add c_16 7) pu58 (f := Try.pf58.getD 3 default) rfl pi4 (by decide) rfl (Addr.add_add _ _ _)) ?_
    refine J_bind fun k_105 hk_106 => ?_
    refine J_bind fun k_107 hk_108 => ?_
    refine J_meetD (fun y => lychgatelaw06_step_K2 Used_12 k_105 k_107 used_4 x_7 x_9 y) 0 #[true, true, true, true, true, true, true, true, true, true, true, true, true] (fun (y : Unit) L τ PV => σ = τ ∧ L = [(6, .bool (decide (k_105.1 = k_107.1)))] ∧ PV = [.cell a_1 [v_2, .i used_4], .row O11 45 v_2 k_105.2, .cell a_5 [v_6, v_8, v_10, .i Used_12], .row (tBool).o 4 v_6 x_7, .row ((tInt .i64)).o 2 v_8 x_9, .row (T6).o 85 v_10 k_107.2]) (fun hk => ?_) ?_
    ·refine JA_three (i := 5) (j := 7) (k := 9) (by kernel_rfl) ?_ ?_ ?_
     ·refine J_select (PV' := [.cell a_1 [v_2, .i used_4], .row O11 45 v_2 x_3, .cell c_25 [.i o_14.P.Kind, .i o_14.P.N, .i o_14.P.Block], .cell c_16 [.i o_14.Kind, .i o_14.P.Kind, .i o_14.P.N, .i o_14.P.Block, .i o_14.V.Kind, .i o_14.V.N, .i o_14.V.Block, .bool o_14.Write], .cell a_5 [v_6, v_8, v_10, .i Used_12], .row (tBool).o 4 v_6 x_7, .row ((tInt .i64)).o 2 v_8 x_9, .row (T6).o 85 v_10 x_11]) [2, 3, 0, 1, 4, 5, 6, 7] (by decide) rfl ?_
      have hS_118 : HeldOK σ [.cell c_25 [.i o_14.P.Kind, .i o_14.P.N, .i o_14.P.Block], .cell c_16 [.i o_14.Kind, .i o_14.P.Kind, .i o_14.P.N, .i o_14.P.Block, .i o_14.V.Kind, .i o_14.V.N, .i o_14.V.Block, .bool o_14.Write], .cell a_1 [v_2, .i used_4], .cell a_5 [v_6, v_8, v_10, .i Used_12], .row (tBool).o 4 v_6 x_7, .row ((tInt .i64)).o 2 v_8 x_9, .row (T6).o 85 v_10 x_11] σ [.cell a_1 [v_2, .i used_4], .row O11 45 v_2 x_3, .cell c_25 [.i o_14.P.Kind, .i o_14.P.N, .i o_14.P.Block], .cell c_16 [.i o_14.Kind, .i o_14.P.Kind, .i o_14.P.N, .i o_14.P.Block, .i o_14.V.Kind, .i o_14.V.N, .i o_14.V.Block, .bool o_14.Write], .cell a_5 [v_6, v_8, v_10, .i Used_12], .row (tBool).o 4 v_6 x_7, .row ((tInt .i64)).o 2 v_8 x_9, .row (T6).o 85 v_10 x_11] := HeldOK.same [2, 3, 0, 4, 5, 6, 7] (by decide) rfl
      refine J1_op rfl rfl (op_known hk_106 (op_call (f := 15) (fn := Try.f15) (args := [.pointer (some (Addr.add a_1 0)), .agg #[.i o_14.P.Kind, .i o_14.P.N, .i o_14.P.Block], .bool o_14.Write]) (post := mem_Memory_Begin_post σ a_1 v_2 x_3 used_4 (.agg #[.i o_14.P.Kind, .i o_14.P.N, .i o_14.P.Block]) o_14.P o_14.Write) [.cell a_1 [v_2, .i used_4], .row O11 45 v_2 x_3] [.cell c_25 [.i o_14.P.Kind, .i o_14.P.N, .i o_14.P.Block], .cell c_16 [.i o_14.Kind, .i o_14.P.Kind, .i o_14.P.N, .i o_14.P.Block, .i o_14.V.Kind, .i o_14.V.N, .i o_14.V.Block, .bool o_14.Write], .cell a_5 [v_6, v_8, v_10, .i Used_12], .row (tBool).o 4 v_6 x_7, .row ((tInt .i64)).o 2 v_8 x_9, .row (T6).o 85 v_10 x_11] rfl rfl rfl Try.func15 pn15 rfl rfl (fun y st hy hpre => mem_Memory_Begin_ref st σ a_1 v_2 x_3 used_4 (.agg #[.i o_14.P.Kind, .i o_14.P.N, .i o_14.P.Block]) o_14.P (T13_v.2 rfl) o_14.Write hpre y hy) ?_))
      intro z_119 v_113 s_116 PV_114 hz_120 hle_117 hp_115
      obtain rfl := Option.some.inj (hk_106.symm.trans hz_120)
      obtain ⟨rfl, rfl, rfl⟩ := hp_115
      refine ⟨.inl (.inl rfl), ?_⟩
      refine JA_two (i := 7) (j := 9) (by kernel_rfl) ?_ ?_
      ·refine J1_op rfl rfl (op_read rfl rfl (r_load_priv (a := c_25) (off := 0) (cs' := [.i o_14.P.Kind, .i o_14.P.N, .i o_14.P.Block]) (v := .agg #[.i o_14.P.Kind, .i o_14.P.N, .i o_14.P.Block]) 2 pu74 pi74 rfl rfl rfl rfl (by decide) rfl) ?_)
       refine ⟨.inl (.inr rfl), ?_⟩
       refine JA_op (i := 9) (by kernel_rfl) rfl rfl (op_read rfl rfl (r_load_priv (a := c_16) (off := 7) (cs' := [.bool o_14.Write]) (v := .bool o_14.Write) 3 pu4 pi4 rfl rfl rfl rfl (by decide) rfl) ?_)
       refine ⟨.inl (.inr rfl), ?_⟩
       refine J_select (PV' := [.cell a_5 [v_6, v_8, v_10, .i Used_12], .row (tBool).o 4 v_6 x_7, .row ((tInt .i64)).o 2 v_8 x_9, .row (T6).o 85 v_10 x_11, .cell a_1 [v_2, .i used_4], .row O11 45 v_2 k_105.2, .cell c_25 [.i o_14.P.Kind, .i o_14.P.N, .i o_14.P.Block], .cell c_16 [.i o_14.Kind, .i o_14.P.Kind, .i o_14.P.N, .i o_14.P.Block, .i o_14.V.Kind, .i o_14.V.N, .i o_14.V.Block, .bool o_14.Write]]) [4, 5, 6, 7, 0, 1, 2, 3] (by decide) rfl ?_
       refine JA_op (i := 10) (by kernel_rfl) rfl rfl (op_known hk_108 (op_call (f := 33) (fn := Try.f33) (args := [.pointer (some (Addr.add a_5 0)), .agg #[.i o_14.P.Kind, .i o_14.P.N, .i o_14.P.Block], .bool o_14.Write]) (post := lychgateref06_Begin_post σ a_5 v_6 x_7 v_8 x_9 v_10 x_11 Used_12 (.agg #[.i o_14.P.Kind, .i o_14.P.N, .i o_14.P.Block]) (⟨o_14.P.Kind, o_14.P.N, o_14.P.Block⟩ : Glychgateref06_Value) o_14.Write) [.cell a_5 [v_6, v_8, v_10, .i Used_12], .row (tBool).o 4 v_6 x_7, .row ((tInt .i64)).o 2 v_8 x_9, .row (T6).o 85 v_10 x_11] [.cell a_1 [v_2, .i used_4], .row O11 45 v_2 k_105.2, .cell c_25 [.i o_14.P.Kind, .i o_14.P.N, .i o_14.P.Block], .cell c_16 [.i o_14.Kind, .i o_14.P.Kind, .i o_14.P.N, .i o_14.P.Block, .i o_14.V.Kind, .i o_14.V.N, .i o_14.V.Block, .bool o_14.Write]] rfl rfl rfl Try.func33 pn33 rfl rfl (fun y st hy hpre => lychgateref06_Begin_ref st σ a_5 v_6 x_7 v_8 x_9 v_10 x_11 Used_12 (.agg #[.i o_14.P.Kind, .i o_14.P.N, .i o_14.P.Block]) (⟨o_14.P.Kind, o_14.P.N, o_14.P.Block⟩ : Glychgateref06_Value) (T4_v.2 rfl) o_14.Write hpre y hy) ?_))
       intro z_127 v_121 s_124 PV_122 hz_128 hle_125 hp_123
       obtain rfl := Option.some.inj (hk_108.symm.trans hz_128)
       obtain ⟨rfl, rfl, rfl⟩ := hp_123
       refine ⟨.inl (.inr rfl), ?_⟩
       refine JA_takep 11 rfl hns (by kernel_rfl) (by kernel_rfl) rfl (.inl rfl) rfl rfl rfl (r_eql rfl rfl) ?_
       refine JA_takep 12 rfl hns (by kernel_rfl) (by kernel_rfl) rfl (.inl rfl) rfl rfl rfl (r_assign (v := .bool (decide (k_105.1 = k_107.1))) rfl) ?_
       refine J_select (PV' := [.cell a_1 [v_2, .i used_4], .row O11 45 v_2 k_105.2, .cell a_5 [v_6, v_8, v_10, .i Used_12], .row (tBool).o 4 v_6 x_7, .row ((tInt .i64)).o 2 v_8 x_9, .row (T6).o 85 v_10 k_107.2]) [4, 5, 0, 1, 2, 3] (by decide) rfl ?_
       refine J_prune _ ?_ fun b => hk () _ b _ _ ⟨rfl, rfl, rfl⟩
       exact ⟨rfl, trivial⟩
      ·refine J1_op rfl rfl (op_read rfl rfl (r_load_priv (a := c_16) (off := 7) (cs' := [.bool o_14.Write]) (v := .bool o_14.Write) 3 pu4 pi4 rfl rfl rfl rfl (by decide) rfl) ?_)
       refine ⟨.inl (.inr rfl), ?_⟩
       refine JA_op (i := 7) (by kernel_rfl) rfl rfl (op_read rfl rfl (r_load_priv (a := c_25) (off := 0) (cs' := [.i o_14.P.Kind, .i o_14.P.N, .i o_14.P.Block]) (v := .agg #[.i o_14.P.Kind, .i o_14.P.N, .i o_14.P.Block]) 2 pu74 pi74 rfl rfl rfl rfl (by decide) rfl) ?_)
       refine ⟨.inl (.inr rfl), ?_⟩
       refine J_select (PV' := [.cell a_5 [v_6, v_8, v_10, .i Used_12], .row (tBool).o 4 v_6 x_7, .row ((tInt .i64)).o 2 v_8 x_9, .row (T6).o 85 v_10 x_11, .cell a_1 [v_2, .i used_4], .row O11 45 v_2 k_105.2, .cell c_25 [.i o_14.P.Kind, .i o_14.P.N, .i o_14.P.Block], .cell c_16 [.i o_14.Kind, .i o_14.P.Kind, .i o_14.P.N, .i o_14.P.Block, .i o_14.V.Kind, .i o_14.V.N, .i o_14.V.Block, .bool o_14.Write]]) [4, 5, 6, 7, 0, 1, 2, 3] (by decide) rfl ?_
       refine JA_op (i := 10) (by kernel_rfl) rfl rfl (op_known hk_108 (op_call (f := 33) (fn := Try.f33) (args := [.pointer (some (Addr.add a_5 0)), .agg #[.i o_14.P.Kind, .i o_14.P.N, .i o_14.P.Block], .bool o_14.Write]) (post := lychgateref06_Begin_post σ a_5 v_6 x_7 v_8 x_9 v_10 x_11 Used_12 (.agg #[.i o_14.P.Kind, .i o_14.P.N, .i o_14.P.Block]) (⟨o_14.P.Kind, o_14.P.N, o_14.P.Block⟩ : Glychgateref06_Value) o_14.Write) [.cell a_5 [v_6, v_8, v_10, .i Used_12], .row (tBool).o 4 v_6 x_7, .row ((tInt .i64)).o 2 v_8 x_9, .row (T6).o 85 v_10 x_11] [.cell a_1 [v_2, .i used_4], .row O11 45 v_2 k_105.2, .cell c_25 [.i o_14.P.Kind, .i o_14.P.N, .i o_14.P.Block], .cell c_16 [.i o_14.Kind, .i o_14.P.Kind, .i o_14.P.N, .i o_14.P.Block, .i o_14.V.Kind, .i o_14.V.N, .i o_14.V.Block, .bool o_14.Write]] rfl rfl rfl Try.func33 pn33 rfl rfl (fun y st hy hpre => lychgateref06_Begin_ref st σ a_5 v_6 x_7 v_8 x_9 v_10 x_11 Used_12 (.agg #[.i o_14.P.Kind, .i o_14.P.N, .i o_14.P.Block]) (⟨o_14.P.Kind, o_14.P.N, o_14.P.Block⟩ : Glychgateref06_Value) (T4_v.2 rfl) o_14.Write hpre y hy) ?_))
       intro z_135 v_129 s_132 PV_130 hz_136 hle_133 hp_131
       obtain rfl := Option.some.inj (hk_108.symm.trans hz_136)
       obtain ⟨rfl, rfl, rfl⟩ := hp_131
       refine ⟨.inl (.inr rfl), ?_⟩
       refine JA_takep 11 rfl hns (by kernel_rfl) (by kernel_rfl) rfl (.inl rfl) rfl rfl rfl (r_eql rfl rfl) ?_
       refine JA_takep 12 rfl hns (by kernel_rfl) (by kernel_rfl) rfl (.inl rfl) rfl rfl rfl (r_assign (v := .bool (decide (k_105.1 = k_107.1))) rfl) ?_
       refine J_select (PV' := [.cell a_1 [v_2, .i used_4], .row O11 45 v_2 k_105.2, .cell a_5 [v_6, v_8, v_10, .i Used_12], .row (tBool).o 4 v_6 x_7, .row ((tInt .i64)).o 2 v_8 x_9, .row (T6).o 85 v_10 k_107.2]) [4, 5, 0, 1, 2, 3] (by decide) rfl ?_
       refine J_prune _ ?_ fun b => hk () _ b _ _ ⟨rfl, rfl, rfl⟩
       exact ⟨rfl, trivial⟩
     ·refine J1_op rfl rfl (op_read rfl rfl (r_load_priv (a := c_25) (off := 0) (cs' := [.i o_14.P.Kind, .i o_14.P.N, .i o_14.P.Block]) (v := .agg #[.i o_14.P.Kind, .i o_14.P.N, .i o_14.P.Block]) 0 pu74 pi74 rfl rfl rfl rfl (by decide) rfl) ?_)
      have hS_137 : HeldOK σ [.cell c_25 [.i o_14.P.Kind, .i o_14.P.N, .i o_14.P.Block], .cell c_16 [.i o_14.Kind, .i o_14.P.Kind, .i o_14.P.N, .i o_14.P.Block, .i o_14.V.Kind, .i o_14.V.N, .i o_14.V.Block, .bool o_14.Write], .cell a_1 [v_2, .i used_4], .cell a_5 [v_6, v_8, v_10, .i Used_12], .row (tBool).o 4 v_6 x_7, .row ((tInt .i64)).o 2 v_8 x_9, .row (T6).o 85 v_10 x_11] σ [.cell c_25 [.i o_14.P.Kind, .i o_14.P.N, .i o_14.P.Block], .cell c_16 [.i o_14.Kind, .i o_14.P.Kind, .i o_14.P.N, .i o_14.P.Block, .i o_14.V.Kind, .i o_14.V.N, .i o_14.V.Block, .bool o_14.Write], .cell a_1 [v_2, .i used_4], .row O11 45 v_2 x_3, .cell a_5 [v_6, v_8, v_10, .i Used_12], .row (tBool).o 4 v_6 x_7, .row ((tInt .i64)).o 2 v_8 x_9, .row (T6).o 85 v_10 x_11] := HeldOK.same [0, 1, 2, 4, 5, 6, 7] (by decide) rfl
      refine ⟨.inr hS_137, ?_⟩
      refine JA_two (i := 5) (j := 9) (by kernel_rfl) ?_ ?_
      ·refine J_select (PV' := [.cell a_1 [v_2, .i used_4], .row O11 45 v_2 x_3, .cell c_25 [.i o_14.P.Kind, .i o_14.P.N, .i o_14.P.Block], .cell c_16 [.i o_14.Kind, .i o_14.P.Kind, .i o_14.P.N, .i o_14.P.Block, .i o_14.V.Kind, .i o_14.V.N, .i o_14.V.Block, .bool o_14.Write], .cell a_5 [v_6, v_8, v_10, .i Used_12], .row (tBool).o 4 v_6 x_7, .row ((tInt .i64)).o 2 v_8 x_9, .row (T6).o 85 v_10 x_11]) [2, 3, 0, 1, 4, 5, 6, 7] (by decide) rfl ?_
       have hS_143 : HeldOK σ [.cell c_25 [.i o_14.P.Kind, .i o_14.P.N, .i o_14.P.Block], .cell c_16 [.i o_14.Kind, .i o_14.P.Kind, .i o_14.P.N, .i o_14.P.Block, .i o_14.V.Kind, .i o_14.V.N, .i o_14.V.Block, .bool o_14.Write], .cell a_1 [v_2, .i used_4], .cell a_5 [v_6, v_8, v_10, .i Used_12], .row (tBool).o 4 v_6 x_7, .row ((tInt .i64)).o 2 v_8 x_9, .row (T6).o 85 v_10 x_11] σ [.cell a_1 [v_2, .i used_4], .row O11 45 v_2 x_3, .cell c_25 [.i o_14.P.Kind, .i o_14.P.N, .i o_14.P.Block], .cell c_16 [.i o_14.Kind, .i o_14.P.Kind, .i o_14.P.N, .i o_14.P.Block, .i o_14.V.Kind, .i o_14.V.N, .i o_14.V.Block, .bool o_14.Write], .cell a_5 [v_6, v_8, v_10, .i Used_12], .row (tBool).o 4 v_6 x_7, .row ((tInt .i64)).o 2 v_8 x_9, .row (T6).o 85 v_10 x_11] := HeldOK.same [2, 3, 0, 4, 5, 6, 7] (by decide) rfl
       refine J1_op rfl rfl (op_known hk_106 (op_call (f := 15) (fn := Try.f15) (args := [.pointer (some (Addr.add a_1 0)), .agg #[.i o_14.P.Kind, .i o_14.P.N, .i o_14.P.Block], .bool o_14.Write]) (post := mem_Memory_Begin_post σ a_1 v_2 x_3 used_4 (.agg #[.i o_14.P.Kind, .i o_14.P.N, .i o_14.P.Block]) o_14.P o_14.Write) [.cell a_1 [v_2, .i used_4], .row O11 45 v_2 x_3] [.cell c_25 [.i o_14.P.Kind, .i o_14.P.N, .i o_14.P.Block], .cell c_16 [.i o_14.Kind, .i o_14.P.Kind, .i o_14.P.N, .i o_14.P.Block, .i o_14.V.Kind, .i o_14.V.N, .i o_14.V.Block, .bool o_14.Write], .cell a_5 [v_6, v_8, v_10, .i Used_12], .row (tBool).o 4 v_6 x_7, .row ((tInt .i64)).o 2 v_8 x_9, .row (T6).o 85 v_10 x_11] rfl rfl rfl Try.func15 pn15 rfl rfl (fun y st hy hpre => mem_Memory_Begin_ref st σ a_1 v_2 x_3 used_4 (.agg #[.i o_14.P.Kind, .i o_14.P.N, .i o_14.P.Block]) o_14.P (T13_v.2 rfl) o_14.Write hpre y hy) ?_))
       intro z_144 v_138 s_141 PV_139 hz_145 hle_142 hp_140
       obtain rfl := Option.some.inj (hk_106.symm.trans hz_145)
       obtain ⟨rfl, rfl, rfl⟩ := hp_140
       refine ⟨.inl (.inl rfl), ?_⟩
       refine JA_op (i := 9) (by kernel_rfl) rfl rfl (op_read rfl rfl (r_load_priv (a := c_16) (off := 7) (cs' := [.bool o_14.Write]) (v := .bool o_14.Write) 3 pu4 pi4 rfl rfl rfl rfl (by decide) rfl) ?_)
       refine ⟨.inl (.inr rfl), ?_⟩
       refine J_select (PV' := [.cell a_5 [v_6, v_8, v_10, .i Used_12], .row (tBool).o 4 v_6 x_7, .row ((tInt .i64)).o 2 v_8 x_9, .row (T6).o 85 v_10 x_11, .cell a_1 [v_2, .i used_4], .row O11 45 v_2 k_105.2, .cell c_25 [.i o_14.P.Kind, .i o_14.P.N, .i o_14.P.Block], .cell c_16 [.i o_14.Kind, .i o_14.P.Kind, .i o_14.P.N, .i o_14.P.Block, .i o_14.V.Kind, .i o_14.V.N, .i o_14.V.Block, .bool o_14.Write]]) [4, 5, 6, 7, 0, 1, 2, 3] (by decide) rfl ?_
       refine JA_op (i := 10) (by kernel_rfl) rfl rfl (op_known hk_108 (op_call (f := 33) (fn := Try.f33) (args := [.pointer (some (Addr.add a_5 0)), .agg #[.i o_14.P.Kind, .i o_14.P.N, .i o_14.P.Block], .bool o_14.Write]) (post := lychgateref06_Begin_post σ a_5 v_6 x_7 v_8 x_9 v_10 x_11 Used_12 (.agg #[.i o_14.P.Kind, .i o_14.P.N, .i o_14.P.Block]) (⟨o_14.P.Kind, o_14.P.N, o_14.P.Block⟩ : Glychgateref06_Value) o_14.Write) [.cell a_5 [v_6, v_8, v_10, .i Used_12], .row (tBool).o 4 v_6 x_7, .row ((tInt .i64)).o 2 v_8 x_9, .row (T6).o 85 v_10 x_11] [.cell a_1 [v_2, .i used_4], .row O11 45 v_2 k_105.2, .cell c_25 [.i o_14.P.Kind, .i o_14.P.N, .i o_14.P.Block], .cell c_16 [.i o_14.Kind, .i o_14.P.Kind, .i o_14.P.N, .i o_14.P.Block, .i o_14.V.Kind, .i o_14.V.N, .i o_14.V.Block, .bool o_14.Write]] rfl rfl rfl Try.func33 pn33 rfl rfl (fun y st hy hpre => lychgateref06_Begin_ref st σ a_5 v_6 x_7 v_8 x_9 v_10 x_11 Used_12 (.agg #[.i o_14.P.Kind, .i o_14.P.N, .i o_14.P.Block]) (⟨o_14.P.Kind, o_14.P.N, o_14.P.Block⟩ : Glychgateref06_Value) (T4_v.2 rfl) o_14.Write hpre y hy) ?_))
       intro z_152 v_146 s_149 PV_147 hz_153 hle_150 hp_148
       obtain rfl := Option.some.inj (hk_108.symm.trans hz_153)
       obtain ⟨rfl, rfl, rfl⟩ := hp_148
       refine ⟨.inl (.inr rfl), ?_⟩
       refine JA_takep 11 rfl hns (by kernel_rfl) (by kernel_rfl) rfl (.inl rfl) rfl rfl rfl (r_eql rfl rfl) ?_
       refine JA_takep 12 rfl hns (by kernel_rfl) (by kernel_rfl) rfl (.inl rfl) rfl rfl rfl (r_assign (v := .bool (decide (k_105.1 = k_107.1))) rfl) ?_
       refine J_select (PV' := [.cell a_1 [v_2, .i used_4], .row O11 45 v_2 k_105.2, .cell a_5 [v_6, v_8, v_10, .i Used_12], .row (tBool).o 4 v_6 x_7, .row ((tInt .i64)).o 2 v_8 x_9, .row (T6).o 85 v_10 k_107.2]) [4, 5, 0, 1, 2, 3] (by decide) rfl ?_
       refine J_prune _ ?_ fun b => hk () _ b _ _ ⟨rfl, rfl, rfl⟩
       exact ⟨rfl, trivial⟩
      ·refine J1_op rfl rfl (op_read rfl rfl (r_load_priv (a := c_16) (off := 7) (cs' := [.bool o_14.Write]) (v := .bool o_14.Write) 1 pu4 pi4 rfl rfl rfl rfl (by decide) rfl) ?_)
       have hS_154 : HeldOK σ [.cell c_25 [.i o_14.P.Kind, .i o_14.P.N, .i o_14.P.Block], .cell c_16 [.i o_14.Kind, .i o_14.P.Kind, .i o_14.P.N, .i o_14.P.Block, .i o_14.V.Kind, .i o_14.V.N, .i o_14.V.Block, .bool o_14.Write], .cell a_1 [v_2, .i used_4], .cell a_5 [v_6, v_8, v_10, .i Used_12], .row (tBool).o 4 v_6 x_7, .row ((tInt .i64)).o 2 v_8 x_9, .row (T6).o 85 v_10 x_11] σ [.cell c_25 [.i o_14.P.Kind, .i o_14.P.N, .i o_14.P.Block], .cell c_16 [.i o_14.Kind, .i o_14.P.Kind, .i o_14.P.N, .i o_14.P.Block, .i o_14.V.Kind, .i o_14.V.N, .i o_14.V.Block, .bool o_14.Write], .cell a_1 [v_2, .i used_4], .row O11 45 v_2 x_3, .cell a_5 [v_6, v_8, v_10, .i Used_12], .row (tBool).o 4 v_6 x_7, .row ((tInt .i64)).o 2 v_8 x_9, .row (T6).o 85 v_10 x_11] := HeldOK.same [0, 1, 2, 4, 5, 6, 7] (by decide) rfl
       refine ⟨.inr hS_154, ?_⟩
       refine J_select (PV' := [.cell a_1 [v_2, .i used_4], .row O11 45 v_2 x_3, .cell c_25 [.i o_14.P.Kind, .i o_14.P.N, .i o_14.P.Block], .cell c_16 [.i o_14.Kind, .i o_14.P.Kind, .i o_14.P.N, .i o_14.P.Block, .i o_14.V.Kind, .i o_14.V.N, .i o_14.V.Block, .bool o_14.Write], .cell a_5 [v_6, v_8, v_10, .i Used_12], .row (tBool).o 4 v_6 x_7, .row ((tInt .i64)).o 2 v_8 x_9, .row (T6).o 85 v_10 x_11]) [2, 3, 0, 1, 4, 5, 6, 7] (by decide) rfl ?_
       have hS_160 : HeldOK σ [.cell c_25 [.i o_14.P.Kind, .i o_14.P.N, .i o_14.P.Block], .cell c_16 [.i o_14.Kind, .i o_14.P.Kind, .i o_14.P.N, .i o_14.P.Block, .i o_14.V.Kind, .i o_14.V.N, .i o_14.V.Block, .bool o_14.Write], .cell a_1 [v_2, .i used_4], .cell a_5 [v_6, v_8, v_10, .i Used_12], .row (tBool).o 4 v_6 x_7, .row ((tInt .i64)).o 2 v_8 x_9, .row (T6).o 85 v_10 x_11] σ [.cell a_1 [v_2, .i used_4], .row O11 45 v_2 x_3, .cell c_25 [.i o_14.P.Kind, .i o_14.P.N, .i o_14.P.Block], .cell c_16 [.i o_14.Kind, .i o_14.P.Kind, .i o_14.P.N, .i o_14.P.Block, .i o_14.V.Kind, .i o_14.V.N, .i o_14.V.Block, .bool o_14.Write], .cell a_5 [v_6, v_8, v_10, .i Used_12], .row (tBool).o 4 v_6 x_7, .row ((tInt .i64)).o 2 v_8 x_9, .row (T6).o 85 v_10 x_11] := HeldOK.same [2, 3, 0, 4, 5, 6, 7] (by decide) rfl
       refine JA_op (i := 5) (by kernel_rfl) rfl rfl (op_known hk_106 (op_call (f := 15) (fn := Try.f15) (args := [.pointer (some (Addr.add a_1 0)), .agg #[.i o_14.P.Kind, .i o_14.P.N, .i o_14.P.Block], .bool o_14.Write]) (post := mem_Memory_Begin_post σ a_1 v_2 x_3 used_4 (.agg #[.i o_14.P.Kind, .i o_14.P.N, .i o_14.P.Block]) o_14.P o_14.Write) [.cell a_1 [v_2, .i used_4], .row O11 45 v_2 x_3] [.cell c_25 [.i o_14.P.Kind, .i o_14.P.N, .i o_14.P.Block], .cell c_16 [.i o_14.Kind, .i o_14.P.Kind, .i o_14.P.N, .i o_14.P.Block, .i o_14.V.Kind, .i o_14.V.N, .i o_14.V.Block, .bool o_14.Write], .cell a_5 [v_6, v_8, v_10, .i Used_12], .row (tBool).o 4 v_6 x_7, .row ((tInt .i64)).o 2 v_8 x_9, .row (T6).o 85 v_10 x_11] rfl rfl rfl Try.func15 pn15 rfl rfl (fun y st hy hpre => mem_Memory_Begin_ref st σ a_1 v_2 x_3 used_4 (.agg #[.i o_14.P.Kind, .i o_14.P.N, .i o_14.P.Block]) o_14.P (T13_v.2 rfl) o_14.Write hpre y hy) ?_))
       intro z_161 v_155 s_158 PV_156 hz_162 hle_159 hp_157
       obtain rfl := Option.some.inj (hk_106.symm.trans hz_162)
       obtain ⟨rfl, rfl, rfl⟩ := hp_157
       refine ⟨.inl (.inl rfl), ?_⟩
       refine J_select (PV' := [.cell a_5 [v_6, v_8, v_10, .i Used_12], .row (tBool).o 4 v_6 x_7, .row ((tInt .i64)).o 2 v_8 x_9, .row (T6).o 85 v_10 x_11, .cell a_1 [v_2, .i used_4], .row O11 45 v_2 k_105.2, .cell c_25 [.i o_14.P.Kind, .i o_14.P.N, .i o_14.P.Block], .cell c_16 [.i o_14.Kind, .i o_14.P.Kind, .i o_14.P.N, .i o_14.P.Block, .i o_14.V.Kind, .i o_14.V.N, .i o_14.V.Block, .bool o_14.Write]]) [4, 5, 6, 7, 0, 1, 2, 3] (by decide) rfl ?_
       refine JA_op (i := 10) (by kernel_rfl) rfl rfl (op_known hk_108 (op_call (f := 33) (fn := Try.f33) (args := [.pointer (some (Addr.add a_5 0)), .agg #[.i o_14.P.Kind, .i o_14.P.N, .i o_14.P.Block], .bool o_14.Write]) (post := lychgateref06_Begin_post σ a_5 v_6 x_7 v_8 x_9 v_10 x_11 Used_12 (.agg #[.i o_14.P.Kind, .i o_14.P.N, .i o_14.P.Block]) (⟨o_14.P.Kind, o_14.P.N, o_14.P.Block⟩ : Glychgateref06_Value) o_14.Write) [.cell a_5 [v_6, v_8, v_10, .i Used_12], .row (tBool).o 4 v_6 x_7, .row ((tInt .i64)).o 2 v_8 x_9, .row (T6).o 85 v_10 x_11] [.cell a_1 [v_2, .i used_4], .row O11 45 v_2 k_105.2, .cell c_25 [.i o_14.P.Kind, .i o_14.P.N, .i o_14.P.Block], .cell c_16 [.i o_14.Kind, .i o_14.P.Kind, .i o_14.P.N, .i o_14.P.Block, .i o_14.V.Kind, .i o_14.V.N, .i o_14.V.Block, .bool o_14.Write]] rfl rfl rfl Try.func33 pn33 rfl rfl (fun y st hy hpre => lychgateref06_Begin_ref st σ a_5 v_6 x_7 v_8 x_9 v_10 x_11 Used_12 (.agg #[.i o_14.P.Kind, .i o_14.P.N, .i o_14.P.Block]) (⟨o_14.P.Kind, o_14.P.N, o_14.P.Block⟩ : Glychgateref06_Value) (T4_v.2 rfl) o_14.Write hpre y hy) ?_))
       intro z_169 v_163 s_166 PV_164 hz_170 hle_167 hp_165
       obtain rfl := Option.some.inj (hk_108.symm.trans hz_170)
       obtain ⟨rfl, rfl, rfl⟩ := hp_165
       refine ⟨.inl (.inr rfl), ?_⟩
       refine JA_takep 11 rfl hns (by kernel_rfl) (by kernel_rfl) rfl (.inl rfl) rfl rfl rfl (r_eql rfl rfl) ?_
       refine JA_takep 12 rfl hns (by kernel_rfl) (by kernel_rfl) rfl (.inl rfl) rfl rfl rfl (r_assign (v := .bool (decide (k_105.1 = k_107.1))) rfl) ?_
       refine J_select (PV' := [.cell a_1 [v_2, .i used_4], .row O11 45 v_2 k_105.2, .cell a_5 [v_6, v_8, v_10, .i Used_12], .row (tBool).o 4 v_6 x_7, .row ((tInt .i64)).o 2 v_8 x_9, .row (T6).o 85 v_10 k_107.2]) [4, 5, 0, 1, 2, 3] (by decide) rfl ?_
       refine J_prune _ ?_ fun b => hk () _ b _ _ ⟨rfl, rfl, rfl⟩
       exact ⟨rfl, trivial⟩
     ·refine J1_op rfl rfl (op_read rfl rfl (r_load_priv (a := c_16) (off := 7) (cs' := [.bool o_14.Write]) (v := .bool o_14.Write) 1 pu4 pi4 rfl rfl rfl rfl (by decide) rfl) ?_)
      have hS_171 : HeldOK σ [.cell c_25 [.i o_14.P.Kind, .i o_14.P.N, .i o_14.P.Block], .cell c_16 [.i o_14.Kind, .i o_14.P.Kind, .i o_14.P.N, .i o_14.P.Block, .i o_14.V.Kind, .i o_14.V.N, .i o_14.V.Block, .bool o_14.Write], .cell a_1 [v_2, .i used_4], .cell a_5 [v_6, v_8, v_10, .i Used_12], .row (tBool).o 4 v_6 x_7, .row ((tInt .i64)).o 2 v_8 x_9, .row (T6).o 85 v_10 x_11] σ [.cell c_25 [.i o_14.P.Kind, .i o_14.P.N, .i o_14.P.Block], .cell c_16 [.i o_14.Kind, .i o_14.P.Kind, .i o_14.P.N, .i o_14.P.Block, .i o_14.V.Kind, .i o_14.V.N, .i o_14.V.Block, .bool o_14.Write], .cell a_1 [v_2, .i used_4], .row O11 45 v_2 x_3, .cell a_5 [v_6, v_8, v_10, .i Used_12], .row (tBool).o 4 v_6 x_7, .row ((tInt .i64)).o 2 v_8 x_9, .row (T6).o 85 v_10 x_11] := HeldOK.same [0, 1, 2, 4, 5, 6, 7] (by decide) rfl
      refine ⟨.inr hS_171, ?_⟩
      refine JA_two (i := 5) (j := 7) (by kernel_rfl) ?_ ?_
      ·refine J_select (PV' := [.cell a_1 [v_2, .i used_4], .row O11 45 v_2 x_3, .cell c_25 [.i o_14.P.Kind, .i o_14.P.N, .i o_14.P.Block], .cell c_16 [.i o_14.Kind, .i o_14.P.Kind, .i o_14.P.N, .i o_14.P.Block, .i o_14.V.Kind, .i o_14.V.N, .i o_14.V.Block, .bool o_14.Write], .cell a_5 [v_6, v_8, v_10, .i Used_12], .row (tBool).o 4 v_6 x_7, .row ((tInt .i64)).o 2 v_8 x_9, .row (T6).o 85 v_10 x_11]) [2, 3, 0, 1, 4, 5, 6, 7] (by decide) rfl ?_
       have hS_177 : HeldOK σ [.cell c_25 [.i o_14.P.Kind, .i o_14.P.N, .i o_14.P.Block], .cell c_16 [.i o_14.Kind, .i o_14.P.Kind, .i o_14.P.N, .i o_14.P.Block, .i o_14.V.Kind, .i o_14.V.N, .i o_14.V.Block, .bool o_14.Write], .cell a_1 [v_2, .i used_4], .cell a_5 [v_6, v_8, v_10, .i Used_12], .row (tBool).o 4 v_6 x_7, .row ((tInt .i64)).o 2 v_8 x_9, .row (T6).o 85 v_10 x_11] σ [.cell a_1 [v_2, .i used_4], .row O11 45 v_2 x_3, .cell c_25 [.i o_14.P.Kind, .i o_14.P.N, .i o_14.P.Block], .cell c_16 [.i o_14.Kind, .i o_14.P.Kind, .i o_14.P.N, .i o_14.P.Block, .i o_14.V.Kind, .i o_14.V.N, .i o_14.V.Block, .bool o_14.Write], .cell a_5 [v_6, v_8, v_10, .i Used_12], .row (tBool).o 4 v_6 x_7, .row ((tInt .i64)).o 2 v_8 x_9, .row (T6).o 85 v_10 x_11] := HeldOK.same [2, 3, 0, 4, 5, 6, 7] (by decide) rfl
       refine J1_op rfl rfl (op_known hk_106 (op_call (f := 15) (fn := Try.f15) (args := [.pointer (some (Addr.add a_1 0)), .agg #[.i o_14.P.Kind, .i o_14.P.N, .i o_14.P.Block], .bool o_14.Write]) (post := mem_Memory_Begin_post σ a_1 v_2 x_3 used_4 (.agg #[.i o_14.P.Kind, .i o_14.P.N, .i o_14.P.Block]) o_14.P o_14.Write) [.cell a_1 [v_2, .i used_4], .row O11 45 v_2 x_3] [.cell c_25 [.i o_14.P.Kind, .i o_14.P.N, .i o_14.P.Block], .cell c_16 [.i o_14.Kind, .i o_14.P.Kind, .i o_14.P.N, .i o_14.P.Block, .i o_14.V.Kind, .i o_14.V.N, .i o_14.V.Block, .bool o_14.Write], .cell a_5 [v_6, v_8, v_10, .i Used_12], .row (tBool).o 4 v_6 x_7, .row ((tInt .i64)).o 2 v_8 x_9, .row (T6).o 85 v_10 x_11] rfl rfl rfl Try.func15 pn15 rfl rfl (fun y st hy hpre => mem_Memory_Begin_ref st σ a_1 v_2 x_3 used_4 (.agg #[.i o_14.P.Kind, .i o_14.P.N, .i o_14.P.Block]) o_14.P (T13_v.2 rfl) o_14.Write hpre y hy) ?_))
       intro z_178 v_172 s_175 PV_173 hz_179 hle_176 hp_174
       obtain rfl := Option.some.inj (hk_106.symm.trans hz_179)
       obtain ⟨rfl, rfl, rfl⟩ := hp_174
       refine ⟨.inl (.inl rfl), ?_⟩
       refine JA_op (i := 7) (by kernel_rfl) rfl rfl (op_read rfl rfl (r_load_priv (a := c_25) (off := 0) (cs' := [.i o_14.P.Kind, .i o_14.P.N, .i o_14.P.Block]) (v := .agg #[.i o_14.P.Kind, .i o_14.P.N, .i o_14.P.Block]) 2 pu74 pi74 rfl rfl rfl rfl (by decide) rfl) ?_)
       refine ⟨.inl (.inr rfl), ?_⟩
       refine J_select (PV' := [.cell a_5 [v_6, v_8, v_10, .i Used_12], .row (tBool).o 4 v_6 x_7, .row ((tInt .i64)).o 2 v_8 x_9, .row (T6).o 85 v_10 x_11, .cell a_1 [v_2, .i used_4], .row O11 45 v_2 k_105.2, .cell c_25 [.i o_14.P.Kind, .i o_14.P.N, .i o_14.P.Block], .cell c_16 [.i o_14.Kind, .i o_14.P.Kind, .i o_14.P.N, .i o_14.P.Block, .i o_14.V.Kind, .i o_14.V.N, .i o_14.V.Block, .bool o_14.Write]]) [4, 5, 6, 7, 0, 1, 2, 3] (by decide) rfl ?_
       refine JA_op (i := 10) (by kernel_rfl) rfl rfl (op_known hk_108 (op_call (f := 33) (fn := Try.f33) (args := [.pointer (some (Addr.add a_5 0)), .agg #[.i o_14.P.Kind, .i o_14.P.N, .i o_14.P.Block], .bool o_14.Write]) (post := lychgateref06_Begin_post σ a_5 v_6 x_7 v_8 x_9 v_10 x_11 Used_12 (.agg #[.i o_14.P.Kind, .i o_14.P.N, .i o_14.P.Block]) (⟨o_14.P.Kind, o_14.P.N, o_14.P.Block⟩ : Glychgateref06_Value) o_14.Write) [.cell a_5 [v_6, v_8, v_10, .i Used_12], .row (tBool).o 4 v_6 x_7, .row ((tInt .i64)).o 2 v_8 x_9, .row (T6).o 85 v_10 x_11] [.cell a_1 [v_2, .i used_4], .row O11 45 v_2 k_105.2, .cell c_25 [.i o_14.P.Kind, .i o_14.P.N, .i o_14.P.Block], .cell c_16 [.i o_14.Kind, .i o_14.P.Kind, .i o_14.P.N, .i o_14.P.Block, .i o_14.V.Kind, .i o_14.V.N, .i o_14.V.Block, .bool o_14.Write]] rfl rfl rfl Try.func33 pn33 rfl rfl (fun y st hy hpre => lychgateref06_Begin_ref st σ a_5 v_6 x_7 v_8 x_9 v_10 x_11 Used_12 (.agg #[.i o_14.P.Kind, .i o_14.P.N, .i o_14.P.Block]) (⟨o_14.P.Kind, o_14.P.N, o_14.P.Block⟩ : Glychgateref06_Value) (T4_v.2 rfl) o_14.Write hpre y hy) ?_))
       intro z_186 v_180 s_183 PV_181 hz_187 hle_184 hp_182
       obtain rfl := Option.some.inj (hk_108.symm.trans hz_187)
       obtain ⟨rfl, rfl, rfl⟩ := hp_182
       refine ⟨.inl (.inr rfl), ?_⟩
       refine JA_takep 11 rfl hns (by kernel_rfl) (by kernel_rfl) rfl (.inl rfl) rfl rfl rfl (r_eql rfl rfl) ?_
       refine JA_takep 12 rfl hns (by kernel_rfl) (by kernel_rfl) rfl (.inl rfl) rfl rfl rfl (r_assign (v := .bool (decide (k_105.1 = k_107.1))) rfl) ?_
       refine J_select (PV' := [.cell a_1 [v_2, .i used_4], .row O11 45 v_2 k_105.2, .cell a_5 [v_6, v_8, v_10, .i Used_12], .row (tBool).o 4 v_6 x_7, .row ((tInt .i64)).o 2 v_8 x_9, .row (T6).o 85 v_10 k_107.2]) [4, 5, 0, 1, 2, 3] (by decide) rfl ?_
       refine J_prune _ ?_ fun b => hk () _ b _ _ ⟨rfl, rfl, rfl⟩
       exact ⟨rfl, trivial⟩
      ·refine J1_op rfl rfl (op_read rfl rfl (r_load_priv (a := c_25) (off := 0) (cs' := [.i o_14.P.Kind, .i o_14.P.N, .i o_14.P.Block]) (v := .agg #[.i o_14.P.Kind, .i o_14.P.N, .i o_14.P.Block]) 0 pu74 pi74 rfl rfl rfl rfl (by decide) rfl) ?_)
       have hS_188 : HeldOK σ [.cell c_25 [.i o_14.P.Kind, .i o_14.P.N, .i o_14.P.Block], .cell c_16 [.i o_14.Kind, .i o_14.P.Kind, .i o_14.P.N, .i o_14.P.Block, .i o_14.V.Kind, .i o_14.V.N, .i o_14.V.Block, .bool o_14.Write], .cell a_1 [v_2, .i used_4], .cell a_5 [v_6, v_8, v_10, .i Used_12], .row (tBool).o 4 v_6 x_7, .row ((tInt .i64)).o 2 v_8 x_9, .row (T6).o 85 v_10 x_11] σ [.cell c_25 [.i o_14.P.Kind, .i o_14.P.N, .i o_14.P.Block], .cell c_16 [.i o_14.Kind, .i o_14.P.Kind, .i o_14.P.N, .i o_14.P.Block, .i o_14.V.Kind, .i o_14.V.N, .i o_14.V.Block, .bool o_14.Write], .cell a_1 [v_2, .i used_4], .row O11 45 v_2 x_3, .cell a_5 [v_6, v_8, v_10, .i Used_12], .row (tBool).o 4 v_6 x_7, .row ((tInt .i64)).o 2 v_8 x_9, .row (T6).o 85 v_10 x_11] := HeldOK.same [0, 1, 2, 4, 5, 6, 7] (by decide) rfl
       refine ⟨.inr hS_188, ?_⟩
       refine J_select (PV' := [.cell a_1 [v_2, .i used_4], .row O11 45 v_2 x_3, .cell c_25 [.i o_14.P.Kind, .i o_14.P.N, .i o_14.P.Block], .cell c_16 [.i o_14.Kind, .i o_14.P.Kind, .i o_14.P.N, .i o_14.P.Block, .i o_14.V.Kind, .i o_14.V.N, .i o_14.V.Block, .bool o_14.Write], .cell a_5 [v_6, v_8, v_10, .i Used_12], .row (tBool).o 4 v_6 x_7, .row ((tInt .i64)).o 2 v_8 x_9, .row (T6).o 85 v_10 x_11]) [2, 3, 0, 1, 4, 5, 6, 7] (by decide) rfl ?_
       have hS_194 : HeldOK σ [.cell c_25 [.i o_14.P.Kind, .i o_14.P.N, .i o_14.P.Block], .cell c_16 [.i o_14.Kind, .i o_14.P.Kind, .i o_14.P.N, .i o_14.P.Block, .i o_14.V.Kind, .i o_14.V.N, .i o_14.V.Block, .bool o_14.Write], .cell a_1 [v_2, .i used_4], .cell a_5 [v_6, v_8, v_10, .i Used_12], .row (tBool).o 4 v_6 x_7, .row ((tInt .i64)).o 2 v_8 x_9, .row (T6).o 85 v_10 x_11] σ [.cell a_1 [v_2, .i used_4], .row O11 45 v_2 x_3, .cell c_25 [.i o_14.P.Kind, .i o_14.P.N, .i o_14.P.Block], .cell c_16 [.i o_14.Kind, .i o_14.P.Kind, .i o_14.P.N, .i o_14.P.Block, .i o_14.V.Kind, .i o_14.V.N, .i o_14.V.Block, .bool o_14.Write], .cell a_5 [v_6, v_8, v_10, .i Used_12], .row (tBool).o 4 v_6 x_7, .row ((tInt .i64)).o 2 v_8 x_9, .row (T6).o 85 v_10 x_11] := HeldOK.same [2, 3, 0, 4, 5, 6, 7] (by decide) rfl
       refine JA_op (i := 5) (by kernel_rfl) rfl rfl (op_known hk_106 (op_call (f := 15) (fn := Try.f15) (args := [.pointer (some (Addr.add a_1 0)), .agg #[.i o_14.P.Kind, .i o_14.P.N, .i o_14.P.Block], .bool o_14.Write]) (post := mem_Memory_Begin_post σ a_1 v_2 x_3 used_4 (.agg #[.i o_14.P.Kind, .i o_14.P.N, .i o_14.P.Block]) o_14.P o_14.Write) [.cell a_1 [v_2, .i used_4], .row O11 45 v_2 x_3] [.cell c_25 [.i o_14.P.Kind, .i o_14.P.N, .i o_14.P.Block], .cell c_16 [.i o_14.Kind, .i o_14.P.Kind, .i o_14.P.N, .i o_14.P.Block, .i o_14.V.Kind, .i o_14.V.N, .i o_14.V.Block, .bool o_14.Write], .cell a_5 [v_6, v_8, v_10, .i Used_12], .row (tBool).o 4 v_6 x_7, .row ((tInt .i64)).o 2 v_8 x_9, .row (T6).o 85 v_10 x_11] rfl rfl rfl Try.func15 pn15 rfl rfl (fun y st hy hpre => mem_Memory_Begin_ref st σ a_1 v_2 x_3 used_4 (.agg #[.i o_14.P.Kind, .i o_14.P.N, .i o_14.P.Block]) o_14.P (T13_v.2 rfl) o_14.Write hpre y hy) ?_))
       intro z_195 v_189 s_192 PV_190 hz_196 hle_193 hp_191
       obtain rfl := Option.some.inj (hk_106.symm.trans hz_196)
       obtain ⟨rfl, rfl, rfl⟩ := hp_191
       refine ⟨.inl (.inl rfl), ?_⟩
       refine J_select (PV' := [.cell a_5 [v_6, v_8, v_10, .i Used_12], .row (tBool).o 4 v_6 x_7, .row ((tInt .i64)).o 2 v_8 x_9, .row (T6).o 85 v_10 x_11, .cell a_1 [v_2, .i used_4], .row O11 45 v_2 k_105.2, .cell c_25 [.i o_14.P.Kind, .i o_14.P.N, .i o_14.P.Block], .cell c_16 [.i o_14.Kind, .i o_14.P.Kind, .i o_14.P.N, .i o_14.P.Block, .i o_14.V.Kind, .i o_14.V.N, .i o_14.V.Block, .bool o_14.Write]]) [4, 5, 6, 7, 0, 1, 2, 3] (by decide) rfl ?_
       refine JA_op (i := 10) (by kernel_rfl) rfl rfl (op_known hk_108 (op_call (f := 33) (fn := Try.f33) (args := [.pointer (some (Addr.add a_5 0)), .agg #[.i o_14.P.Kind, .i o_14.P.N, .i o_14.P.Block], .bool o_14.Write]) (post := lychgateref06_Begin_post σ a_5 v_6 x_7 v_8 x_9 v_10 x_11 Used_12 (.agg #[.i o_14.P.Kind, .i o_14.P.N, .i o_14.P.Block]) (⟨o_14.P.Kind, o_14.P.N, o_14.P.Block⟩ : Glychgateref06_Value) o_14.Write) [.cell a_5 [v_6, v_8, v_10, .i Used_12], .row (tBool).o 4 v_6 x_7, .row ((tInt .i64)).o 2 v_8 x_9, .row (T6).o 85 v_10 x_11] [.cell a_1 [v_2, .i used_4], .row O11 45 v_2 k_105.2, .cell c_25 [.i o_14.P.Kind, .i o_14.P.N, .i o_14.P.Block], .cell c_16 [.i o_14.Kind, .i o_14.P.Kind, .i o_14.P.N, .i o_14.P.Block, .i o_14.V.Kind, .i o_14.V.N, .i o_14.V.Block, .bool o_14.Write]] rfl rfl rfl Try.func33 pn33 rfl rfl (fun y st hy hpre => lychgateref06_Begin_ref st σ a_5 v_6 x_7 v_8 x_9 v_10 x_11 Used_12 (.agg #[.i o_14.P.Kind, .i o_14.P.N, .i o_14.P.Block]) (⟨o_14.P.Kind, o_14.P.N, o_14.P.Block⟩ : Glychgateref06_Value) (T4_v.2 rfl) o_14.Write hpre y hy) ?_))
       intro z_203 v_197 s_200 PV_198 hz_204 hle_201 hp_199
       obtain rfl := Option.some.inj (hk_108.symm.trans hz_204)
       obtain ⟨rfl, rfl, rfl⟩ := hp_199
       refine ⟨.inl (.inr rfl), ?_⟩
       refine JA_takep 11 rfl hns (by kernel_rfl) (by kernel_rfl) rfl (.inl rfl) rfl rfl rfl (r_eql rfl rfl) ?_
       refine JA_takep 12 rfl hns (by kernel_rfl) (by kernel_rfl) rfl (.inl rfl) rfl rfl rfl (r_assign (v := .bool (decide (k_105.1 = k_107.1))) rfl) ?_
       refine J_select (PV' := [.cell a_1 [v_2, .i used_4], .row O11 45 v_2 k_105.2, .cell a_5 [v_6, v_8, v_10, .i Used_12], .row (tBool).o 4 v_6 x_7, .row ((tInt .i64)).o 2 v_8 x_9, .row (T6).o 85 v_10 k_107.2]) [4, 5, 0, 1, 2, 3] (by decide) rfl ?_
       refine J_prune _ ?_ fun b => hk () _ b _ _ ⟨rfl, rfl, rfl⟩
       exact ⟨rfl, trivial⟩
    ·rintro y_109 _ b s_112 _ ⟨rfl, rfl, rfl⟩
     unfold lychgatelaw06_step_K2
     refine JA_done (by kernel_rfl) ?_
     refine J_then ?_
     refine J_ret ?_
     refine J_in_ret ?_
     refine J_then_ret ?_
     exact J_returnV1 (PV' := [.cell a_1 [v_2, .i used_4], .row O11 45 v_2 k_105.2, .cell a_5 [v_6, v_8, v_10, .i Used_12], .row (tBool).o 4 v_6 x_7, .row ((tInt .i64)).o 2 v_8 x_9, .row (T6).o 85 v_10 k_107.2]) rfl rv_tmp [0, 1, 2, 3, 4, 5] (by decide) rfl ⟨v_2, v_6, v_8, v_10, rfl, rfl, rfl⟩
   ·refine J_seq ?_
    refine J_region ?_
    refine JL_op rfl (op_read rfl rfl (r_eql rfl rfl) ?_)
    refine JL_op rfl (op_read rfl rfl (r_assign (v := .bool (decide (o_14.Kind = 4))) rfl) ?_)
    refine JL_nil ?_
    refine J_then ?_
    refine J_cond rfl (fun hc_205 => ?_) (fun hc_205 => ?_)
    ·refine J_seq ?_
     refine J_region ?_
     refine JL_op rfl (op_read rfl rfl (r_move (v := .pointer (some (Addr.add a_1 0))) rfl) ?_)
     refine JL_op rfl (op_read rfl rfl (r_fieldAddr (r := Addr.add c_16 1) pu58 (f := Try.pf58.getD 1 default) rfl pi29 (by decide) rfl (Addr.add_add _ _ _)) ?_)
     refine JL_op rfl (op_read rfl rfl (r_load_priv (a := c_16) (off := 1) (cs' := [.i o_14.P.Kind, .i o_14.P.N, .i o_14.P.Block]) (v := .agg #[.i o_14.P.Kind, .i o_14.P.N, .i o_14.P.Block]) 1 pu29 pi29 rfl rfl rfl rfl (by decide) rfl) ?_)
     refine JL_op rfl (op_read rfl rfl (r_fieldAddr (r := Addr.add c_16 7) pu58 (f := Try.pf58.getD 3 default) rfl pi4 (by decide) rfl (Addr.add_add _ _ _)) ?_)
     refine JL_op rfl (op_read rfl rfl (r_load_priv (a := c_16) (off := 7) (cs' := [.bool o_14.Write]) (v := .bool o_14.Write) 1 pu4 pi4 rfl rfl rfl rfl (by decide) rfl) ?_)
     refine JL_op rfl (op_read rfl rfl (r_fieldAddr (r := Addr.add c_16 4) pu58 (f := Try.pf58.getD 2 default) rfl pi29 (by decide) rfl (Addr.add_add _ _ _)) ?_)
     refine JL_op rfl (op_read rfl rfl (r_load_priv (a := c_16) (off := 4) (cs' := [.i o_14.V.Kind, .i o_14.V.N, .i o_14.V.Block]) (v := .agg #[.i o_14.V.Kind, .i o_14.V.N, .i o_14.V.Block]) 1 pu29 pi29 rfl rfl rfl rfl (by decide) rfl) ?_)
     refine J_select (PV' := [.cell a_1 [v_2, .i used_4], .row O11 45 v_2 x_3, .cell c_25 [.i o_14.P.Kind, .i o_14.P.N, .i o_14.P.Block], .cell c_16 [.i o_14.Kind, .i o_14.P.Kind, .i o_14.P.N, .i o_14.P.Block, .i o_14.V.Kind, .i o_14.V.N, .i o_14.V.Block, .bool o_14.Write], .cell a_5 [v_6, v_8, v_10, .i Used_12], .row (tBool).o 4 v_6 x_7, .row ((tInt .i64)).o 2 v_8 x_9, .row (T6).o 85 v_10 x_11]) [2, 3, 0, 1, 4, 5, 6, 7] (by decide) rfl ?_
     refine JL_op rfl (op_call (f := 16) (fn := Try.f16) (args := [.pointer (some (Addr.add a_1 0)), .agg #[.i o_14.P.Kind, .i o_14.P.N, .i o_14.P.Block], .bool o_14.Write, .agg #[.i o_14.V.Kind, .i o_14.V.N, .i o_14.V.Block]]) (post := mem_Memory_End_post σ a_1 v_2 x_3 used_4 (.agg #[.i o_14.P.Kind, .i o_14.P.N, .i o_14.P.Block]) o_14.P o_14.Write (.agg #[.i o_14.V.Kind, .i o_14.V.N, .i o_14.V.Block]) o_14.V) [.cell a_1 [v_2, .i used_4], .row O11 45 v_2 x_3] [.cell c_25 [.i o_14.P.Kind, .i o_14.P.N, .i o_14.P.Block], .cell c_16 [.i o_14.Kind, .i o_14.P.Kind, .i o_14.P.N, .i o_14.P.Block, .i o_14.V.Kind, .i o_14.V.N, .i o_14.V.Block, .bool o_14.Write], .cell a_5 [v_6, v_8, v_10, .i Used_12], .row (tBool).o 4 v_6 x_7, .row ((tInt .i64)).o 2 v_8 x_9, .row (T6).o 85 v_10 x_11] rfl rfl rfl Try.func16 pn16 rfl rfl (fun y st hy hpre => mem_Memory_End_ref st σ a_1 v_2 x_3 used_4 (.agg #[.i o_14.P.Kind, .i o_14.P.N, .i o_14.P.Block]) o_14.P (T13_v.2 rfl) o_14.Write (.agg #[.i o_14.V.Kind, .i o_14.V.N, .i o_14.V.Block]) o_14.V (T13_v.2 rfl) hpre y hy) ?_)
     intro r_206 v_208 s_211 PV_209 hr_207 hle_212 hp_210
     obtain ⟨rfl, rfl, rfl⟩ := hp_210
     refine JL_op rfl (op_read rfl rfl (r_move (v := .tuple #[.agg #[.i r_206.1.Kind, .i r_206.1.N, .i r_206.1.Block], .i r_206.2.1]) rfl) ?_)
     refine JL_op rfl (op_read rfl rfl (r_extract (v := .agg #[.i r_206.1.Kind, .i r_206.1.N, .i r_206.1.Block]) rfl rfl) ?_)
     refine JL_op rfl (op_read rfl rfl (r_extract (v := .i r_206.2.1) rfl rfl) ?_)
     refine JL_op rfl (op_alloc (cs := [.i 0, .i 0, .i 0]) rfl pi29 rfl rfl ?_)
     intro c_213
     refine JL_op rfl (op_store_priv (a := c_213) (off := 0) (vs := [.i r_206.1.Kind, .i r_206.1.N, .i r_206.1.Block]) (cs' := [.i r_206.1.Kind, .i r_206.1.N, .i r_206.1.Block]) (PV' := [.cell c_213 [.i r_206.1.Kind, .i r_206.1.N, .i r_206.1.Block], .cell a_1 [v_2, .i used_4], .row O11 45 v_2 r_206.2.2, .cell c_25 [.i o_14.P.Kind, .i o_14.P.N, .i o_14.P.Block], .cell c_16 [.i o_14.Kind, .i o_14.P.Kind, .i o_14.P.N, .i o_14.P.Block, .i o_14.V.Kind, .i o_14.V.N, .i o_14.V.Block, .bool o_14.Write], .cell a_5 [v_6, v_8, v_10, .i Used_12], .row (tBool).o 4 v_6 x_7, .row ((tInt .i64)).o 2 v_8 x_9, .row (T6).o 85 v_10 x_11]) 0 pi29 rfl rfl rfl ⟨rfl, rfl, rfl, trivial⟩ rfl rfl rfl rfl rfl ?_)
     refine JL_op rfl (op_read rfl rfl (r_assign (v := .i r_206.2.1) rfl) ?_)
     refine JL_nil ?_
     refine J_then ?_
     refine J_seq ?_
     refine J_region_any 7 [.cell c_213 [.i r_206.1.Kind, .i r_206.1.N, .i r_206.1.Block], .cell a_1 [v_2, .i used_4], .cell c_25 [.i o_14.P.Kind, .i o_14.P.N, .i o_14.P.Block], .cell c_16 [.i o_14.Kind, .i o_14.P.Kind, .i o_14.P.N, .i o_14.P.Block, .i o_14.V.Kind, .i o_14.V.N, .i o_14.V.Block, .bool o_14.Write], .cell a_5 [v_6, v_8, v_10, .i Used_12], .row (tBool).o 4 v_6 x_7, .row ((tInt .i64)).o 2 v_8 x_9, .row (T6).o 85 v_10 x_11] Try.mixed (by kernel_rfl) fun hns => ?_
     have hS_215 : HeldOK σ [.cell c_213 [.i r_206.1.Kind, .i r_206.1.N, .i r_206.1.Block], .cell a_1 [v_2, .i used_4], .cell c_25 [.i o_14.P.Kind, .i o_14.P.N, .i o_14.P.Block], .cell c_16 [.i o_14.Kind, .i o_14.P.Kind, .i o_14.P.N, .i o_14.P.Block, .i o_14.V.Kind, .i o_14.V.N, .i o_14.V.Block, .bool o_14.Write], .cell a_5 [v_6, v_8, v_10, .i Used_12], .row (tBool).o 4 v_6 x_7, .row ((tInt .i64)).o 2 v_8 x_9, .row (T6).o 85 v_10 x_11] σ [.cell c_213 [.i r_206.1.Kind, .i r_206.1.N, .i r_206.1.Block], .cell a_1 [v_2, .i used_4], .row O11 45 v_2 r_206.2.2, .cell c_25 [.i o_14.P.Kind, .i o_14.P.N, .i o_14.P.Block], .cell c_16 [.i o_14.Kind, .i o_14.P.Kind, .i o_14.P.N, .i o_14.P.Block, .i o_14.V.Kind, .i o_14.V.N, .i o_14.V.Block, .bool o_14.Write], .cell a_5 [v_6, v_8, v_10, .i Used_12], .row (tBool).o 4 v_6 x_7, .row ((tInt .i64)).o 2 v_8 x_9, .row (T6).o 85 v_10 x_11] := HeldOK.same [0, 1, 3, 4, 5, 6, 7, 8] (by decide) rfl
     refine JA_takep 0 rfl hns (by kernel_rfl) (by kernel_rfl) rfl (.inr hS_215) rfl rfl rfl (r_move (v := .pointer (some (Addr.add a_5 0))) rfl) ?_
     refine JA_take 1 rfl hns (by kernel_rfl) (by kernel_rfl) (by kernel_rfl) rfl (by kernel_rfl) hS_215 rfl rfl rfl (r_load_priv (a := c_25) (off := 0) (cs' := [.i o_14.P.Kind, .i o_14.P.N, .i o_14.P.Block]) (v := .agg #[.i o_14.P.Kind, .i o_14.P.N, .i o_14.P.Block]) 2 pu74 pi74 rfl rfl rfl rfl (by decide) rfl) ?_
     refine JA_takep 2 rfl hns (by kernel_rfl) (by kernel_rfl) rfl (.inr hS_215) rfl rfl rfl (r_fieldAddr (r := Addr.add c_16 7) pu58 (f := Try.pf58.getD 3 default) rfl pi4 (by decide) rfl (Addr.add_add _ _ _)) ?_
     refine JA_take 3 rfl hns (by kernel_rfl) (by kernel_rfl) (by kernel_rfl) rfl (by kernel_rfl) hS_215 rfl rfl rfl (r_load_priv (a := c_16) (off := 7) (cs' := [.bool o_14.Write]) (v := .bool o_14.Write) 3 pu4 pi4 rfl rfl rfl rfl (by decide) rfl) ?_
     refine JA_takep 4 rfl hns (by kernel_rfl) (by kernel_rfl) rfl (.inr hS_215) rfl rfl rfl (r_fieldAddr (r := Addr.add c_16 4) pu58 (f := Try.pf58.getD 2 default) rfl pi29 (by decide) rfl (Addr.add_add _ _ _)) ?_
     refine JA_take 5 rfl hns (by kernel_rfl) (by kernel_rfl) (by kernel_rfl) rfl (by kernel_rfl) hS_215 rfl rfl rfl (r_load_priv (a := c_16) (off := 4) (cs' := [.i o_14.V.Kind, .i o_14.V.N, .i o_14.V.Block]) (v := .agg #[.i o_14.V.Kind, .i o_14.V.N, .i o_14.V.Block]) 3 pu29 pi29 rfl rfl rfl rfl (by decide) rfl) ?_
     refine J_bind fun k_216 hk_217 => ?_
     refine J_bind fun k_218 hk_219 => ?_
     refine J_meetD (fun y => lychgatelaw06_step_K3 Used_12 k_218 r_206 used_4 x_7 x_9 y) 0 #[true, true, true, true, true, true, true, true, true, true, true, true, true, true] (fun (y : Unit) L τ PV => ∃ (w0 : Addr), σ = τ ∧ L = [(12, .pointer (some (Addr.add c_213 0))), (13, .i r_206.2.1), (14, .pointer (some (Addr.add w0 0))), (15, .i k_218.2.1)] ∧ PV = [.cell c_213 [.i r_206.1.Kind, .i r_206.1.N, .i r_206.1.Block], .cell w0 [.i k_218.1.Kind, .i k_218.1.N, .i k_218.1.Block], .cell a_1 [v_2, .i used_4], .row O11 45 v_2 r_206.2.2, .cell a_5 [v_6, v_8, v_10, .i Used_12], .row (tBool).o 4 v_6 x_7, .row ((tInt .i64)).o 2 v_8 x_9, .row (T6).o 85 v_10 k_218.2.2]) (fun hk => ?_) ?_
     ·refine JA_two (i := 6) (j := 11) (by kernel_rfl) ?_ ?_
      ·refine J1_op rfl rfl (op_known hk_217 (op_call (f := 30) (fn := Try.f30) (args := [.agg #[.i o_14.V.Kind, .i o_14.V.N, .i o_14.V.Block]]) (post := lychgatelaw06_val_post σ (.agg #[.i o_14.V.Kind, .i o_14.V.N, .i o_14.V.Block]) o_14.V) [] [.cell c_213 [.i r_206.1.Kind, .i r_206.1.N, .i r_206.1.Block], .cell a_1 [v_2, .i used_4], .row O11 45 v_2 r_206.2.2, .cell c_25 [.i o_14.P.Kind, .i o_14.P.N, .i o_14.P.Block], .cell c_16 [.i o_14.Kind, .i o_14.P.Kind, .i o_14.P.N, .i o_14.P.Block, .i o_14.V.Kind, .i o_14.V.N, .i o_14.V.Block, .bool o_14.Write], .cell a_5 [v_6, v_8, v_10, .i Used_12], .row (tBool).o 4 v_6 x_7, .row ((tInt .i64)).o 2 v_8 x_9, .row (T6).o 85 v_10 x_11] rfl rfl rfl Try.func30 pn30 rfl rfl (fun y st hy hpre => lychgatelaw06_val_ref st σ (.agg #[.i o_14.V.Kind, .i o_14.V.N, .i o_14.V.Block]) o_14.V (T13_v.2 rfl) hpre y hy) ?_))
       intro z_241 v_236 s_239 PV_237 hz_242 hle_240 hp_238
       obtain rfl := Option.some.inj (hk_217.symm.trans hz_242)
       obtain ⟨rfl, rfl, rfl⟩ := hp_238
       have hS_243 : HeldOK σ [.cell c_213 [.i r_206.1.Kind, .i r_206.1.N, .i r_206.1.Block], .cell a_1 [v_2, .i used_4], .cell c_25 [.i o_14.P.Kind, .i o_14.P.N, .i o_14.P.Block], .cell c_16 [.i o_14.Kind, .i o_14.P.Kind, .i o_14.P.N, .i o_14.P.Block, .i o_14.V.Kind, .i o_14.V.N, .i o_14.V.Block, .bool o_14.Write], .cell a_5 [v_6, v_8, v_10, .i Used_12], .row (tBool).o 4 v_6 x_7, .row ((tInt .i64)).o 2 v_8 x_9, .row (T6).o 85 v_10 x_11] σ [.cell c_213 [.i r_206.1.Kind, .i r_206.1.N, .i r_206.1.Block], .cell a_1 [v_2, .i used_4], .row O11 45 v_2 r_206.2.2, .cell c_25 [.i o_14.P.Kind, .i o_14.P.N, .i o_14.P.Block], .cell c_16 [.i o_14.Kind, .i o_14.P.Kind, .i o_14.P.N, .i o_14.P.Block, .i o_14.V.Kind, .i o_14.V.N, .i o_14.V.Block, .bool o_14.Write], .cell a_5 [v_6, v_8, v_10, .i Used_12], .row (tBool).o 4 v_6 x_7, .row ((tInt .i64)).o 2 v_8 x_9, .row (T6).o 85 v_10 x_11] := HeldOK.same [0, 1, 3, 4, 5, 6, 7, 8] (by decide) rfl
       refine ⟨.inr hS_243, ?_⟩
       refine JA_two (i := 7) (j := 11) (by kernel_rfl) ?_ ?_
       ·refine J_select (PV' := [.cell a_5 [v_6, v_8, v_10, .i Used_12], .row (tBool).o 4 v_6 x_7, .row ((tInt .i64)).o 2 v_8 x_9, .row (T6).o 85 v_10 x_11, .cell c_213 [.i r_206.1.Kind, .i r_206.1.N, .i r_206.1.Block], .cell a_1 [v_2, .i used_4], .row O11 45 v_2 r_206.2.2, .cell c_25 [.i o_14.P.Kind, .i o_14.P.N, .i o_14.P.Block], .cell c_16 [.i o_14.Kind, .i o_14.P.Kind, .i o_14.P.N, .i o_14.P.Block, .i o_14.V.Kind, .i o_14.V.N, .i o_14.V.Block, .bool o_14.Write]]) [5, 6, 7, 8, 0, 1, 2, 3, 4] (by decide) rfl ?_
        have hS_249 : HeldOK σ [.cell c_213 [.i r_206.1.Kind, .i r_206.1.N, .i r_206.1.Block], .cell a_1 [v_2, .i used_4], .cell c_25 [.i o_14.P.Kind, .i o_14.P.N, .i o_14.P.Block], .cell c_16 [.i o_14.Kind, .i o_14.P.Kind, .i o_14.P.N, .i o_14.P.Block, .i o_14.V.Kind, .i o_14.V.N, .i o_14.V.Block, .bool o_14.Write], .cell a_5 [v_6, v_8, v_10, .i Used_12], .row (tBool).o 4 v_6 x_7, .row ((tInt .i64)).o 2 v_8 x_9, .row (T6).o 85 v_10 x_11] σ [.cell a_5 [v_6, v_8, v_10, .i Used_12], .row (tBool).o 4 v_6 x_7, .row ((tInt .i64)).o 2 v_8 x_9, .row (T6).o 85 v_10 x_11, .cell c_213 [.i r_206.1.Kind, .i r_206.1.N, .i r_206.1.Block], .cell a_1 [v_2, .i used_4], .row O11 45 v_2 r_206.2.2, .cell c_25 [.i o_14.P.Kind, .i o_14.P.N, .i o_14.P.Block], .cell c_16 [.i o_14.Kind, .i o_14.P.Kind, .i o_14.P.N, .i o_14.P.Block, .i o_14.V.Kind, .i o_14.V.N, .i o_14.V.Block, .bool o_14.Write]] := HeldOK.same [4, 5, 7, 8, 0, 1, 2, 3] (by decide) rfl
        refine J1_op rfl rfl (op_known hk_219 (op_call (f := 34) (fn := Try.f34) (args := [.pointer (some (Addr.add a_5 0)), .agg #[.i o_14.P.Kind, .i o_14.P.N, .i o_14.P.Block], .bool o_14.Write, .agg #[.i o_14.V.Kind, .i o_14.V.N, .i o_14.V.Block]]) (post := lychgateref06_End_post σ a_5 v_6 x_7 v_8 x_9 v_10 x_11 Used_12 (.agg #[.i o_14.P.Kind, .i o_14.P.N, .i o_14.P.Block]) (⟨o_14.P.Kind, o_14.P.N, o_14.P.Block⟩ : Glychgateref06_Value) o_14.Write (.agg #[.i o_14.V.Kind, .i o_14.V.N, .i o_14.V.Block]) (⟨o_14.V.Kind, o_14.V.N, o_14.V.Block⟩ : Glychgateref06_Value)) [.cell a_5 [v_6, v_8, v_10, .i Used_12], .row (tBool).o 4 v_6 x_7, .row ((tInt .i64)).o 2 v_8 x_9, .row (T6).o 85 v_10 x_11] [.cell c_213 [.i r_206.1.Kind, .i r_206.1.N, .i r_206.1.Block], .cell a_1 [v_2, .i used_4], .row O11 45 v_2 r_206.2.2, .cell c_25 [.i o_14.P.Kind, .i o_14.P.N, .i o_14.P.Block], .cell c_16 [.i o_14.Kind, .i o_14.P.Kind, .i o_14.P.N, .i o_14.P.Block, .i o_14.V.Kind, .i o_14.V.N, .i o_14.V.Block, .bool o_14.Write]] rfl rfl rfl Try.func34 pn34 rfl rfl (fun y st hy hpre => lychgateref06_End_ref st σ a_5 v_6 x_7 v_8 x_9 v_10 x_11 Used_12 (.agg #[.i o_14.P.Kind, .i o_14.P.N, .i o_14.P.Block]) (⟨o_14.P.Kind, o_14.P.N, o_14.P.Block⟩ : Glychgateref06_Value) (T4_v.2 rfl) o_14.Write (.agg #[.i o_14.V.Kind, .i o_14.V.N, .i o_14.V.Block]) (⟨o_14.V.Kind, o_14.V.N, o_14.V.Block⟩ : Glychgateref06_Value) (T4_v.2 rfl) hpre y hy) ?_))
        intro z_250 v_244 s_247 PV_245 hz_251 hle_248 hp_246
        obtain rfl := Option.some.inj (hk_219.symm.trans hz_251)
        obtain ⟨rfl, rfl, rfl⟩ := hp_246
        refine ⟨.inl (.inl rfl), ?_⟩
        refine JA_takep 8 rfl hns (by kernel_rfl) (by kernel_rfl) rfl (.inl rfl) rfl rfl rfl (r_move (v := .tuple #[.agg #[.i k_218.1.Kind, .i k_218.1.N, .i k_218.1.Block], .i k_218.2.1]) rfl) ?_
        refine JA_takep 9 rfl hns (by kernel_rfl) (by kernel_rfl) rfl (.inl rfl) rfl rfl rfl (r_extract (v := .agg #[.i k_218.1.Kind, .i k_218.1.N, .i k_218.1.Block]) rfl rfl) ?_
        refine JA_takep 10 rfl hns (by kernel_rfl) (by kernel_rfl) rfl (.inl rfl) rfl rfl rfl (r_extract (v := .i k_218.2.1) rfl rfl) ?_
        refine JA_op (i := 11) (by kernel_rfl) rfl rfl (op_alloc (cs := [.i 0, .i 0, .i 0]) rfl pi74 rfl rfl ?_)
        intro c_252
        refine ⟨.inl (.inr rfl), ?_⟩
        refine JA_op (i := 12) (by kernel_rfl) rfl rfl (op_store_priv (a := c_252) (off := 0) (vs := [.i k_218.1.Kind, .i k_218.1.N, .i k_218.1.Block]) (cs' := [.i k_218.1.Kind, .i k_218.1.N, .i k_218.1.Block]) (PV' := [.cell c_252 [.i k_218.1.Kind, .i k_218.1.N, .i k_218.1.Block], .cell a_5 [v_6, v_8, v_10, .i Used_12], .row (tBool).o 4 v_6 x_7, .row ((tInt .i64)).o 2 v_8 x_9, .row (T6).o 85 v_10 k_218.2.2, .cell c_213 [.i r_206.1.Kind, .i r_206.1.N, .i r_206.1.Block], .cell a_1 [v_2, .i used_4], .row O11 45 v_2 r_206.2.2, .cell c_25 [.i o_14.P.Kind, .i o_14.P.N, .i o_14.P.Block], .cell c_16 [.i o_14.Kind, .i o_14.P.Kind, .i o_14.P.N, .i o_14.P.Block, .i o_14.V.Kind, .i o_14.V.N, .i o_14.V.Block, .bool o_14.Write]]) 0 pi74 rfl rfl rfl ⟨rfl, rfl, rfl, trivial⟩ rfl rfl rfl rfl rfl ?_)
        refine ⟨.inl (.inr rfl), ?_⟩
        refine JA_takep 13 rfl hns (by kernel_rfl) (by kernel_rfl) rfl (.inl rfl) rfl rfl rfl (r_assign (v := .i k_218.2.1) rfl) ?_
        refine J_select (PV' := [.cell c_213 [.i r_206.1.Kind, .i r_206.1.N, .i r_206.1.Block], .cell c_252 [.i k_218.1.Kind, .i k_218.1.N, .i k_218.1.Block], .cell a_1 [v_2, .i used_4], .row O11 45 v_2 r_206.2.2, .cell a_5 [v_6, v_8, v_10, .i Used_12], .row (tBool).o 4 v_6 x_7, .row ((tInt .i64)).o 2 v_8 x_9, .row (T6).o 85 v_10 k_218.2.2]) [5, 0, 6, 7, 1, 2, 3, 4] (by decide) rfl ?_
        refine J_prune _ ?_ fun b => hk () _ b _ _ ⟨c_252, rfl, rfl, rfl⟩
        exact ⟨rfl, rfl, rfl, rfl, trivial⟩
       ·refine J1_op rfl rfl (op_alloc (cs := [.i 0, .i 0, .i 0]) rfl pi74 rfl rfl ?_)
        intro c_254
        have hS_256 : HeldOK σ [.cell c_213 [.i r_206.1.Kind, .i r_206.1.N, .i r_206.1.Block], .cell a_1 [v_2, .i used_4], .cell c_25 [.i o_14.P.Kind, .i o_14.P.N, .i o_14.P.Block], .cell c_16 [.i o_14.Kind, .i o_14.P.Kind, .i o_14.P.N, .i o_14.P.Block, .i o_14.V.Kind, .i o_14.V.N, .i o_14.V.Block, .bool o_14.Write], .cell a_5 [v_6, v_8, v_10, .i Used_12], .row (tBool).o 4 v_6 x_7, .row ((tInt .i64)).o 2 v_8 x_9, .row (T6).o 85 v_10 x_11] σ [.cell c_254 [.i 0, .i 0, .i 0], .cell c_213 [.i r_206.1.Kind, .i r_206.1.N, .i r_206.1.Block], .cell a_1 [v_2, .i used_4], .row O11 45 v_2 r_206.2.2, .cell c_25 [.i o_14.P.Kind, .i o_14.P.N, .i o_14.P.Block], .cell c_16 [.i o_14.Kind, .i o_14.P.Kind, .i o_14.P.N, .i o_14.P.Block, .i o_14.V.Kind, .i o_14.V.N, .i o_14.V.Block, .bool o_14.Write], .cell a_5 [v_6, v_8, v_10, .i Used_12], .row (tBool).o 4 v_6 x_7, .row ((tInt .i64)).o 2 v_8 x_9, .row (T6).o 85 v_10 x_11] := HeldOK.same [1, 2, 4, 5, 6, 7, 8, 9] (by decide) rfl
        refine ⟨.inr hS_256, ?_⟩
        refine J_select (PV' := [.cell a_5 [v_6, v_8, v_10, .i Used_12], .row (tBool).o 4 v_6 x_7, .row ((tInt .i64)).o 2 v_8 x_9, .row (T6).o 85 v_10 x_11, .cell c_254 [.i 0, .i 0, .i 0], .cell c_213 [.i r_206.1.Kind, .i r_206.1.N, .i r_206.1.Block], .cell a_1 [v_2, .i used_4], .row O11 45 v_2 r_206.2.2, .cell c_25 [.i o_14.P.Kind, .i o_14.P.N, .i o_14.P.Block], .cell c_16 [.i o_14.Kind, .i o_14.P.Kind, .i o_14.P.N, .i o_14.P.Block, .i o_14.V.Kind, .i o_14.V.N, .i o_14.V.Block, .bool o_14.Write]]) [6, 7, 8, 9, 0, 1, 2, 3, 4, 5] (by decide) rfl ?_
        have hS_262 : HeldOK σ [.cell c_213 [.i r_206.1.Kind, .i r_206.1.N, .i r_206.1.Block], .cell a_1 [v_2, .i used_4], .cell c_25 [.i o_14.P.Kind, .i o_14.P.N, .i o_14.P.Block], .cell c_16 [.i o_14.Kind, .i o_14.P.Kind, .i o_14.P.N, .i o_14.P.Block, .i o_14.V.Kind, .i o_14.V.N, .i o_14.V.Block, .bool o_14.Write], .cell a_5 [v_6, v_8, v_10, .i Used_12], .row (tBool).o 4 v_6 x_7, .row ((tInt .i64)).o 2 v_8 x_9, .row (T6).o 85 v_10 x_11] σ [.cell a_5 [v_6, v_8, v_10, .i Used_12], .row (tBool).o 4 v_6 x_7, .row ((tInt .i64)).o 2 v_8 x_9, .row (T6).o 85 v_10 x_11, .cell c_254 [.i 0, .i 0, .i 0], .cell c_213 [.i r_206.1.Kind, .i r_206.1.N, .i r_206.1.Block], .cell a_1 [v_2, .i used_4], .row O11 45 v_2 r_206.2.2, .cell c_25 [.i o_14.P.Kind, .i o_14.P.N, .i o_14.P.Block], .cell c_16 [.i o_14.Kind, .i o_14.P.Kind, .i o_14.P.N, .i o_14.P.Block, .i o_14.V.Kind, .i o_14.V.N, .i o_14.V.Block, .bool o_14.Write]] := HeldOK.same [5, 6, 8, 9, 0, 1, 2, 3] (by decide) rfl
        refine JA_op (i := 7) (by kernel_rfl) rfl rfl (op_known hk_219 (op_call (f := 34) (fn := Try.f34) (args := [.pointer (some (Addr.add a_5 0)), .agg #[.i o_14.P.Kind, .i o_14.P.N, .i o_14.P.Block], .bool o_14.Write, .agg #[.i o_14.V.Kind, .i o_14.V.N, .i o_14.V.Block]]) (post := lychgateref06_End_post σ a_5 v_6 x_7 v_8 x_9 v_10 x_11 Used_12 (.agg #[.i o_14.P.Kind, .i o_14.P.N, .i o_14.P.Block]) (⟨o_14.P.Kind, o_14.P.N, o_14.P.Block⟩ : Glychgateref06_Value) o_14.Write (.agg #[.i o_14.V.Kind, .i o_14.V.N, .i o_14.V.Block]) (⟨o_14.V.Kind, o_14.V.N, o_14.V.Block⟩ : Glychgateref06_Value)) [.cell a_5 [v_6, v_8, v_10, .i Used_12], .row (tBool).o 4 v_6 x_7, .row ((tInt .i64)).o 2 v_8 x_9, .row (T6).o 85 v_10 x_11] [.cell c_254 [.i 0, .i 0, .i 0], .cell c_213 [.i r_206.1.Kind, .i r_206.1.N, .i r_206.1.Block], .cell a_1 [v_2, .i used_4], .row O11 45 v_2 r_206.2.2, .cell c_25 [.i o_14.P.Kind, .i o_14.P.N, .i o_14.P.Block], .cell c_16 [.i o_14.Kind, .i o_14.P.Kind, .i o_14.P.N, .i o_14.P.Block, .i o_14.V.Kind, .i o_14.V.N, .i o_14.V.Block, .bool o_14.Write]] rfl rfl rfl Try.func34 pn34 rfl rfl (fun y st hy hpre => lychgateref06_End_ref st σ a_5 v_6 x_7 v_8 x_9 v_10 x_11 Used_12 (.agg #[.i o_14.P.Kind, .i o_14.P.N, .i o_14.P.Block]) (⟨o_14.P.Kind, o_14.P.N, o_14.P.Block⟩ : Glychgateref06_Value) (T4_v.2 rfl) o_14.Write (.agg #[.i o_14.V.Kind, .i o_14.V.N, .i o_14.V.Block]) (⟨o_14.V.Kind, o_14.V.N, o_14.V.Block⟩ : Glychgateref06_Value) (T4_v.2 rfl) hpre y hy) ?_))
        intro z_263 v_257 s_260 PV_258 hz_264 hle_261 hp_259
        obtain rfl := Option.some.inj (hk_219.symm.trans hz_264)
        obtain ⟨rfl, rfl, rfl⟩ := hp_259
        refine ⟨.inl (.inl rfl), ?_⟩
        refine JA_takep 8 rfl hns (by kernel_rfl) (by kernel_rfl) rfl (.inl rfl) rfl rfl rfl (r_move (v := .tuple #[.agg #[.i k_218.1.Kind, .i k_218.1.N, .i k_218.1.Block], .i k_218.2.1]) rfl) ?_
        refine JA_takep 9 rfl hns (by kernel_rfl) (by kernel_rfl) rfl (.inl rfl) rfl rfl rfl (r_extract (v := .agg #[.i k_218.1.Kind, .i k_218.1.N, .i k_218.1.Block]) rfl rfl) ?_
        refine JA_takep 10 rfl hns (by kernel_rfl) (by kernel_rfl) rfl (.inl rfl) rfl rfl rfl (r_extract (v := .i k_218.2.1) rfl rfl) ?_
        refine JA_op (i := 12) (by kernel_rfl) rfl rfl (op_store_priv (a := c_254) (off := 0) (vs := [.i k_218.1.Kind, .i k_218.1.N, .i k_218.1.Block]) (cs' := [.i k_218.1.Kind, .i k_218.1.N, .i k_218.1.Block]) (PV' := [.cell a_5 [v_6, v_8, v_10, .i Used_12], .row (tBool).o 4 v_6 x_7, .row ((tInt .i64)).o 2 v_8 x_9, .row (T6).o 85 v_10 k_218.2.2, .cell c_254 [.i k_218.1.Kind, .i k_218.1.N, .i k_218.1.Block], .cell c_213 [.i r_206.1.Kind, .i r_206.1.N, .i r_206.1.Block], .cell a_1 [v_2, .i used_4], .row O11 45 v_2 r_206.2.2, .cell c_25 [.i o_14.P.Kind, .i o_14.P.N, .i o_14.P.Block], .cell c_16 [.i o_14.Kind, .i o_14.P.Kind, .i o_14.P.N, .i o_14.P.Block, .i o_14.V.Kind, .i o_14.V.N, .i o_14.V.Block, .bool o_14.Write]]) 4 pi74 rfl rfl rfl ⟨rfl, rfl, rfl, trivial⟩ rfl rfl rfl rfl rfl ?_)
        refine ⟨.inl (.inr rfl), ?_⟩
        refine JA_takep 13 rfl hns (by kernel_rfl) (by kernel_rfl) rfl (.inl rfl) rfl rfl rfl (r_assign (v := .i k_218.2.1) rfl) ?_
        refine J_select (PV' := [.cell c_213 [.i r_206.1.Kind, .i r_206.1.N, .i r_206.1.Block], .cell c_254 [.i k_218.1.Kind, .i k_218.1.N, .i k_218.1.Block], .cell a_1 [v_2, .i used_4], .row O11 45 v_2 r_206.2.2, .cell a_5 [v_6, v_8, v_10, .i Used_12], .row (tBool).o 4 v_6 x_7, .row ((tInt .i64)).o 2 v_8 x_9, .row (T6).o 85 v_10 k_218.2.2]) [5, 4, 6, 7, 0, 1, 2, 3] (by decide) rfl ?_
        refine J_prune _ ?_ fun b => hk () _ b _ _ ⟨c_254, rfl, rfl, rfl⟩
        exact ⟨rfl, rfl, rfl, rfl, trivial⟩
      ·refine J1_op rfl rfl (op_alloc (cs := [.i 0, .i 0, .i 0]) rfl pi74 rfl rfl ?_)
       intro c_265
       have hS_267 : HeldOK σ [.cell c_213 [.i r_206.1.Kind, .i r_206.1.N, .i r_206.1.Block], .cell a_1 [v_2, .i used_4], .cell c_25 [.i o_14.P.Kind, .i o_14.P.N, .i o_14.P.Block], .cell c_16 [.i o_14.Kind, .i o_14.P.Kind, .i o_14.P.N, .i o_14.P.Block, .i o_14.V.Kind, .i o_14.V.N, .i o_14.V.Block, .bool o_14.Write], .cell a_5 [v_6, v_8, v_10, .i Used_12], .row (tBool).o 4 v_6 x_7, .row ((tInt .i64)).o 2 v_8 x_9, .row (T6).o 85 v_10 x_11] σ [.cell c_265 [.i 0, .i 0, .i 0], .cell c_213 [.i r_206.1.Kind, .i r_206.1.N, .i r_206.1.Block], .cell a_1 [v_2, .i used_4], .row O11 45 v_2 r_206.2.2, .cell c_25 [.i o_14.P.Kind, .i o_14.P.N, .i o_14.P.Block], .cell c_16 [.i o_14.Kind, .i o_14.P.Kind, .i o_14.P.N, .i o_14.P.Block, .i o_14.V.Kind, .i o_14.V.N, .i o_14.V.Block, .bool o_14.Write], .cell a_5 [v_6, v_8, v_10, .i Used_12], .row (tBool).o 4 v_6 x_7, .row ((tInt .i64)).o 2 v_8 x_9, .row (T6).o 85 v_10 x_11] := HeldOK.same [1, 2, 4, 5, 6, 7, 8, 9] (by decide) rfl
       refine ⟨.inr hS_267, ?_⟩
       refine JA_op (i := 6) (by kernel_rfl) rfl rfl (op_known hk_217 (op_call (f := 30) (fn := Try.f30) (args := [.agg #[.i o_14.V.Kind, .i o_14.V.N, .i o_14.V.Block]]) (post := lychgatelaw06_val_post σ (.agg #[.i o_14.V.Kind, .i o_14.V.N, .i o_14.V.Block]) o_14.V) [] [.cell c_265 [.i 0, .i 0, .i 0], .cell c_213 [.i r_206.1.Kind, .i r_206.1.N, .i r_206.1.Block], .cell a_1 [v_2, .i used_4], .row O11 45 v_2 r_206.2.2, .cell c_25 [.i o_14.P.Kind, .i o_14.P.N, .i o_14.P.Block], .cell c_16 [.i o_14.Kind, .i o_14.P.Kind, .i o_14.P.N, .i o_14.P.Block, .i o_14.V.Kind, .i o_14.V.N, .i o_14.V.Block, .bool o_14.Write], .cell a_5 [v_6, v_8, v_10, .i Used_12], .row (tBool).o 4 v_6 x_7, .row ((tInt .i64)).o 2 v_8 x_9, .row (T6).o 85 v_10 x_11] rfl rfl rfl Try.func30 pn30 rfl rfl (fun y st hy hpre => lychgatelaw06_val_ref st σ (.agg #[.i o_14.V.Kind, .i o_14.V.N, .i o_14.V.Block]) o_14.V (T13_v.2 rfl) hpre y hy) ?_))
       intro z_273 v_268 s_271 PV_269 hz_274 hle_272 hp_270
       obtain rfl := Option.some.inj (hk_217.symm.trans hz_274)
       obtain ⟨rfl, rfl, rfl⟩ := hp_270
       have hS_275 : HeldOK σ [.cell c_213 [.i r_206.1.Kind, .i r_206.1.N, .i r_206.1.Block], .cell a_1 [v_2, .i used_4], .cell c_25 [.i o_14.P.Kind, .i o_14.P.N, .i o_14.P.Block], .cell c_16 [.i o_14.Kind, .i o_14.P.Kind, .i o_14.P.N, .i o_14.P.Block, .i o_14.V.Kind, .i o_14.V.N, .i o_14.V.Block, .bool o_14.Write], .cell a_5 [v_6, v_8, v_10, .i Used_12], .row (tBool).o 4 v_6 x_7, .row ((tInt .i64)).o 2 v_8 x_9, .row (T6).o 85 v_10 x_11] σ [.cell c_265 [.i 0, .i 0, .i 0], .cell c_213 [.i r_206.1.Kind, .i r_206.1.N, .i r_206.1.Block], .cell a_1 [v_2, .i used_4], .row O11 45 v_2 r_206.2.2, .cell c_25 [.i o_14.P.Kind, .i o_14.P.N, .i o_14.P.Block], .cell c_16 [.i o_14.Kind, .i o_14.P.Kind, .i o_14.P.N, .i o_14.P.Block, .i o_14.V.Kind, .i o_14.V.N, .i o_14.V.Block, .bool o_14.Write], .cell a_5 [v_6, v_8, v_10, .i Used_12], .row (tBool).o 4 v_6 x_7, .row ((tInt .i64)).o 2 v_8 x_9, .row (T6).o 85 v_10 x_11] := HeldOK.same [1, 2, 4, 5, 6, 7, 8, 9] (by decide) rfl
       refine ⟨.inr hS_275, ?_⟩
       refine J_select (PV' := [.cell a_5 [v_6, v_8, v_10, .i Used_12], .row (tBool).o 4 v_6 x_7, .row ((tInt .i64)).o 2 v_8 x_9, .row (T6).o 85 v_10 x_11, .cell c_265 [.i 0, .i 0, .i 0], .cell c_213 [.i r_206.1.Kind, .i r_206.1.N, .i r_206.1.Block], .cell a_1 [v_2, .i used_4], .row O11 45 v_2 r_206.2.2, .cell c_25 [.i o_14.P.Kind, .i o_14.P.N, .i o_14.P.Block], .cell c_16 [.i o_14.Kind, .i o_14.P.Kind, .i o_14.P.N, .i o_14.P.Block, .i o_14.V.Kind, .i o_14.V.N, .i o_14.V.Block, .bool o_14.Write]]) [6, 7, 8, 9, 0, 1, 2, 3, 4, 5] (by decide) rfl ?_
       have hS_281 : HeldOK σ [.cell c_213 [.i r_206.1.Kind, .i r_206.1.N, .i r_206.1.Block], .cell a_1 [v_2, .i used_4], .cell c_25 [.i o_14.P.Kind, .i o_14.P.N, .i o_14.P.Block], .cell c_16 [.i o_14.Kind, .i o_14.P.Kind, .i o_14.P.N, .i o_14.P.Block, .i o_14.V.Kind, .i o_14.V.N, .i o_14.V.Block, .bool o_14.Write], .cell a_5 [v_6, v_8, v_10, .i Used_12], .row (tBool).o 4 v_6 x_7, .row ((tInt .i64)).o 2 v_8 x_9, .row (T6).o 85 v_10 x_11] σ [.cell a_5 [v_6, v_8, v_10, .i Used_12], .row (tBool).o 4 v_6 x_7, .row ((tInt .i64)).o 2 v_8 x_9, .row (T6).o 85 v_10 x_11, .cell c_265 [.i 0, .i 0, .i 0], .cell c_213 [.i r_206.1.Kind, .i r_206.1.N, .i r_206.1.Block], .cell a_1 [v_2, .i used_4], .row O11 45 v_2 r_206.2.2, .cell c_25 [.i o_14.P.Kind, .i o_14.P.N, .i o_14.P.Block], .cell c_16 [.i o_14.Kind, .i o_14.P.Kind, .i o_14.P.N, .i o_14.P.Block, .i o_14.V.Kind, .i o_14.V.N, .i o_14.V.Block, .bool o_14.Write]] := HeldOK.same [5, 6, 8, 9, 0, 1, 2, 3] (by decide) rfl
       refine JA_op (i := 7) (by kernel_rfl) rfl rfl (op_known hk_219 (op_call (f := 34) (fn := Try.f34) (args := [.pointer (some (Addr.add a_5 0)), .agg #[.i o_14.P.Kind, .i o_14.P.N, .i o_14.P.Block], .bool o_14.Write, .agg #[.i o_14.V.Kind, .i o_14.V.N, .i o_14.V.Block]]) (post := lychgateref06_End_post σ a_5 v_6 x_7 v_8 x_9 v_10 x_11 Used_12 (.agg #[.i o_14.P.Kind, .i o_14.P.N, .i o_14.P.Block]) (⟨o_14.P.Kind, o_14.P.N, o_14.P.Block⟩ : Glychgateref06_Value) o_14.Write (.agg #[.i o_14.V.Kind, .i o_14.V.N, .i o_14.V.Block]) (⟨o_14.V.Kind, o_14.V.N, o_14.V.Block⟩ : Glychgateref06_Value)) [.cell a_5 [v_6, v_8, v_10, .i Used_12], .row (tBool).o 4 v_6 x_7, .row ((tInt .i64)).o 2 v_8 x_9, .row (T6).o 85 v_10 x_11] [.cell c_265 [.i 0, .i 0, .i 0], .cell c_213 [.i r_206.1.Kind, .i r_206.1.N, .i r_206.1.Block], .cell a_1 [v_2, .i used_4], .row O11 45 v_2 r_206.2.2, .cell c_25 [.i o_14.P.Kind, .i o_14.P.N, .i o_14.P.Block], .cell c_16 [.i o_14.Kind, .i o_14.P.Kind, .i o_14.P.N, .i o_14.P.Block, .i o_14.V.Kind, .i o_14.V.N, .i o_14.V.Block, .bool o_14.Write]] rfl rfl rfl Try.func34 pn34 rfl rfl (fun y st hy hpre => lychgateref06_End_ref st σ a_5 v_6 x_7 v_8 x_9 v_10 x_11 Used_12 (.agg #[.i o_14.P.Kind, .i o_14.P.N, .i o_14.P.Block]) (⟨o_14.P.Kind, o_14.P.N, o_14.P.Block⟩ : Glychgateref06_Value) (T4_v.2 rfl) o_14.Write (.agg #[.i o_14.V.Kind, .i o_14.V.N, .i o_14.V.Block]) (⟨o_14.V.Kind, o_14.V.N, o_14.V.Block⟩ : Glychgateref06_Value) (T4_v.2 rfl) hpre y hy) ?_))
       intro z_282 v_276 s_279 PV_277 hz_283 hle_280 hp_278
       obtain rfl := Option.some.inj (hk_219.symm.trans hz_283)
       obtain ⟨rfl, rfl, rfl⟩ := hp_278
       refine ⟨.inl (.inl rfl), ?_⟩
       refine JA_takep 8 rfl hns (by kernel_rfl) (by kernel_rfl) rfl (.inl rfl) rfl rfl rfl (r_move (v := .tuple #[.agg #[.i k_218.1.Kind, .i k_218.1.N, .i k_218.1.Block], .i k_218.2.1]) rfl) ?_
       refine JA_takep 9 rfl hns (by kernel_rfl) (by kernel_rfl) rfl (.inl rfl) rfl rfl rfl (r_extract (v := .agg #[.i k_218.1.Kind, .i k_218.1.N, .i k_218.1.Block]) rfl rfl) ?_
       refine JA_takep 10 rfl hns (by kernel_rfl) (by kernel_rfl) rfl (.inl rfl) rfl rfl rfl (r_extract (v := .i k_218.2.1) rfl rfl) ?_
       refine JA_op (i := 12) (by kernel_rfl) rfl rfl (op_store_priv (a := c_265) (off := 0) (vs := [.i k_218.1.Kind, .i k_218.1.N, .i k_218.1.Block]) (cs' := [.i k_218.1.Kind, .i k_218.1.N, .i k_218.1.Block]) (PV' := [.cell a_5 [v_6, v_8, v_10, .i Used_12], .row (tBool).o 4 v_6 x_7, .row ((tInt .i64)).o 2 v_8 x_9, .row (T6).o 85 v_10 k_218.2.2, .cell c_265 [.i k_218.1.Kind, .i k_218.1.N, .i k_218.1.Block], .cell c_213 [.i r_206.1.Kind, .i r_206.1.N, .i r_206.1.Block], .cell a_1 [v_2, .i used_4], .row O11 45 v_2 r_206.2.2, .cell c_25 [.i o_14.P.Kind, .i o_14.P.N, .i o_14.P.Block], .cell c_16 [.i o_14.Kind, .i o_14.P.Kind, .i o_14.P.N, .i o_14.P.Block, .i o_14.V.Kind, .i o_14.V.N, .i o_14.V.Block, .bool o_14.Write]]) 4 pi74 rfl rfl rfl ⟨rfl, rfl, rfl, trivial⟩ rfl rfl rfl rfl rfl ?_)
       refine ⟨.inl (.inr rfl), ?_⟩
       refine JA_takep 13 rfl hns (by kernel_rfl) (by kernel_rfl) rfl (.inl rfl) rfl rfl rfl (r_assign (v := .i k_218.2.1) rfl) ?_
       refine J_select (PV' := [.cell c_213 [.i r_206.1.Kind, .i r_206.1.N, .i r_206.1.Block], .cell c_265 [.i k_218.1.Kind, .i k_218.1.N, .i k_218.1.Block], .cell a_1 [v_2, .i used_4], .row O11 45 v_2 r_206.2.2, .cell a_5 [v_6, v_8, v_10, .i Used_12], .row (tBool).o 4 v_6 x_7, .row ((tInt .i64)).o 2 v_8 x_9, .row (T6).o 85 v_10 k_218.2.2]) [5, 4, 6, 7, 0, 1, 2, 3] (by decide) rfl ?_
       refine J_prune _ ?_ fun b => hk () _ b _ _ ⟨c_265, rfl, rfl, rfl⟩
       exact ⟨rfl, rfl, rfl, rfl, trivial⟩
     ·rintro y_220 _ b s_225 _ ⟨c_224, rfl, rfl, rfl⟩
      unfold lychgatelaw06_step_K3
      refine JA_done (by kernel_rfl) ?_
      refine J_then ?_
      refine J_seq ?_
      refine J_region_any 10 [.cell c_213 [.i r_206.1.Kind, .i r_206.1.N, .i r_206.1.Block], .cell c_224 [.i k_218.1.Kind, .i k_218.1.N, .i k_218.1.Block], .cell a_1 [v_2, .i used_4], .row O11 45 v_2 r_206.2.2, .cell a_5 [v_6, v_8, v_10, .i Used_12], .row (tBool).o 4 v_6 x_7, .row ((tInt .i64)).o 2 v_8 x_9, .row (T6).o 85 v_10 k_218.2.2] Try.mixed (by kernel_rfl) fun hns => ?_
      have hS_226 : HeldOK σ [.cell c_213 [.i r_206.1.Kind, .i r_206.1.N, .i r_206.1.Block], .cell c_224 [.i k_218.1.Kind, .i k_218.1.N, .i k_218.1.Block], .cell a_1 [v_2, .i used_4], .row O11 45 v_2 r_206.2.2, .cell a_5 [v_6, v_8, v_10, .i Used_12], .row (tBool).o 4 v_6 x_7, .row ((tInt .i64)).o 2 v_8 x_9, .row (T6).o 85 v_10 k_218.2.2] σ [.cell c_213 [.i r_206.1.Kind, .i r_206.1.N, .i r_206.1.Block], .cell c_224 [.i k_218.1.Kind, .i k_218.1.N, .i k_218.1.Block], .cell a_1 [v_2, .i used_4], .row O11 45 v_2 r_206.2.2, .cell a_5 [v_6, v_8, v_10, .i Used_12], .row (tBool).o 4 v_6 x_7, .row ((tInt .i64)).o 2 v_8 x_9, .row (T6).o 85 v_10 k_218.2.2] := HeldOK.same [0, 1, 2, 3, 4, 5, 6, 7] (by decide) rfl
      refine JA_take 0 rfl hns (by kernel_rfl) (by kernel_rfl) (by kernel_rfl) rfl (by kernel_rfl) hS_226 rfl rfl rfl (r_load_priv (a := c_213) (off := 0) (cs' := [.i r_206.1.Kind, .i r_206.1.N, .i r_206.1.Block]) (v := .agg #[.i r_206.1.Kind, .i r_206.1.N, .i r_206.1.Block]) 0 pu29 pi29 rfl rfl rfl rfl (by decide) rfl) ?_
      refine JA_take 2 rfl hns (by kernel_rfl) (by kernel_rfl) (by kernel_rfl) rfl (by kernel_rfl) hS_226 rfl rfl rfl (r_load_priv (a := c_224) (off := 0) (cs' := [.i k_218.1.Kind, .i k_218.1.N, .i k_218.1.Block]) (v := .agg #[.i k_218.1.Kind, .i k_218.1.N, .i k_218.1.Block]) 1 pu74 pi74 rfl rfl rfl rfl (by decide) rfl) ?_
      refine JA_op (i := 1) (by kernel_rfl) rfl rfl (op_call (f := 30) (fn := Try.f30) (args := [.agg #[.i r_206.1.Kind, .i r_206.1.N, .i r_206.1.Block]]) (post := lychgatelaw06_val_post σ (.agg #[.i r_206.1.Kind, .i r_206.1.N, .i r_206.1.Block]) r_206.1) [] [.cell c_213 [.i r_206.1.Kind, .i r_206.1.N, .i r_206.1.Block], .cell c_224 [.i k_218.1.Kind, .i k_218.1.N, .i k_218.1.Block], .cell a_1 [v_2, .i used_4], .row O11 45 v_2 r_206.2.2, .cell a_5 [v_6, v_8, v_10, .i Used_12], .row (tBool).o 4 v_6 x_7, .row ((tInt .i64)).o 2 v_8 x_9, .row (T6).o 85 v_10 k_218.2.2] rfl rfl rfl Try.func30 pn30 rfl rfl (fun y st hy hpre => lychgatelaw06_val_ref st σ (.agg #[.i r_206.1.Kind, .i r_206.1.N, .i r_206.1.Block]) r_206.1 (T13_v.2 rfl) hpre y hy) ?_)
      intro r_227 v_229 s_232 PV_230 hr_228 hle_233 hp_231
      obtain ⟨rfl, rfl, rfl⟩ := hp_231
      have hS_234 : HeldOK σ [.cell c_213 [.i r_206.1.Kind, .i r_206.1.N, .i r_206.1.Block], .cell c_224 [.i k_218.1.Kind, .i k_218.1.N, .i k_218.1.Block], .cell a_1 [v_2, .i used_4], .row O11 45 v_2 r_206.2.2, .cell a_5 [v_6, v_8, v_10, .i Used_12], .row (tBool).o 4 v_6 x_7, .row ((tInt .i64)).o 2 v_8 x_9, .row (T6).o 85 v_10 k_218.2.2] σ [.cell c_213 [.i r_206.1.Kind, .i r_206.1.N, .i r_206.1.Block], .cell c_224 [.i k_218.1.Kind, .i k_218.1.N, .i k_218.1.Block], .cell a_1 [v_2, .i used_4], .row O11 45 v_2 r_206.2.2, .cell a_5 [v_6, v_8, v_10, .i Used_12], .row (tBool).o 4 v_6 x_7, .row ((tInt .i64)).o 2 v_8 x_9, .row (T6).o 85 v_10 k_218.2.2] := HeldOK.same [0, 1, 2, 3, 4, 5, 6, 7] (by decide) rfl
      refine ⟨.inr hS_234, ?_⟩
      refine JA_takep 3 rfl hns (by kernel_rfl) (by kernel_rfl) rfl (.inr hS_234) rfl rfl rfl (r_eql_struct (by kernel_rfl) rfl rfl (by decide) (eq_Glychgateref06_Value (x := (⟨r_206.1.Kind, r_206.1.N, r_206.1.Block⟩ : Glychgateref06_Value)) (y := k_218.1))) ?_
      refine JA_takep 4 rfl hns (by kernel_rfl) (by kernel_rfl) rfl (.inr hS_234) rfl rfl rfl (r_move (v := .bool (decide ((⟨r_206.1.Kind, r_206.1.N, r_206.1.Block⟩ : Glychgateref06_Value) = k_218.1))) rfl) ?_
      refine J_forkA (e := (decide ((⟨r_206.1.Kind, r_206.1.N, r_206.1.Block⟩ : Glychgateref06_Value) = k_218.1))) 1 #[true, true, true, true, true, true, true, true, true, false] [(108, .bool (decide ((⟨r_206.1.Kind, r_206.1.N, r_206.1.Block⟩ : Glychgateref06_Value) = k_218.1) && decide (r_206.2.1 = k_218.2.1)))] (fun hc_235 hk => ?_) (fun hc_235 hk => ?_) (fun b => ?_)
      ·refine JA_takepg 5 rfl hns (by kernel_rfl) (by kernel_rfl) rfl (.inr hS_234) rfl rfl hc_235 rfl rfl (r_move (v := .i r_206.2.1) rfl) ?_
       refine JA_takepg 6 rfl hns (by kernel_rfl) (by kernel_rfl) rfl (.inr hS_234) rfl rfl hc_235 rfl rfl (r_move (v := .i k_218.2.1) rfl) ?_
       refine JA_takepg 7 rfl hns (by kernel_rfl) (by kernel_rfl) rfl (.inr hS_234) rfl rfl hc_235 rfl rfl (r_eql rfl rfl) ?_
       refine JA_takep 8 rfl hns (by kernel_rfl) (by kernel_rfl) rfl (.inr hS_234) rfl rfl rfl (r_pick_t (v := .bool (decide (r_206.2.1 = k_218.2.1))) rfl hc_235 rfl) ?_
       refine J_prune [(108, .bool (decide ((⟨r_206.1.Kind, r_206.1.N, r_206.1.Block⟩ : Glychgateref06_Value) = k_218.1) && decide (r_206.2.1 = k_218.2.1)))] ⟨(by show Value.bool _ = Value.bool _; rw [hc_235]; rfl), trivial⟩ hk
      ·refine JA_skip (y := some (decide ((⟨r_206.1.Kind, r_206.1.N, r_206.1.Block⟩ : Glychgateref06_Value) = k_218.1))) 5 rfl hns (by kernel_rfl) (by kernel_rfl) rfl (.inr hS_234) rfl rfl (by rw [hc_235]; decide) rfl rfl ?_
       refine JA_skip (y := some (decide ((⟨r_206.1.Kind, r_206.1.N, r_206.1.Block⟩ : Glychgateref06_Value) = k_218.1))) 6 rfl hns (by kernel_rfl) (by kernel_rfl) rfl (.inr hS_234) rfl rfl (by rw [hc_235]; decide) rfl rfl ?_
       refine JA_skip (y := some (decide ((⟨r_206.1.Kind, r_206.1.N, r_206.1.Block⟩ : Glychgateref06_Value) = k_218.1))) 7 rfl hns (by kernel_rfl) (by kernel_rfl) rfl (.inr hS_234) rfl rfl (by rw [hc_235]; decide) rfl rfl ?_
       refine JA_takep 8 rfl hns (by kernel_rfl) (by kernel_rfl) rfl (.inr hS_234) rfl rfl rfl (r_pick_f (v := .bool false) rfl hc_235 rfl) ?_
       refine J_prune [(108, .bool (decide ((⟨r_206.1.Kind, r_206.1.N, r_206.1.Block⟩ : Glychgateref06_Value) = k_218.1) && decide (r_206.2.1 = k_218.2.1)))] ⟨(by show Value.bool _ = Value.bool _; rw [hc_235]; rfl), trivial⟩ hk
      ·refine JA_takep 9 rfl hns (by kernel_rfl) (by kernel_rfl) rfl (.inr hS_234) rfl rfl rfl (r_assign (v := .bool (decide ((⟨r_206.1.Kind, r_206.1.N, r_206.1.Block⟩ : Glychgateref06_Value) = k_218.1) && decide (r_206.2.1 = k_218.2.1))) rfl) ?_
       refine JA_done (by kernel_rfl) ?_
       refine J_then ?_
       refine J_ret ?_
       refine J_in_ret ?_
       refine J_then_ret ?_
       exact J_returnV1 (PV' := [.cell a_1 [v_2, .i used_4], .row O11 45 v_2 r_206.2.2, .cell a_5 [v_6, v_8, v_10, .i Used_12], .row (tBool).o 4 v_6 x_7, .row ((tInt .i64)).o 2 v_8 x_9, .row (T6).o 85 v_10 k_218.2.2]) rfl rv_tmp [2, 3, 4, 5, 6, 7] (by decide) rfl ⟨v_2, v_6, v_8, v_10, rfl, rfl, rfl⟩
    ·refine J_seq ?_
     refine J_region ?_
     refine JL_op rfl (op_read rfl rfl (r_eql rfl rfl) ?_)
     refine JL_op rfl (op_read rfl rfl (r_assign (v := .bool (decide (o_14.Kind = 5))) rfl) ?_)
     refine JL_nil ?_
     refine J_then ?_
     refine J_cond rfl (fun hc_284 => ?_) (fun hc_284 => ?_)
     ·refine J_seq ?_
      refine J_region ?_
      refine JL_op rfl (op_read rfl rfl (r_move (v := .pointer (some (Addr.add a_1 0))) rfl) ?_)
      refine JL_op rfl (op_read rfl rfl (r_fieldAddr (r := Addr.add c_16 1) pu58 (f := Try.pf58.getD 1 default) rfl pi29 (by decide) rfl (Addr.add_add _ _ _)) ?_)
      refine JL_op rfl (op_read rfl rfl (r_load_priv (a := c_16) (off := 1) (cs' := [.i o_14.P.Kind, .i o_14.P.N, .i o_14.P.Block]) (v := .agg #[.i o_14.P.Kind, .i o_14.P.N, .i o_14.P.Block]) 1 pu29 pi29 rfl rfl rfl rfl (by decide) rfl) ?_)
      refine J_select (PV' := [.cell a_1 [v_2, .i used_4], .row O11 45 v_2 x_3, .cell c_25 [.i o_14.P.Kind, .i o_14.P.N, .i o_14.P.Block], .cell c_16 [.i o_14.Kind, .i o_14.P.Kind, .i o_14.P.N, .i o_14.P.Block, .i o_14.V.Kind, .i o_14.V.N, .i o_14.V.Block, .bool o_14.Write], .cell a_5 [v_6, v_8, v_10, .i Used_12], .row (tBool).o 4 v_6 x_7, .row ((tInt .i64)).o 2 v_8 x_9, .row (T6).o 85 v_10 x_11]) [2, 3, 0, 1, 4, 5, 6, 7] (by decide) rfl ?_
      refine JL_op rfl (op_call (f := 18) (fn := Try.f18) (args := [.pointer (some (Addr.add a_1 0)), .agg #[.i o_14.P.Kind, .i o_14.P.N, .i o_14.P.Block]]) (post := mem_Memory_Lock_post σ a_1 v_2 x_3 used_4 (.agg #[.i o_14.P.Kind, .i o_14.P.N, .i o_14.P.Block]) o_14.P) [.cell a_1 [v_2, .i used_4], .row O11 45 v_2 x_3] [.cell c_25 [.i o_14.P.Kind, .i o_14.P.N, .i o_14.P.Block], .cell c_16 [.i o_14.Kind, .i o_14.P.Kind, .i o_14.P.N, .i o_14.P.Block, .i o_14.V.Kind, .i o_14.V.N, .i o_14.V.Block, .bool o_14.Write], .cell a_5 [v_6, v_8, v_10, .i Used_12], .row (tBool).o 4 v_6 x_7, .row ((tInt .i64)).o 2 v_8 x_9, .row (T6).o 85 v_10 x_11] rfl rfl rfl Try.func18 pn18 rfl rfl (fun y st hy hpre => mem_Memory_Lock_ref st σ a_1 v_2 x_3 used_4 (.agg #[.i o_14.P.Kind, .i o_14.P.N, .i o_14.P.Block]) o_14.P (T13_v.2 rfl) hpre y hy) ?_)
      intro r_285 v_287 s_290 PV_288 hr_286 hle_291 hp_289
      obtain ⟨rfl, rfl, rfl⟩ := hp_289
      refine JL_op rfl (op_read rfl rfl (r_move (v := .tuple #[.bool r_285.1, .i r_285.2.1]) rfl) ?_)
      refine JL_op rfl (op_read rfl rfl (r_extract (v := .bool r_285.1) rfl rfl) ?_)
      refine JL_op rfl (op_read rfl rfl (r_extract (v := .i r_285.2.1) rfl rfl) ?_)
      refine JL_op rfl (op_read rfl rfl (r_assign (v := .bool r_285.1) rfl) ?_)
      refine JL_op rfl (op_read rfl rfl (r_assign (v := .i r_285.2.1) rfl) ?_)
      refine JL_nil ?_
      refine J_then ?_
      refine J_seq ?_
      refine J_region ?_
      refine JL_op rfl (op_read rfl rfl (r_move (v := .pointer (some (Addr.add a_5 0))) rfl) ?_)
      refine JL_op rfl (op_read rfl rfl (r_load_priv (a := c_25) (off := 0) (cs' := [.i o_14.P.Kind, .i o_14.P.N, .i o_14.P.Block]) (v := .agg #[.i o_14.P.Kind, .i o_14.P.N, .i o_14.P.Block]) 2 pu74 pi74 rfl rfl rfl rfl (by decide) rfl) ?_)
      refine J_select (PV' := [.cell a_5 [v_6, v_8, v_10, .i Used_12], .row (tBool).o 4 v_6 x_7, .row ((tInt .i64)).o 2 v_8 x_9, .row (T6).o 85 v_10 x_11, .cell a_1 [v_2, .i used_4], .row O11 45 v_2 r_285.2.2, .cell c_25 [.i o_14.P.Kind, .i o_14.P.N, .i o_14.P.Block], .cell c_16 [.i o_14.Kind, .i o_14.P.Kind, .i o_14.P.N, .i o_14.P.Block, .i o_14.V.Kind, .i o_14.V.N, .i o_14.V.Block, .bool o_14.Write]]) [4, 5, 6, 7, 0, 1, 2, 3] (by decide) rfl ?_
      refine JL_op rfl (op_call (f := 35) (fn := Try.f35) (args := [.pointer (some (Addr.add a_5 0)), .agg #[.i o_14.P.Kind, .i o_14.P.N, .i o_14.P.Block]]) (post := lychgateref06_Lock_post σ a_5 v_6 x_7 v_8 x_9 v_10 x_11 Used_12 (.agg #[.i o_14.P.Kind, .i o_14.P.N, .i o_14.P.Block]) (⟨o_14.P.Kind, o_14.P.N, o_14.P.Block⟩ : Glychgateref06_Value)) [.cell a_5 [v_6, v_8, v_10, .i Used_12], .row (tBool).o 4 v_6 x_7, .row ((tInt .i64)).o 2 v_8 x_9, .row (T6).o 85 v_10 x_11] [.cell a_1 [v_2, .i used_4], .row O11 45 v_2 r_285.2.2, .cell c_25 [.i o_14.P.Kind, .i o_14.P.N, .i o_14.P.Block], .cell c_16 [.i o_14.Kind, .i o_14.P.Kind, .i o_14.P.N, .i o_14.P.Block, .i o_14.V.Kind, .i o_14.V.N, .i o_14.V.Block, .bool o_14.Write]] rfl rfl rfl Try.func35 pn35 rfl rfl (fun y st hy hpre => lychgateref06_Lock_ref st σ a_5 v_6 x_7 v_8 x_9 v_10 x_11 Used_12 (.agg #[.i o_14.P.Kind, .i o_14.P.N, .i o_14.P.Block]) (⟨o_14.P.Kind, o_14.P.N, o_14.P.Block⟩ : Glychgateref06_Value) (T4_v.2 rfl) hpre y hy) ?_)
      intro r_292 v_294 s_297 PV_295 hr_293 hle_298 hp_296
      obtain ⟨rfl, rfl, rfl⟩ := hp_296
      refine JL_op rfl (op_read rfl rfl (r_move (v := .tuple #[.bool r_292.1, .i r_292.2.1]) rfl) ?_)
      refine JL_op rfl (op_read rfl rfl (r_extract (v := .bool r_292.1) rfl rfl) ?_)
      refine JL_op rfl (op_read rfl rfl (r_extract (v := .i r_292.2.1) rfl rfl) ?_)
      refine JL_op rfl (op_read rfl rfl (r_assign (v := .bool r_292.1) rfl) ?_)
      refine JL_op rfl (op_read rfl rfl (r_assign (v := .i r_292.2.1) rfl) ?_)
      refine JL_nil ?_
      refine J_then ?_
      refine J_seq ?_
      refine J_region ?_
      refine JL_op rfl (op_read rfl rfl (r_move (v := .bool r_285.1) rfl) ?_)
      refine JL_op rfl (op_read rfl rfl (r_move (v := .bool r_292.1) rfl) ?_)
      refine JL_op rfl (op_read rfl rfl (r_beql pu4 rfl rfl) ?_)
      refine JL_op rfl (op_read rfl rfl (r_move (v := .bool (r_285.1 == r_292.1)) rfl) ?_)
      refine J_forkL (e := (r_285.1 == r_292.1)) 4 [(131, .bool ((r_285.1 == r_292.1) && decide (r_285.2.1 = r_292.2.1)))] (fun hc_299 hk => ?_) (fun hc_299 hk => ?_) (fun b => ?_)
      ·refine JL_opg rfl rfl hc_299 (op_read rfl rfl (r_move (v := .i r_285.2.1) rfl) ?_)
       refine JL_opg rfl rfl hc_299 (op_read rfl rfl (r_move (v := .i r_292.2.1) rfl) ?_)
       refine JL_opg rfl rfl hc_299 (op_read rfl rfl (r_eql rfl rfl) ?_)
       refine JL_op rfl (op_read rfl rfl (r_pick_t (v := .bool (decide (r_285.2.1 = r_292.2.1))) rfl hc_299 rfl) ?_)
       refine J_prune [(131, .bool ((r_285.1 == r_292.1) && decide (r_285.2.1 = r_292.2.1)))] ⟨(by show Value.bool _ = Value.bool _; rw [hc_299]; rfl), trivial⟩ hk
      ·refine JL_skip rfl rfl hc_299 rfl rfl ?_
       refine JL_skip rfl rfl hc_299 rfl rfl ?_
       refine JL_skip rfl rfl hc_299 rfl rfl ?_
       refine JL_op rfl (op_read rfl rfl (r_pick_f (v := .bool false) rfl hc_299 rfl) ?_)
       refine J_prune [(131, .bool ((r_285.1 == r_292.1) && decide (r_285.2.1 = r_292.2.1)))] ⟨(by show Value.bool _ = Value.bool _; rw [hc_299]; rfl), trivial⟩ hk
      ·refine JL_op rfl (op_read rfl rfl (r_assign (v := .bool ((r_285.1 == r_292.1) && decide (r_285.2.1 = r_292.2.1))) rfl) ?_)
       refine JL_nil ?_
       refine J_then ?_
       refine J_ret ?_
       refine J_in_ret ?_
       refine J_then_ret ?_
       exact J_returnV1 (PV' := [.cell a_1 [v_2, .i used_4], .row O11 45 v_2 r_285.2.2, .cell a_5 [v_6, v_8, v_10, .i Used_12], .row (tBool).o 4 v_6 x_7, .row ((tInt .i64)).o 2 v_8 x_9, .row (T6).o 85 v_10 r_292.2.2]) rfl rv_tmp [4, 5, 0, 1, 2, 3] (by decide) rfl ⟨v_2, v_6, v_8, v_10, rfl, rfl, rfl⟩
     ·refine J_seq ?_
      refine J_region ?_
      refine JL_op rfl (op_read rfl rfl (r_eql rfl rfl) ?_)
      refine JL_op rfl (op_read rfl rfl (r_assign (v := .bool (decide (o_14.Kind = 6))) rfl) ?_)
      refine JL_nil ?_
      refine J_then ?_
      refine J_cond rfl (fun hc_300 => ?_) (fun hc_300 => ?_)
      ·refine J_seq ?_
       refine J_region_any 3 [.cell c_25 [.i o_14.P.Kind, .i o_14.P.N, .i o_14.P.Block], .cell c_16 [.i o_14.Kind, .i o_14.P.Kind, .i o_14.P.N, .i o_14.P.Block, .i o_14.V.Kind, .i o_14.V.N, .i o_14.V.Block, .bool o_14.Write], .cell a_1 [v_2, .i used_4], .cell a_5 [v_6, v_8, v_10, .i Used_12], .row (tBool).o 4 v_6 x_7, .row ((tInt .i64)).o 2 v_8 x_9, .row (T6).o 85 v_10 x_11] Try.mixed (by kernel_rfl) fun hns => ?_
       have hS_301 : HeldOK σ [.cell c_25 [.i o_14.P.Kind, .i o_14.P.N, .i o_14.P.Block], .cell c_16 [.i o_14.Kind, .i o_14.P.Kind, .i o_14.P.N, .i o_14.P.Block, .i o_14.V.Kind, .i o_14.V.N, .i o_14.V.Block, .bool o_14.Write], .cell a_1 [v_2, .i used_4], .cell a_5 [v_6, v_8, v_10, .i Used_12], .row (tBool).o 4 v_6 x_7, .row ((tInt .i64)).o 2 v_8 x_9, .row (T6).o 85 v_10 x_11] σ [.cell c_25 [.i o_14.P.Kind, .i o_14.P.N, .i o_14.P.Block], .cell c_16 [.i o_14.Kind, .i o_14.P.Kind, .i o_14.P.N, .i o_14.P.Block, .i o_14.V.Kind, .i o_14.V.N, .i o_14.V.Block, .bool o_14.Write], .cell a_1 [v_2, .i used_4], .row O11 45 v_2 x_3, .cell a_5 [v_6, v_8, v_10, .i Used_12], .row (tBool).o 4 v_6 x_7, .row ((tInt .i64)).o 2 v_8 x_9, .row (T6).o 85 v_10 x_11] := HeldOK.same [0, 1, 2, 4, 5, 6, 7] (by decide) rfl
       refine JA_takep 0 rfl hns (by kernel_rfl) (by kernel_rfl) rfl (.inr hS_301) rfl rfl rfl (r_move (v := .pointer (some (Addr.add a_1 0))) rfl) ?_
       refine JA_takep 1 rfl hns (by kernel_rfl) (by kernel_rfl) rfl (.inr hS_301) rfl rfl rfl (r_fieldAddr (r := Addr.add c_16 1) pu58 (f := Try.pf58.getD 1 default) rfl pi29 (by decide) rfl (Addr.add_add _ _ _)) ?_
       refine JA_take 2 rfl hns (by kernel_rfl) (by kernel_rfl) (by kernel_rfl) rfl (by kernel_rfl) hS_301 rfl rfl rfl (r_load_priv (a := c_16) (off := 1) (cs' := [.i o_14.P.Kind, .i o_14.P.N, .i o_14.P.Block]) (v := .agg #[.i o_14.P.Kind, .i o_14.P.N, .i o_14.P.Block]) 1 pu29 pi29 rfl rfl rfl rfl (by decide) rfl) ?_
       refine JA_takep 4 rfl hns (by kernel_rfl) (by kernel_rfl) rfl (.inr hS_301) rfl rfl rfl (r_move (v := .pointer (some (Addr.add a_5 0))) rfl) ?_
       refine J_bind fun k_302 hk_303 => ?_
       refine J_bind fun k_304 hk_305 => ?_
       refine J_meetD (fun y => lychgatelaw06_step_K4 Used_12 k_302 k_304 used_4 x_7 x_9 y) 0 #[true, true, true, true, true, true, true, true, true] (fun (y : Unit) L τ PV => σ = τ ∧ L = [(6, .bool (decide (k_302.1 = k_304.1)))] ∧ PV = [.cell a_1 [v_2, .i used_4], .row O11 45 v_2 k_302.2, .cell a_5 [v_6, v_8, v_10, .i Used_12], .row (tBool).o 4 v_6 x_7, .row ((tInt .i64)).o 2 v_8 x_9, .row (T6).o 85 v_10 k_304.2]) (fun hk => ?_) ?_
       ·refine JA_two (i := 3) (j := 5) (by kernel_rfl) ?_ ?_
        ·refine J_select (PV' := [.cell a_1 [v_2, .i used_4], .row O11 45 v_2 x_3, .cell c_25 [.i o_14.P.Kind, .i o_14.P.N, .i o_14.P.Block], .cell c_16 [.i o_14.Kind, .i o_14.P.Kind, .i o_14.P.N, .i o_14.P.Block, .i o_14.V.Kind, .i o_14.V.N, .i o_14.V.Block, .bool o_14.Write], .cell a_5 [v_6, v_8, v_10, .i Used_12], .row (tBool).o 4 v_6 x_7, .row ((tInt .i64)).o 2 v_8 x_9, .row (T6).o 85 v_10 x_11]) [2, 3, 0, 1, 4, 5, 6, 7] (by decide) rfl ?_
         have hS_315 : HeldOK σ [.cell c_25 [.i o_14.P.Kind, .i o_14.P.N, .i o_14.P.Block], .cell c_16 [.i o_14.Kind, .i o_14.P.Kind, .i o_14.P.N, .i o_14.P.Block, .i o_14.V.Kind, .i o_14.V.N, .i o_14.V.Block, .bool o_14.Write], .cell a_1 [v_2, .i used_4], .cell a_5 [v_6, v_8, v_10, .i Used_12], .row (tBool).o 4 v_6 x_7, .row ((tInt .i64)).o 2 v_8 x_9, .row (T6).o 85 v_10 x_11] σ [.cell a_1 [v_2, .i used_4], .row O11 45 v_2 x_3, .cell c_25 [.i o_14.P.Kind, .i o_14.P.N, .i o_14.P.Block], .cell c_16 [.i o_14.Kind, .i o_14.P.Kind, .i o_14.P.N, .i o_14.P.Block, .i o_14.V.Kind, .i o_14.V.N, .i o_14.V.Block, .bool o_14.Write], .cell a_5 [v_6, v_8, v_10, .i Used_12], .row (tBool).o 4 v_6 x_7, .row ((tInt .i64)).o 2 v_8 x_9, .row (T6).o 85 v_10 x_11] := HeldOK.same [2, 3, 0, 4, 5, 6, 7] (by decide) rfl
         refine J1_op rfl rfl (op_known hk_303 (op_call (f := 19) (fn := Try.f19) (args := [.pointer (some (Addr.add a_1 0)), .agg #[.i o_14.P.Kind, .i o_14.P.N, .i o_14.P.Block]]) (post := mem_Memory_Unlock_post σ a_1 v_2 x_3 used_4 (.agg #[.i o_14.P.Kind, .i o_14.P.N, .i o_14.P.Block]) o_14.P) [.cell a_1 [v_2, .i used_4], .row O11 45 v_2 x_3] [.cell c_25 [.i o_14.P.Kind, .i o_14.P.N, .i o_14.P.Block], .cell c_16 [.i o_14.Kind, .i o_14.P.Kind, .i o_14.P.N, .i o_14.P.Block, .i o_14.V.Kind, .i o_14.V.N, .i o_14.V.Block, .bool o_14.Write], .cell a_5 [v_6, v_8, v_10, .i Used_12], .row (tBool).o 4 v_6 x_7, .row ((tInt .i64)).o 2 v_8 x_9, .row (T6).o 85 v_10 x_11] rfl rfl rfl Try.func19 pn19 rfl rfl (fun y st hy hpre => mem_Memory_Unlock_ref st σ a_1 v_2 x_3 used_4 (.agg #[.i o_14.P.Kind, .i o_14.P.N, .i o_14.P.Block]) o_14.P (T13_v.2 rfl) hpre y hy) ?_))
         intro z_316 v_310 s_313 PV_311 hz_317 hle_314 hp_312
         obtain rfl := Option.some.inj (hk_303.symm.trans hz_317)
         obtain ⟨rfl, rfl, rfl⟩ := hp_312
         refine ⟨.inl (.inl rfl), ?_⟩
         refine JA_op (i := 5) (by kernel_rfl) rfl rfl (op_read rfl rfl (r_load_priv (a := c_25) (off := 0) (cs' := [.i o_14.P.Kind, .i o_14.P.N, .i o_14.P.Block]) (v := .agg #[.i o_14.P.Kind, .i o_14.P.N, .i o_14.P.Block]) 2 pu74 pi74 rfl rfl rfl rfl (by decide) rfl) ?_)
         refine ⟨.inl (.inr rfl), ?_⟩
         refine J_select (PV' := [.cell a_5 [v_6, v_8, v_10, .i Used_12], .row (tBool).o 4 v_6 x_7, .row ((tInt .i64)).o 2 v_8 x_9, .row (T6).o 85 v_10 x_11, .cell a_1 [v_2, .i used_4], .row O11 45 v_2 k_302.2, .cell c_25 [.i o_14.P.Kind, .i o_14.P.N, .i o_14.P.Block], .cell c_16 [.i o_14.Kind, .i o_14.P.Kind, .i o_14.P.N, .i o_14.P.Block, .i o_14.V.Kind, .i o_14.V.N, .i o_14.V.Block, .bool o_14.Write]]) [4, 5, 6, 7, 0, 1, 2, 3] (by decide) rfl ?_
         refine JA_op (i := 6) (by kernel_rfl) rfl rfl (op_known hk_305 (op_call (f := 36) (fn := Try.f36) (args := [.pointer (some (Addr.add a_5 0)), .agg #[.i o_14.P.Kind, .i o_14.P.N, .i o_14.P.Block]]) (post := lychgateref06_Unlock_post σ a_5 v_6 x_7 v_8 x_9 v_10 x_11 Used_12 (.agg #[.i o_14.P.Kind, .i o_14.P.N, .i o_14.P.Block]) (⟨o_14.P.Kind, o_14.P.N, o_14.P.Block⟩ : Glychgateref06_Value)) [.cell a_5 [v_6, v_8, v_10, .i Used_12], .row (tBool).o 4 v_6 x_7, .row ((tInt .i64)).o 2 v_8 x_9, .row (T6).o 85 v_10 x_11] [.cell a_1 [v_2, .i used_4], .row O11 45 v_2 k_302.2, .cell c_25 [.i o_14.P.Kind, .i o_14.P.N, .i o_14.P.Block], .cell c_16 [.i o_14.Kind, .i o_14.P.Kind, .i o_14.P.N, .i o_14.P.Block, .i o_14.V.Kind, .i o_14.V.N, .i o_14.V.Block, .bool o_14.Write]] rfl rfl rfl Try.func36 pn36 rfl rfl (fun y st hy hpre => lychgateref06_Unlock_ref st σ a_5 v_6 x_7 v_8 x_9 v_10 x_11 Used_12 (.agg #[.i o_14.P.Kind, .i o_14.P.N, .i o_14.P.Block]) (⟨o_14.P.Kind, o_14.P.N, o_14.P.Block⟩ : Glychgateref06_Value) (T4_v.2 rfl) hpre y hy) ?_))
         intro z_324 v_318 s_321 PV_319 hz_325 hle_322 hp_320
         obtain rfl := Option.some.inj (hk_305.symm.trans hz_325)
         obtain ⟨rfl, rfl, rfl⟩ := hp_320
         refine ⟨.inl (.inr rfl), ?_⟩
         refine JA_takep 7 rfl hns (by kernel_rfl) (by kernel_rfl) rfl (.inl rfl) rfl rfl rfl (r_eql rfl rfl) ?_
         refine JA_takep 8 rfl hns (by kernel_rfl) (by kernel_rfl) rfl (.inl rfl) rfl rfl rfl (r_assign (v := .bool (decide (k_302.1 = k_304.1))) rfl) ?_
         refine J_select (PV' := [.cell a_1 [v_2, .i used_4], .row O11 45 v_2 k_302.2, .cell a_5 [v_6, v_8, v_10, .i Used_12], .row (tBool).o 4 v_6 x_7, .row ((tInt .i64)).o 2 v_8 x_9, .row (T6).o 85 v_10 k_304.2]) [4, 5, 0, 1, 2, 3] (by decide) rfl ?_
         refine J_prune _ ?_ fun b => hk () _ b _ _ ⟨rfl, rfl, rfl⟩
         exact ⟨rfl, trivial⟩
        ·refine J1_op rfl rfl (op_read rfl rfl (r_load_priv (a := c_25) (off := 0) (cs' := [.i o_14.P.Kind, .i o_14.P.N, .i o_14.P.Block]) (v := .agg #[.i o_14.P.Kind, .i o_14.P.N, .i o_14.P.Block]) 0 pu74 pi74 rfl rfl rfl rfl (by decide) rfl) ?_)
         have hS_326 : HeldOK σ [.cell c_25 [.i o_14.P.Kind, .i o_14.P.N, .i o_14.P.Block], .cell c_16 [.i o_14.Kind, .i o_14.P.Kind, .i o_14.P.N, .i o_14.P.Block, .i o_14.V.Kind, .i o_14.V.N, .i o_14.V.Block, .bool o_14.Write], .cell a_1 [v_2, .i used_4], .cell a_5 [v_6, v_8, v_10, .i Used_12], .row (tBool).o 4 v_6 x_7, .row ((tInt .i64)).o 2 v_8 x_9, .row (T6).o 85 v_10 x_11] σ [.cell c_25 [.i o_14.P.Kind, .i o_14.P.N, .i o_14.P.Block], .cell c_16 [.i o_14.Kind, .i o_14.P.Kind, .i o_14.P.N, .i o_14.P.Block, .i o_14.V.Kind, .i o_14.V.N, .i o_14.V.Block, .bool o_14.Write], .cell a_1 [v_2, .i used_4], .row O11 45 v_2 x_3, .cell a_5 [v_6, v_8, v_10, .i Used_12], .row (tBool).o 4 v_6 x_7, .row ((tInt .i64)).o 2 v_8 x_9, .row (T6).o 85 v_10 x_11] := HeldOK.same [0, 1, 2, 4, 5, 6, 7] (by decide) rfl
         refine ⟨.inr hS_326, ?_⟩
         refine J_select (PV' := [.cell a_1 [v_2, .i used_4], .row O11 45 v_2 x_3, .cell c_25 [.i o_14.P.Kind, .i o_14.P.N, .i o_14.P.Block], .cell c_16 [.i o_14.Kind, .i o_14.P.Kind, .i o_14.P.N, .i o_14.P.Block, .i o_14.V.Kind, .i o_14.V.N, .i o_14.V.Block, .bool o_14.Write], .cell a_5 [v_6, v_8, v_10, .i Used_12], .row (tBool).o 4 v_6 x_7, .row ((tInt .i64)).o 2 v_8 x_9, .row (T6).o 85 v_10 x_11]) [2, 3, 0, 1, 4, 5, 6, 7] (by decide) rfl ?_
         have hS_332 : HeldOK σ [.cell c_25 [.i o_14.P.Kind, .i o_14.P.N, .i o_14.P.Block], .cell c_16 [.i o_14.Kind, .i o_14.P.Kind, .i o_14.P.N, .i o_14.P.Block, .i o_14.V.Kind, .i o_14.V.N, .i o_14.V.Block, .bool o_14.Write], .cell a_1 [v_2, .i used_4], .cell a_5 [v_6, v_8, v_10, .i Used_12], .row (tBool).o 4 v_6 x_7, .row ((tInt .i64)).o 2 v_8 x_9, .row (T6).o 85 v_10 x_11] σ [.cell a_1 [v_2, .i used_4], .row O11 45 v_2 x_3, .cell c_25 [.i o_14.P.Kind, .i o_14.P.N, .i o_14.P.Block], .cell c_16 [.i o_14.Kind, .i o_14.P.Kind, .i o_14.P.N, .i o_14.P.Block, .i o_14.V.Kind, .i o_14.V.N, .i o_14.V.Block, .bool o_14.Write], .cell a_5 [v_6, v_8, v_10, .i Used_12], .row (tBool).o 4 v_6 x_7, .row ((tInt .i64)).o 2 v_8 x_9, .row (T6).o 85 v_10 x_11] := HeldOK.same [2, 3, 0, 4, 5, 6, 7] (by decide) rfl
         refine JA_op (i := 3) (by kernel_rfl) rfl rfl (op_known hk_303 (op_call (f := 19) (fn := Try.f19) (args := [.pointer (some (Addr.add a_1 0)), .agg #[.i o_14.P.Kind, .i o_14.P.N, .i o_14.P.Block]]) (post := mem_Memory_Unlock_post σ a_1 v_2 x_3 used_4 (.agg #[.i o_14.P.Kind, .i o_14.P.N, .i o_14.P.Block]) o_14.P) [.cell a_1 [v_2, .i used_4], .row O11 45 v_2 x_3] [.cell c_25 [.i o_14.P.Kind, .i o_14.P.N, .i o_14.P.Block], .cell c_16 [.i o_14.Kind, .i o_14.P.Kind, .i o_14.P.N, .i o_14.P.Block, .i o_14.V.Kind, .i o_14.V.N, .i o_14.V.Block, .bool o_14.Write], .cell a_5 [v_6, v_8, v_10, .i Used_12], .row (tBool).o 4 v_6 x_7, .row ((tInt .i64)).o 2 v_8 x_9, .row (T6).o 85 v_10 x_11] rfl rfl rfl Try.func19 pn19 rfl rfl (fun y st hy hpre => mem_Memory_Unlock_ref st σ a_1 v_2 x_3 used_4 (.agg #[.i o_14.P.Kind, .i o_14.P.N, .i o_14.P.Block]) o_14.P (T13_v.2 rfl) hpre y hy) ?_))
         intro z_333 v_327 s_330 PV_328 hz_334 hle_331 hp_329
         obtain rfl := Option.some.inj (hk_303.symm.trans hz_334)
         obtain ⟨rfl, rfl, rfl⟩ := hp_329
         refine ⟨.inl (.inl rfl), ?_⟩
         refine J_select (PV' := [.cell a_5 [v_6, v_8, v_10, .i Used_12], .row (tBool).o 4 v_6 x_7, .row ((tInt .i64)).o 2 v_8 x_9, .row (T6).o 85 v_10 x_11, .cell a_1 [v_2, .i used_4], .row O11 45 v_2 k_302.2, .cell c_25 [.i o_14.P.Kind, .i o_14.P.N, .i o_14.P.Block], .cell c_16 [.i o_14.Kind, .i o_14.P.Kind, .i o_14.P.N, .i o_14.P.Block, .i o_14.V.Kind, .i o_14.V.N, .i o_14.V.Block, .bool o_14.Write]]) [4, 5, 6, 7, 0, 1, 2, 3] (by decide) rfl ?_
         refine JA_op (i := 6) (by kernel_rfl) rfl rfl (op_known hk_305 (op_call (f := 36) (fn := Try.f36) (args := [.pointer (some (Addr.add a_5 0)), .agg #[.i o_14.P.Kind, .i o_14.P.N, .i o_14.P.Block]]) (post := lychgateref06_Unlock_post σ a_5 v_6 x_7 v_8 x_9 v_10 x_11 Used_12 (.agg #[.i o_14.P.Kind, .i o_14.P.N, .i o_14.P.Block]) (⟨o_14.P.Kind, o_14.P.N, o_14.P.Block⟩ : Glychgateref06_Value)) [.cell a_5 [v_6, v_8, v_10, .i Used_12], .row (tBool).o 4 v_6 x_7, .row ((tInt .i64)).o 2 v_8 x_9, .row (T6).o 85 v_10 x_11] [.cell a_1 [v_2, .i used_4], .row O11 45 v_2 k_302.2, .cell c_25 [.i o_14.P.Kind, .i o_14.P.N, .i o_14.P.Block], .cell c_16 [.i o_14.Kind, .i o_14.P.Kind, .i o_14.P.N, .i o_14.P.Block, .i o_14.V.Kind, .i o_14.V.N, .i o_14.V.Block, .bool o_14.Write]] rfl rfl rfl Try.func36 pn36 rfl rfl (fun y st hy hpre => lychgateref06_Unlock_ref st σ a_5 v_6 x_7 v_8 x_9 v_10 x_11 Used_12 (.agg #[.i o_14.P.Kind, .i o_14.P.N, .i o_14.P.Block]) (⟨o_14.P.Kind, o_14.P.N, o_14.P.Block⟩ : Glychgateref06_Value) (T4_v.2 rfl) hpre y hy) ?_))
         intro z_341 v_335 s_338 PV_336 hz_342 hle_339 hp_337
         obtain rfl := Option.some.inj (hk_305.symm.trans hz_342)
         obtain ⟨rfl, rfl, rfl⟩ := hp_337
         refine ⟨.inl (.inr rfl), ?_⟩
         refine JA_takep 7 rfl hns (by kernel_rfl) (by kernel_rfl) rfl (.inl rfl) rfl rfl rfl (r_eql rfl rfl) ?_
         refine JA_takep 8 rfl hns (by kernel_rfl) (by kernel_rfl) rfl (.inl rfl) rfl rfl rfl (r_assign (v := .bool (decide (k_302.1 = k_304.1))) rfl) ?_
         refine J_select (PV' := [.cell a_1 [v_2, .i used_4], .row O11 45 v_2 k_302.2, .cell a_5 [v_6, v_8, v_10, .i Used_12], .row (tBool).o 4 v_6 x_7, .row ((tInt .i64)).o 2 v_8 x_9, .row (T6).o 85 v_10 k_304.2]) [4, 5, 0, 1, 2, 3] (by decide) rfl ?_
         refine J_prune _ ?_ fun b => hk () _ b _ _ ⟨rfl, rfl, rfl⟩
         exact ⟨rfl, trivial⟩
       ·rintro y_306 _ b s_309 _ ⟨rfl, rfl, rfl⟩
        unfold lychgatelaw06_step_K4
        refine JA_done (by kernel_rfl) ?_
        refine J_then ?_
        refine J_ret ?_
        refine J_in_ret ?_
        refine J_then_ret ?_
        exact J_returnV1 (PV' := [.cell a_1 [v_2, .i used_4], .row O11 45 v_2 k_302.2, .cell a_5 [v_6, v_8, v_10, .i Used_12], .row (tBool).o 4 v_6 x_7, .row ((tInt .i64)).o 2 v_8 x_9, .row (T6).o 85 v_10 k_304.2]) rfl rv_tmp [0, 1, 2, 3, 4, 5] (by decide) rfl ⟨v_2, v_6, v_8, v_10, rfl, rfl, rfl⟩
      ·refine J_skip ?_
       refine J_in_normal ?_
       refine J_then ?_
       refine J_seq ?_
       refine J_region ?_
       refine JL_op rfl (op_read rfl rfl (r_assign (v := .bool true) rfl) ?_)
       refine JL_nil ?_
       refine J_then ?_
       refine J_ret ?_
       exact J_returnV1 (PV' := [.cell a_1 [v_2, .i used_4], .row O11 45 v_2 x_3, .cell a_5 [v_6, v_8, v_10, .i Used_12], .row (tBool).o 4 v_6 x_7, .row ((tInt .i64)).o 2 v_8 x_9, .row (T6).o 85 v_10 x_11]) rfl rv_tmp [2, 3, 4, 5, 6, 7] (by decide) rfl ⟨v_2, v_6, v_8, v_10, rfl, rfl, rfl⟩
end Go.Px
