/- The calls do what the models say, part 3. -/
import Derived.Test.YthpibdcdeopneaaMd
import Derived.Test.YthpibdcdeopneaaRf1
import Derived.Test.YthpibdcdeopneaaRf2
namespace Go.Px
open Go.Proofs
set_option linter.unusedVariables false
def mem_Memory_Free_post (σ0 : FS) (a_1 : Addr) (v_2 : Value) (x_3 : Sl Gmem_Block) (used_4 : Int) (v_5 : Value) (p_6 : Gmem_Value) (r : Int × (Sl Gmem_Block)) (σ : FS) (PV : List Priv) (v : Value) : Prop :=
 σ0 = σ ∧ .i r.1 = v ∧ PV = [.cell a_1 [v_2, .i used_4], .row O11 45 v_2 r.2]
set_option maxRecDepth 100000 in
theorem mem_Memory_Free_ref (s : Start) (σ : FS) (a_1 : Addr) (v_2 : Value) (x_3 : Sl Gmem_Block) (used_4 : Int) (v_5 : Value) (p_6 : Gmem_Value) (h_7 : T13.vrel σ v_5 p_6) (hs : Pre s σ [.cell a_1 [v_2, .i used_4], .row O11 45 v_2 x_3]) (r : Int × (Sl Gmem_Block)) (hr : mem_Memory_Free x_3 used_4 p_6 = some r) : Does Try.prog 14 [.pointer (some (Addr.add a_1 0)), v_5] s σ (mem_Memory_Free_post σ a_1 v_2 x_3 used_4 v_5 p_6 r) := by
 unfold mem_Memory_Free at hr
 obtain rfl := T13_v.1 h_7
 refine does_of_J Try.func14 rfl (n := 37) rfl rfl hs hr ?_
 refine J_seq ?_
 refine J_region ?_
 refine JL_op rfl (op_box (cs := [.i p_6.Kind, .i p_6.N, .i p_6.Block]) rfl rfl ?_)
 intro c_8
 refine JL_op rfl (op_read rfl rfl (r_assign (v := .i 0) rfl) ?_)
 refine JL_nil ?_
 refine J_then ?_
 refine J_seq ?_
 refine J_region ?_
 refine JL_op rfl (op_read rfl rfl (r_move (v := .pointer (some (Addr.add a_1 0))) rfl) ?_)
 refine JL_op rfl (op_read rfl rfl (r_load_priv (a := c_8) (off := 0) (cs' := [.i p_6.Kind, .i p_6.N, .i p_6.Block]) (v := .agg #[.i p_6.Kind, .i p_6.N, .i p_6.Block]) 0 pu29 pi29 rfl rfl rfl rfl (by decide) rfl) ?_)
 refine J_select (PV' := [.cell a_1 [v_2, .i used_4], .row O11 45 v_2 x_3, .cell c_8 [.i p_6.Kind, .i p_6.N, .i p_6.Block]]) [1, 2, 0] (by decide) rfl ?_
 refine JL_op rfl (op_call (f := 22) (fn := Try.f22) (args := [.pointer (some (Addr.add a_1 0)), .agg #[.i p_6.Kind, .i p_6.N, .i p_6.Block]]) (post := mem_Memory_block_post σ a_1 v_2 x_3 used_4 (.agg #[.i p_6.Kind, .i p_6.N, .i p_6.Block]) p_6) [.cell a_1 [v_2, .i used_4], .row O11 45 v_2 x_3] [.cell c_8 [.i p_6.Kind, .i p_6.N, .i p_6.Block]] rfl rfl rfl Try.func22 pn22 rfl rfl (fun y st hy hpre => mem_Memory_block_ref st σ a_1 v_2 x_3 used_4 (.agg #[.i p_6.Kind, .i p_6.N, .i p_6.Block]) p_6 (T13_v.2 rfl) hpre y hy) ?_)
 intro r_10 v_12 s_15 PV_13 hr_11 hle_16 hp_14
 obtain ⟨rfl, rfl, rfl⟩ := hp_14
 refine JL_op rfl (op_read rfl rfl (r_move (v := .tuple #[peOpt v_2 (O11).size r_10.1, .i r_10.2]) rfl) ?_)
 refine JL_op rfl (op_read rfl rfl (r_extract (v := peOpt v_2 (O11).size r_10.1) rfl rfl) ?_)
 refine JL_op rfl (op_read rfl rfl (r_extract (v := .i r_10.2) rfl rfl) ?_)
 refine JL_op rfl (op_read rfl rfl (r_assign (v := peOpt v_2 (O11).size r_10.1) rfl) ?_)
 refine JL_op rfl (op_read rfl rfl (r_assign (v := .i r_10.2) rfl) ?_)
 refine JL_nil ?_
 refine J_then ?_
 refine J_seq ?_
 refine J_block ?_
 refine J_seq ?_
 refine J_region ?_
 refine JL_op rfl (op_read rfl rfl (r_move (v := .i r_10.2) rfl) ?_)
 refine JL_op rfl (op_read rfl rfl (r_neq rfl rfl) ?_)
 refine JL_op rfl (op_read rfl rfl (r_assign (v := .bool (decide (r_10.2 ≠ 0))) rfl) ?_)
 refine JL_nil ?_
 refine J_then ?_
 refine J_cond rfl (fun hc_17 => ?_) (fun hc_17 => ?_)
 ·refine J_seq ?_
  refine J_region ?_
  refine JL_op rfl (op_read rfl rfl (r_move (v := .i r_10.2) rfl) ?_)
  refine JL_op rfl (op_read rfl rfl (r_assign (v := .i r_10.2) rfl) ?_)
  refine JL_nil ?_
  refine J_then ?_
  refine J_ret ?_
  refine J_in_ret ?_
  refine J_then_ret ?_
  exact J_returnV1 (PV' := [.cell a_1 [v_2, .i used_4], .row O11 45 v_2 x_3]) rfl rv_tmp [1, 0] (by decide) rfl ⟨rfl, rfl, rfl⟩
 ·refine J_seq ?_
  refine J_region ?_
  refine JL_op rfl (op_read rfl rfl (r_fieldAddr (r := Addr.add c_8 1) pu29 (f := Try.pf29.getD 1 default) rfl pi2 (by decide) rfl (Addr.add_add _ _ _)) ?_)
  refine JL_op rfl (op_read rfl rfl (r_load_priv (a := c_8) (off := 1) (cs' := [.i p_6.N]) (v := .i p_6.N) 2 pu2 pi2 rfl rfl rfl rfl (by decide) rfl) ?_)
  refine JL_op rfl (op_read rfl rfl (r_neq rfl rfl) ?_)
  refine JL_op rfl (op_read rfl rfl (r_assign (v := .bool (decide (p_6.N ≠ 0))) rfl) ?_)
  refine JL_nil ?_
  refine J_then ?_
  refine J_cond rfl (fun hc_18 => ?_) (fun hc_18 => ?_)
  ·refine J_seq ?_
   refine J_region ?_
   refine JL_op rfl (op_read rfl rfl (r_assign (v := .i 5) rfl) ?_)
   refine JL_nil ?_
   refine J_then ?_
   refine J_ret ?_
   refine J_in_ret ?_
   refine J_then_ret ?_
   exact J_returnV1 (PV' := [.cell a_1 [v_2, .i used_4], .row O11 45 v_2 x_3]) rfl rv_tmp [1, 0] (by decide) rfl ⟨rfl, rfl, rfl⟩
  ·refine J_skip ?_
   refine J_in_normal ?_
   refine J_then ?_
   refine J_seq ?_
   refine J_seq ?_
   refine J_region ?_
   refine JL_op rfl (op_read rfl rfl (r_move (v := peOpt v_2 (O11).size r_10.1) rfl) ?_)
   refine J_bind fun i_19 hi_20 => ?_
   refine JL_op rfl (op_read rfl rfl (r_nilCheck_opt (i := i_19) rfl hi_20) ?_)
   refine JL_op rfl (op_read rfl rfl (r_fieldAddr (r := elemAddr v_2 ((i_19).toNat * (O11).size + 1)) pu45 (f := Try.pf45.getD 1 default) rfl pi43 (by decide) rfl (elemAddr_add _ _ _)) ?_)
   refine J_bind fun x_21 hx_22 => ?_
   refine J_take (T := O11) (i := i_19) hx_22 fun u_24 hu_23 => ?_
   obtain ⟨_, v_26, v_28, v_30⟩ := u_24
   change J _ _ _ _ _ _ _ _ [.hole (fun x => .elem O11 (elemAddr v_2 ((i_19).toNat * (O11).size)) x) (fun x => .row O11 45 v_2 (Sl.set x_3 i_19 x)), .cell (elemAddr v_2 ((i_19).toNat * (O11).size)) [.bool x_21.Live, v_26, v_28, v_30], .row (T13).o 29 v_26 x_21.Cells, .row ((tInt .i64)).o 3 v_28 x_21.Readers, .row (tBool).o 4 v_30 x_21.Writer, .cell a_1 [v_2, .i used_4], .cell c_8 [.i p_6.Kind, .i p_6.N, .i p_6.Block]]
   refine JL_op rfl (op_read rfl rfl (r_load_priv (a := (elemAddr v_2 ((i_19).toNat * (O11).size))) (off := 1) (cs' := [v_26]) (v := v_26) 1 pu43 pi43 (pe_add v_2 ((i_19).toNat * (O11).size) 1) rfl rfl rfl (by decide) rfl) ?_)
   refine JL_op rfl (op_read rfl rfl (r_len_row (v := v_26) 2 pu43 rfl rfl) ?_)
   refine JL_op rfl (op_read rfl rfl (r_move (v := .i 0) rfl) ?_)
   refine JL_nil ?_
   refine J_then ?_
   refine J_block ?_
   refine J_put (T := O11) (i := i_19) (s := x_3) (s' := x_3) (A := [.row (T13).o 29 v_26 x_21.Cells, .row ((tInt .i64)).o 3 v_28 x_21.Readers, .row (tBool).o 4 v_30 x_21.Writer]) (C := [.cell a_1 [v_2, .i used_4], .cell c_8 [.i p_6.Kind, .i p_6.N, .i p_6.Block]]) x_21 ((), v_26, v_28, v_30) ⟨trivial, trivial, trivial, trivial⟩ rfl rfl (Sl.set_same hx_22) ?_
   refine J_select (PV' := [.row O11 45 v_2 x_3, .cell a_1 [v_2, .i used_4]]) [0, 1] (by decide) rfl ?_
   refine J_loop (fun (y : (Option Int) × Int) L τ PV => σ = τ ∧ L = [(5, peOpt v_2 (O11).size y.1), (26, .i x_21.Cells.len), (27, .i y.2)] ∧ PV = [.row O11 45 v_2 x_3, .cell a_1 [v_2, .i used_4]]) (fun (y : W2 ((Option Int)) Unit) e L τ PV => match y, e with | .a y, e => e = .exit 1 ∧ (σ = τ ∧ L = [(5, peOpt v_2 (O11).size y)] ∧ PV = [.row O11 45 v_2 x_3, .cell a_1 [v_2, .i used_4]]) | .b y, e => e = .ret ∧ (σ = τ ∧ L = [(4, .i 6)] ∧ PV = [.cell a_1 [v_2, .i used_4], .row O11 45 v_2 x_3])) _ ?_ ⟨rfl, rfl, rfl⟩ ?_ ?_
   ·exact ⟨rfl, rfl, rfl, trivial⟩
   ·rintro x_32 _ b s_35 _ ⟨rfl, rfl, rfl⟩
    unfold mem_Memory_Free_L1
    refine J_seq ?_
    refine J_region ?_
    refine JL_op rfl (op_read rfl rfl (r_lss rfl rfl) ?_)
    refine JL_nil ?_
    refine J_then ?_
    refine J_seq ?_
    refine J_cond rfl (fun hc_36 => ?_) (fun hc_36 => ?_)
    ·refine J_skip ?_
     refine J_then ?_
     refine J_seq ?_
     refine J_block ?_
     refine J_seq ?_
     refine J_region ?_
     refine JL_op rfl (op_read rfl rfl (r_move (v := .i x_32.2) rfl) ?_)
     refine JL_op rfl (op_read rfl rfl (r_assign (v := .i x_32.2) rfl) ?_)
     refine JL_nil ?_
     refine J_then ?_
     refine J_seq ?_
     refine J_region ?_
     refine JL_op rfl (op_read rfl rfl (r_move (v := peOpt v_2 (O11).size x_32.1) rfl) ?_)
     refine JL_op rfl (op_read rfl rfl (r_move (v := .i x_32.2) rfl) ?_)
     refine J_bind fun i_37 hi_38 => ?_
     refine J_prune [(5, .pointer (some (elemAddr v_2 ((i_37).toNat * (O11).size + 0)))), (7, .i x_32.2), (26, .i x_21.Cells.len), (27, .i x_32.2), (28, .bool (decide (x_32.2 < x_21.Cells.len))), (29, .i x_32.2), (30, .pointer (some (elemAddr v_2 ((i_37).toNat * (O11).size + 0)))), (31, .i x_32.2)] ⟨(by show peOpt _ _ _ = _; rw [hi_38]; rfl), rfl, rfl, rfl, rfl, rfl, (by show peOpt _ _ _ = _; rw [hi_38]; rfl), rfl, trivial⟩ fun b => ?_
     refine J_bind fun x_39 hx_40 => ?_
     refine J_take (T := O11) (i := i_37) hx_40 fun u_42 hu_41 => ?_
     obtain ⟨_, v_44, v_46, v_48⟩ := u_42
     change J _ _ _ _ _ _ _ _ [.hole (fun x => .elem O11 (elemAddr v_2 ((i_37).toNat * (O11).size)) x) (fun x => .row O11 45 v_2 (Sl.set x_3 i_37 x)), .cell (elemAddr v_2 ((i_37).toNat * (O11).size)) [.bool x_39.Live, v_44, v_46, v_48], .row (T13).o 29 v_44 x_39.Cells, .row ((tInt .i64)).o 3 v_46 x_39.Readers, .row (tBool).o 4 v_48 x_39.Writer, .cell a_1 [v_2, .i used_4]]
     refine J_select (PV' := [.cell (elemAddr v_2 ((i_37).toNat * (O11).size)) [.bool x_39.Live, v_44, v_46, v_48], .row (T13).o 29 v_44 x_39.Cells, .row ((tInt .i64)).o 3 v_46 x_39.Readers, .row (tBool).o 4 v_48 x_39.Writer, .hole (fun x => .elem O11 (elemAddr v_2 ((i_37).toNat * (O11).size)) x) (fun x => .row O11 45 v_2 (Sl.set x_3 i_37 x)), .cell a_1 [v_2, .i used_4]]) [1, 2, 3, 4, 0, 5] (by decide) rfl ?_
     refine JL_op rfl (op_call (f := 23) (fn := Try.f23) (args := [.pointer (some (elemAddr v_2 ((i_37).toNat * (O11).size + 0))), .i x_32.2]) (post := mem_Block_busy_post σ (elemAddr v_2 ((i_37).toNat * (O11).size)) x_39.Live v_44 x_39.Cells v_46 x_39.Readers v_48 x_39.Writer x_32.2) [.cell (elemAddr v_2 ((i_37).toNat * (O11).size)) [.bool x_39.Live, v_44, v_46, v_48], .row (T13).o 29 v_44 x_39.Cells, .row ((tInt .i64)).o 3 v_46 x_39.Readers, .row (tBool).o 4 v_48 x_39.Writer] [.hole (fun x => .elem O11 (elemAddr v_2 ((i_37).toNat * (O11).size)) x) (fun x => .row O11 45 v_2 (Sl.set x_3 i_37 x)), .cell a_1 [v_2, .i used_4]] rfl rfl rfl Try.func23 pn23 rfl rfl (fun y st hy hpre => mem_Block_busy_ref st σ (elemAddr v_2 ((i_37).toNat * (O11).size)) x_39.Live v_44 x_39.Cells v_46 x_39.Readers v_48 x_39.Writer x_32.2 hpre y hy) ?_)
     intro r_50 v_52 s_55 PV_53 hr_51 hle_56 hp_54
     obtain ⟨rfl, rfl, rfl⟩ := hp_54
     refine JL_nil ?_
     refine J_then ?_
     refine J_cond rfl (fun hc_57 => ?_) (fun hc_57 => ?_)
     ·refine J_seq ?_
      refine J_region ?_
      refine JL_op rfl (op_read rfl rfl (r_assign (v := .i 6) rfl) ?_)
      refine JL_nil ?_
      refine J_then ?_
      refine J_ret ?_
      refine J_in_ret ?_
      refine J_then_ret ?_
      refine J_select (PV' := [.hole (fun x => .elem O11 (elemAddr v_2 ((i_37).toNat * (O11).size)) x) (fun x => .row O11 45 v_2 (Sl.set x_3 i_37 x)), .cell (elemAddr v_2 ((i_37).toNat * (O11).size)) [.bool x_39.Live, v_44, v_46, v_48], .row (T13).o 29 v_44 x_39.Cells, .row ((tInt .i64)).o 3 v_46 x_39.Readers, .row (tBool).o 4 v_48 x_39.Writer, .cell a_1 [v_2, .i used_4]]) [4, 0, 1, 2, 3, 5] (by decide) rfl ?_
      refine J_put (T := O11) (i := i_37) (s := x_3) (s' := x_3) (A := [.row (T13).o 29 v_44 x_39.Cells, .row ((tInt .i64)).o 3 v_46 x_39.Readers, .row (tBool).o 4 v_48 x_39.Writer]) (C := [.cell a_1 [v_2, .i used_4]]) x_39 ((), v_44, v_46, v_48) ⟨trivial, trivial, trivial, trivial⟩ rfl rfl (Sl.set_same hx_40) ?_
      refine J_select (PV' := [.cell a_1 [v_2, .i used_4], .row O11 45 v_2 x_3]) [1, 0] (by decide) rfl ?_
      refine J_done trivial _ ?_ ⟨rfl, rfl, rfl, rfl⟩
      exact ⟨rfl, trivial⟩
     ·refine J_skip ?_
      refine J_in_normal ?_
      refine J_then ?_
      refine J_region ?_
      refine JL_op rfl (op_read rfl rfl (r_add rfl rfl) ?_)
      refine JL_op rfl (op_read rfl rfl (r_move (v := .i (IntKind.i64.wrap (x_32.2 + 1))) rfl) ?_)
      refine JL_nil ?_
      refine J_select (PV' := [.hole (fun x => .elem O11 (elemAddr v_2 ((i_37).toNat * (O11).size)) x) (fun x => .row O11 45 v_2 (Sl.set x_3 i_37 x)), .cell (elemAddr v_2 ((i_37).toNat * (O11).size)) [.bool x_39.Live, v_44, v_46, v_48], .row (T13).o 29 v_44 x_39.Cells, .row ((tInt .i64)).o 3 v_46 x_39.Readers, .row (tBool).o 4 v_48 x_39.Writer, .cell a_1 [v_2, .i used_4]]) [4, 0, 1, 2, 3, 5] (by decide) rfl ?_
      refine J_put (T := O11) (i := i_37) (s := x_3) (s' := x_3) (A := [.row (T13).o 29 v_44 x_39.Cells, .row ((tInt .i64)).o 3 v_46 x_39.Readers, .row (tBool).o 4 v_48 x_39.Writer]) (C := [.cell a_1 [v_2, .i used_4]]) x_39 ((), v_44, v_46, v_48) ⟨trivial, trivial, trivial, trivial⟩ rfl rfl (Sl.set_same hx_40) ?_
      refine J_next _ ?_ ⟨rfl, rfl, rfl⟩
      exact ⟨rfl, rfl, rfl, trivial⟩
    ·refine J_exit ?_
     refine J_then_exit ?_
     refine J_done trivial _ ?_ ⟨rfl, rfl, rfl, rfl⟩
     exact ⟨rfl, trivial⟩
   ·rintro (y_59 | y_76) e L b τ PV ht
    ·obtain ⟨rfl, ht⟩ := ht
     revert ht; revert PV; revert τ; revert b; revert L
     rintro _ b s_62 _ ⟨rfl, rfl, rfl⟩
     refine J_in_exit ?_
     refine J_then ?_
     refine J_seq ?_
     refine J_region ?_
     refine JL_op rfl (op_read rfl rfl (r_move (v := peOpt v_2 (O11).size y_59) rfl) ?_)
     refine J_bind fun i_63 hi_64 => ?_
     refine JL_op rfl (op_read rfl rfl (r_nilCheck_opt (i := i_63) rfl hi_64) ?_)
     refine JL_op rfl (op_read rfl rfl (r_fieldAddr (r := elemAddr v_2 ((i_63).toNat * (O11).size + 0)) pu45 (f := Try.pf45.getD 0 default) rfl pi4 (by decide) rfl (elemAddr_add _ _ _)) ?_)
     refine J_bind fun x_65 hx_66 => ?_
     refine J_take (T := O11) (i := i_63) hx_66 fun u_68 hu_67 => ?_
     obtain ⟨_, v_70, v_72, v_74⟩ := u_68
     change J _ _ _ _ _ _ _ _ [.hole (fun x => .elem O11 (elemAddr v_2 ((i_63).toNat * (O11).size)) x) (fun x => .row O11 45 v_2 (Sl.set x_3 i_63 x)), .cell (elemAddr v_2 ((i_63).toNat * (O11).size)) [.bool x_65.Live, v_70, v_72, v_74], .row (T13).o 29 v_70 x_65.Cells, .row ((tInt .i64)).o 3 v_72 x_65.Readers, .row (tBool).o 4 v_74 x_65.Writer, .cell a_1 [v_2, .i used_4]]
     refine JL_op rfl (op_store_priv (a := (elemAddr v_2 ((i_63).toNat * (O11).size))) (off := 0) (vs := [.bool false]) (cs' := [.bool false, v_70, v_72, v_74]) (PV' := [.hole (fun x => .elem O11 (elemAddr v_2 ((i_63).toNat * (O11).size)) x) (fun x => .row O11 45 v_2 (Sl.set x_3 i_63 x)), .cell (elemAddr v_2 ((i_63).toNat * (O11).size)) [.bool false, v_70, v_72, v_74], .row (T13).o 29 v_70 x_65.Cells, .row ((tInt .i64)).o 3 v_72 x_65.Readers, .row (tBool).o 4 v_74 x_65.Writer, .cell a_1 [v_2, .i used_4]]) 1 pi4 (pe_add v_2 ((i_63).toNat * (O11).size) 0) rfl rfl ⟨rfl, trivial⟩ rfl rfl rfl rfl rfl ?_)
     refine JL_nil ?_
     refine J_then ?_
     refine J_seq ?_
     refine J_region ?_
     refine JL_op rfl (op_read rfl rfl (r_assign (v := .i 0) rfl) ?_)
     refine JL_nil ?_
     refine J_then ?_
     refine J_ret ?_
     refine J_put (T := O11) (i := i_63) (s := x_3) (s' := (Sl.set x_3 i_63 (⟨false, x_65.Cells, x_65.Readers, x_65.Writer⟩ : Gmem_Block))) (A := [.row (T13).o 29 v_70 x_65.Cells, .row ((tInt .i64)).o 3 v_72 x_65.Readers, .row (tBool).o 4 v_74 x_65.Writer]) (C := [.cell a_1 [v_2, .i used_4]]) (⟨false, x_65.Cells, x_65.Readers, x_65.Writer⟩ : Gmem_Block) ((), v_70, v_72, v_74) ⟨trivial, trivial, trivial, trivial⟩ rfl rfl rfl ?_
     exact J_returnV1 (PV' := [.cell a_1 [v_2, .i used_4], .row O11 45 v_2 (Sl.set x_3 i_63 (⟨false, x_65.Cells, x_65.Readers, x_65.Writer⟩ : Gmem_Block))]) rfl rv_tmp [1, 0] (by decide) rfl ⟨rfl, rfl, rfl⟩
    ·obtain ⟨rfl, ht⟩ := ht
     revert ht; revert PV; revert τ; revert b; revert L
     rintro _ b s_79 _ ⟨rfl, rfl, rfl⟩
     refine J_in_ret ?_
     refine J_then_ret ?_
     exact J_returnV1 (PV' := [.cell a_1 [v_2, .i used_4], .row O11 45 v_2 x_3]) rfl rv_tmp [0, 1] (by decide) rfl ⟨rfl, rfl, rfl⟩
end Go.Px
