/- The calls do what the models say, part 13. -/
import Derived.Test.YthpibdcdeopneaaMd
import Derived.Test.YthpibdcdeopneaaRf1
import Derived.Test.YthpibdcdeopneaaRf2
import Derived.Test.YthpibdcdeopneaaRf3
import Derived.Test.YthpibdcdeopneaaRf4
import Derived.Test.YthpibdcdeopneaaRf5
import Derived.Test.YthpibdcdeopneaaRf6
import Derived.Test.YthpibdcdeopneaaRf7
import Derived.Test.YthpibdcdeopneaaRf8
namespace Go.Px
open Go.Proofs
set_option linter.unusedVariables false
def mem_Memory_Alloc_v2_post (σ0 : FS) (n_1 : Int) (r : Unit) (σ : FS) (PV : List Priv) (v : Value) : Prop :=
 σ0 = σ ∧ .tuple #[.agg #[.i 0, .i 0, .i 0], .bool false] = v ∧ PV = []
set_option maxRecDepth 100000 in
theorem mem_Memory_Alloc_v2_ref (s : Start) (σ : FS) (n_1 : Int) (hs : Pre s σ []) (r : Unit) (hr : mem_Memory_Alloc_v2 n_1 = some r) : Does Try.prog 12 [.pointer none, .i n_1] s σ (mem_Memory_Alloc_v2_post σ n_1 r) := by
 unfold mem_Memory_Alloc_v2 at hr
 refine does_of_J Try.func12 rfl (n := 58) rfl rfl hs hr ?_
 refine J_seq ?_
 refine J_region ?_
 refine JL_op rfl (op_alloc (cs := [.i 0, .i 0, .i 0]) rfl pi29 rfl rfl ?_)
 intro c_2
 refine JL_op rfl (op_read rfl rfl (r_assign (v := .bool false) rfl) ?_)
 refine JL_nil ?_
 refine J_then ?_
 refine J_seq ?_
 refine J_seq ?_
 refine J_region ?_
 refine JL_op rfl (op_read rfl rfl (r_move (v := .pointer none) rfl) ?_)
 refine JL_op rfl (op_read rfl rfl (r_eqnil_ptr pu25 rfl rfl rfl) ?_)
 refine JL_op rfl (op_read rfl rfl (r_move (v := .bool true) rfl) ?_)
 refine JL_skip rfl rfl rfl rfl rfl ?_
 refine JL_skip rfl rfl rfl rfl rfl ?_
 refine JL_op rfl (op_read rfl rfl (r_pick_t (v := .bool true) rfl rfl rfl) ?_)
 refine JL_op rfl (op_read rfl rfl (r_move (v := .bool true) rfl) ?_)
 refine JL_skip rfl rfl rfl rfl rfl ?_
 refine JL_skip rfl rfl rfl rfl rfl ?_
 refine JL_op rfl (op_read rfl rfl (r_pick_t (v := .bool true) rfl rfl rfl) ?_)
 refine JL_op rfl (op_read rfl rfl (r_move (v := .bool true) rfl) ?_)
 iterate 8 refine JL_skip rfl rfl rfl rfl rfl ?_
 refine JL_op rfl (op_read rfl rfl (r_pick_t (v := .bool true) rfl rfl rfl) ?_)
 refine JL_nil ?_
 refine J_then ?_
 refine J_cond_t rfl ?_
 refine J_seq ?_
 refine J_region ?_
 refine JL_op rfl (op_read rfl rfl (r_build (cs := [.i 0, .i 0, .i 0]) (vs := []) (pcs := []) (pls := [(0, 1), (1, 1), (2, 1)]) pu29 pi29 rfl (by kernel_rfl) rfl trivial rfl) ?_)
 refine JL_op rfl (op_store_priv (a := c_2) (off := 0) (vs := [.i 0, .i 0, .i 0]) (cs' := [.i 0, .i 0, .i 0]) (PV' := [.cell c_2 [.i 0, .i 0, .i 0]]) 0 pi29 rfl rfl rfl ⟨rfl, rfl, rfl, trivial⟩ rfl rfl rfl rfl rfl ?_)
 refine JL_op rfl (op_read rfl rfl (r_assign (v := .bool false) rfl) ?_)
 refine JL_nil ?_
 refine J_then ?_
 refine J_ret ?_
 refine J_then_ret ?_
 exact J_returnV2 (PV' := []) rfl (rv_cell (cs := [.i 0, .i 0, .i 0]) (v := .agg #[.i 0, .i 0, .i 0]) 0 pu29 pi29 rfl rfl rfl (by decide) rfl) rv_tmp [] (by decide) rfl ⟨rfl, rfl, rfl⟩
def mem_Memory_block_v2_post (σ0 : FS) (v_1 : Value) (p_2 : Gmem_Value) (r : Int) (σ : FS) (PV : List Priv) (v : Value) : Prop :=
 σ0 = σ ∧ .tuple #[.pointer none, .i r] = v ∧ PV = []
set_option maxRecDepth 100000 in
theorem mem_Memory_block_v2_ref (s : Start) (σ : FS) (v_1 : Value) (p_2 : Gmem_Value) (h_3 : T13.vrel σ v_1 p_2) (hs : Pre s σ []) (r : Int) (hr : mem_Memory_block_v2 p_2 = some r) : Does Try.prog 22 [.pointer none, v_1] s σ (mem_Memory_block_v2_post σ v_1 p_2 r) := by
 unfold mem_Memory_block_v2 at hr
 obtain rfl := T13_v.1 h_3
 refine does_of_J Try.func22 rfl (n := 49) rfl rfl hs hr ?_
 refine J_seq ?_
 refine J_region ?_
 refine JL_op rfl (op_box (cs := [.i p_2.Kind, .i p_2.N, .i p_2.Block]) rfl rfl ?_)
 intro c_4
 refine JL_op rfl (op_read rfl rfl (r_assign (v := .pointer none) rfl) ?_)
 refine JL_op rfl (op_read rfl rfl (r_assign (v := .i 0) rfl) ?_)
 refine JL_nil ?_
 refine J_then ?_
 refine J_seq ?_
 refine J_block ?_
 refine J_seq ?_
 refine J_region ?_
 refine JL_op rfl (op_read rfl rfl (r_fieldAddr (r := Addr.add c_4 0) pu29 (f := Try.pf29.getD 0 default) rfl pi27 (by decide) rfl (Addr.add_add _ _ _)) ?_)
 refine JL_op rfl (op_read rfl rfl (r_load_priv (a := c_4) (off := 0) (cs' := [.i p_2.Kind]) (v := .i p_2.Kind) 0 pu27 pi27 rfl rfl rfl rfl (by decide) rfl) ?_)
 refine JL_op rfl (op_read rfl rfl (r_neq rfl rfl) ?_)
 refine JL_op rfl (op_read rfl rfl (r_assign (v := .bool (decide (p_2.Kind ≠ 2))) rfl) ?_)
 refine JL_nil ?_
 refine J_then ?_
 refine J_cond rfl (fun hc_6 => ?_) (fun hc_6 => ?_)
 ·refine J_seq ?_
  refine J_region ?_
  refine JL_op rfl (op_read rfl rfl (r_assign (v := .pointer none) rfl) ?_)
  refine JL_op rfl (op_read rfl rfl (r_assign (v := .i 1) rfl) ?_)
  refine JL_nil ?_
  refine J_then ?_
  refine J_ret ?_
  refine J_in_ret ?_
  refine J_then_ret ?_
  exact J_returnV2 (PV' := []) rfl rv_tmp rv_tmp [] (by decide) rfl ⟨rfl, rfl, rfl⟩
 ·refine J_seq ?_
  refine J_region_any 31 [.cell c_4 [.i p_2.Kind, .i p_2.N, .i p_2.Block]] Try.mixed (by kernel_rfl) fun hns => ?_
  have hS_7 : HeldOK σ [.cell c_4 [.i p_2.Kind, .i p_2.N, .i p_2.Block]] σ [.cell c_4 [.i p_2.Kind, .i p_2.N, .i p_2.Block]] := HeldOK.same [0] (by decide) rfl
  refine JA_takep 0 rfl hns (by kernel_rfl) (by kernel_rfl) rfl (.inr hS_7) rfl rfl rfl (r_move (v := .pointer none) rfl) ?_
  refine JA_takep 1 rfl hns (by kernel_rfl) (by kernel_rfl) rfl (.inr hS_7) rfl rfl rfl (r_eqnil_ptr pu25 rfl rfl rfl) ?_
  refine JA_takep 2 rfl hns (by kernel_rfl) (by kernel_rfl) rfl (.inr hS_7) rfl rfl rfl (r_move (v := .bool true) rfl) ?_
  refine JA_skip (y := some true) 3 rfl hns (by kernel_rfl) (by kernel_rfl) rfl (.inr hS_7) rfl rfl (by decide) rfl rfl ?_
  refine JA_skip (y := some true) 4 rfl hns (by kernel_rfl) (by kernel_rfl) rfl (.inr hS_7) rfl rfl (by decide) rfl rfl ?_
  refine JA_skip (y := some true) 5 rfl hns (by kernel_rfl) (by kernel_rfl) rfl (.inr hS_7) rfl rfl (by decide) rfl rfl ?_
  refine JA_takep 6 rfl hns (by kernel_rfl) (by kernel_rfl) rfl (.inr hS_7) rfl rfl rfl (r_pick_t (v := .bool true) rfl rfl rfl) ?_
  refine JA_takep 7 rfl hns (by kernel_rfl) (by kernel_rfl) rfl (.inr hS_7) rfl rfl rfl (r_move (v := .bool true) rfl) ?_
  refine JA_skip (y := some true) 8 rfl hns (by kernel_rfl) (by kernel_rfl) rfl (.inr hS_7) rfl rfl (by decide) rfl rfl ?_
  refine JA_skip (y := some true) 9 rfl hns (by kernel_rfl) (by kernel_rfl) rfl (.inr hS_7) rfl rfl (by decide) rfl rfl ?_
  refine JA_skip (y := some true) 10 rfl hns (by kernel_rfl) (by kernel_rfl) rfl (.inr hS_7) rfl rfl (by decide) rfl rfl ?_
  refine JA_skip (y := some true) 11 rfl hns (by kernel_rfl) (by kernel_rfl) rfl (.inr hS_7) rfl rfl (by decide) rfl rfl ?_
  refine JA_skip (y := some true) 12 rfl hns (by kernel_rfl) (by kernel_rfl) rfl (.inr hS_7) rfl rfl (by decide) rfl rfl ?_
  refine JA_skip (y := some true) 13 rfl hns (by kernel_rfl) (by kernel_rfl) rfl (.inr hS_7) rfl rfl (by decide) rfl rfl ?_
  refine JA_skip (y := some true) 14 rfl hns (by kernel_rfl) (by kernel_rfl) rfl (.inr hS_7) rfl rfl (by decide) rfl rfl ?_
  refine JA_skip (y := some true) 15 rfl hns (by kernel_rfl) (by kernel_rfl) rfl (.inr hS_7) rfl rfl (by decide) rfl rfl ?_
  refine JA_takep 16 rfl hns (by kernel_rfl) (by kernel_rfl) rfl (.inr hS_7) rfl rfl rfl (r_pick_t (v := .bool true) rfl rfl rfl) ?_
  refine JA_takep 17 rfl hns (by kernel_rfl) (by kernel_rfl) rfl (.inr hS_7) rfl rfl rfl (r_move (v := .bool true) rfl) ?_
  refine JA_skip (y := some true) 18 rfl hns (by kernel_rfl) (by kernel_rfl) rfl (.inr hS_7) rfl rfl (by decide) rfl rfl ?_
  refine JA_skip (y := some true) 19 rfl hns (by kernel_rfl) (by kernel_rfl) rfl (.inr hS_7) rfl rfl (by decide) rfl rfl ?_
  refine JA_skip (y := some true) 20 rfl hns (by kernel_rfl) (by kernel_rfl) rfl (.inr hS_7) rfl rfl (by decide) rfl rfl ?_
  refine JA_skip (y := some true) 21 rfl hns (by kernel_rfl) (by kernel_rfl) rfl (.inr hS_7) rfl rfl (by decide) rfl rfl ?_
  refine JA_skip (y := some true) 22 rfl hns (by kernel_rfl) (by kernel_rfl) rfl (.inr hS_7) rfl rfl (by decide) rfl rfl ?_
  refine JA_skip (y := some true) 23 rfl hns (by kernel_rfl) (by kernel_rfl) rfl (.inr hS_7) rfl rfl (by decide) rfl rfl ?_
  refine JA_skip (y := some true) 24 rfl hns (by kernel_rfl) (by kernel_rfl) rfl (.inr hS_7) rfl rfl (by decide) rfl rfl ?_
  refine JA_skip (y := some true) 25 rfl hns (by kernel_rfl) (by kernel_rfl) rfl (.inr hS_7) rfl rfl (by decide) rfl rfl ?_
  refine JA_skip (y := some true) 26 rfl hns (by kernel_rfl) (by kernel_rfl) rfl (.inr hS_7) rfl rfl (by decide) rfl rfl ?_
  refine JA_skip (y := some true) 27 rfl hns (by kernel_rfl) (by kernel_rfl) rfl (.inr hS_7) rfl rfl (by decide) rfl rfl ?_
  refine JA_skip (y := some true) 28 rfl hns (by kernel_rfl) (by kernel_rfl) rfl (.inr hS_7) rfl rfl (by decide) rfl rfl ?_
  refine JA_takep 29 rfl hns (by kernel_rfl) (by kernel_rfl) rfl (.inr hS_7) rfl rfl rfl (r_pick_t (v := .bool true) rfl rfl rfl) ?_
  refine JA_takep 30 rfl hns (by kernel_rfl) (by kernel_rfl) rfl (.inr hS_7) rfl rfl rfl (r_assign (v := .bool true) rfl) ?_
  refine JA_done (by kernel_rfl) ?_
  refine J_then ?_
  refine J_cond_t rfl ?_
  refine J_seq ?_
  refine J_region ?_
  refine JL_op rfl (op_read rfl rfl (r_assign (v := .pointer none) rfl) ?_)
  refine JL_op rfl (op_read rfl rfl (r_assign (v := .i 2) rfl) ?_)
  refine JL_nil ?_
  refine J_then ?_
  refine J_ret ?_
  refine J_in_ret ?_
  refine J_then_ret ?_
  exact J_returnV2 (PV' := []) rfl rv_tmp rv_tmp [] (by decide) rfl ⟨rfl, rfl, rfl⟩
def mem_Memory_cell_v2_post (σ0 : FS) (v_1 : Value) (p_2 : Gmem_Value) (r : Int) (σ : FS) (PV : List Priv) (v : Value) : Prop :=
 σ0 = σ ∧ .tuple #[.pointer none, .i r] = v ∧ PV = []
set_option maxRecDepth 100000 in
theorem mem_Memory_cell_v2_ref (s : Start) (σ : FS) (v_1 : Value) (p_2 : Gmem_Value) (h_3 : T13.vrel σ v_1 p_2) (hs : Pre s σ []) (r : Int) (hr : mem_Memory_cell_v2 p_2 = some r) : Does Try.prog 24 [.pointer none, v_1] s σ (mem_Memory_cell_v2_post σ v_1 p_2 r) := by
 unfold mem_Memory_cell_v2 at hr
 obtain rfl := T13_v.1 h_3
 refine does_of_J Try.func24 rfl (n := 33) rfl rfl hs hr ?_
 refine J_seq ?_
 refine J_region ?_
 refine JL_op rfl (op_box (cs := [.i p_2.Kind, .i p_2.N, .i p_2.Block]) rfl rfl ?_)
 intro c_4
 refine JL_op rfl (op_read rfl rfl (r_assign (v := .pointer none) rfl) ?_)
 refine JL_op rfl (op_read rfl rfl (r_assign (v := .i 0) rfl) ?_)
 refine JL_nil ?_
 refine J_then ?_
 refine J_seq ?_
 refine J_region ?_
 refine JL_op rfl (op_read rfl rfl (r_move (v := .pointer none) rfl) ?_)
 refine JL_op rfl (op_read rfl rfl (r_load_priv (a := c_4) (off := 0) (cs' := [.i p_2.Kind, .i p_2.N, .i p_2.Block]) (v := .agg #[.i p_2.Kind, .i p_2.N, .i p_2.Block]) 0 pu29 pi29 rfl rfl rfl rfl (by decide) rfl) ?_)
 refine JL_op rfl (op_call (f := 22) (fn := Try.f22) (args := [.pointer none, .agg #[.i p_2.Kind, .i p_2.N, .i p_2.Block]]) (post := mem_Memory_block_v2_post σ (.agg #[.i p_2.Kind, .i p_2.N, .i p_2.Block]) p_2) [] [.cell c_4 [.i p_2.Kind, .i p_2.N, .i p_2.Block]] rfl rfl rfl Try.func22 pn22 rfl rfl (fun y st hy hpre => mem_Memory_block_v2_ref st σ (.agg #[.i p_2.Kind, .i p_2.N, .i p_2.Block]) p_2 (T13_v.2 rfl) hpre y hy) ?_)
 intro r_6 v_8 s_11 PV_9 hr_7 hle_12 hp_10
 obtain ⟨rfl, rfl, rfl⟩ := hp_10
 refine JL_op rfl (op_read rfl rfl (r_move (v := .tuple #[.pointer none, .i r_6]) rfl) ?_)
 refine JL_op rfl (op_read rfl rfl (r_extract (v := .pointer none) rfl rfl) ?_)
 refine JL_op rfl (op_read rfl rfl (r_extract (v := .i r_6) rfl rfl) ?_)
 refine JL_op rfl (op_read rfl rfl (r_assign (v := .pointer none) rfl) ?_)
 refine JL_op rfl (op_read rfl rfl (r_assign (v := .i r_6) rfl) ?_)
 refine JL_nil ?_
 refine J_then ?_
 refine J_seq ?_
 refine J_seq ?_
 refine J_region_any 17 [.cell c_4 [.i p_2.Kind, .i p_2.N, .i p_2.Block]] Try.mixed (by kernel_rfl) fun hns => ?_
 have hS_13 : HeldOK σ [.cell c_4 [.i p_2.Kind, .i p_2.N, .i p_2.Block]] σ [.cell c_4 [.i p_2.Kind, .i p_2.N, .i p_2.Block]] := HeldOK.same [0] (by decide) rfl
 refine JA_takep 0 rfl hns (by kernel_rfl) (by kernel_rfl) rfl (.inr hS_13) rfl rfl rfl (r_move (v := .i r_6) rfl) ?_
 refine JA_takep 1 rfl hns (by kernel_rfl) (by kernel_rfl) rfl (.inr hS_13) rfl rfl rfl (r_eql rfl rfl) ?_
 refine JA_takep 2 rfl hns (by kernel_rfl) (by kernel_rfl) rfl (.inr hS_13) rfl rfl rfl (r_move (v := .bool (decide (r_6 = 0))) rfl) ?_
 refine J_forkAB (e := (decide (r_6 = 0))) 0 #[true, true, true, true, true, true, true, true, true, true, true, true, true, true, true, true, true] (fun (y : Bool) L τ PV => σ = τ ∧ L = [(6, .pointer none), (7, .i r_6), (30, .bool y)] ∧ PV = [.cell c_4 [.i p_2.Kind, .i p_2.N, .i p_2.Block]]) (fun hc_14 hk => ?_) (fun hc_14 hk => ?_) ?_
 ·refine JA_takepg 3 rfl hns (by kernel_rfl) (by kernel_rfl) rfl (.inr hS_13) rfl rfl hc_14 rfl rfl (r_fieldAddr (r := Addr.add c_4 1) pu29 (f := Try.pf29.getD 1 default) rfl pi2 (by decide) rfl (Addr.add_add _ _ _)) ?_
  refine JA_takeg 4 rfl hns (by kernel_rfl) (by kernel_rfl) (by kernel_rfl) rfl (by kernel_rfl) hS_13 rfl rfl hc_14 rfl rfl (r_load_priv (a := c_4) (off := 1) (cs' := [.i p_2.N]) (v := .i p_2.N) 0 pu2 pi2 rfl rfl rfl rfl (by decide) rfl) ?_
  refine JA_takepg 5 rfl hns (by kernel_rfl) (by kernel_rfl) rfl (.inr hS_13) rfl rfl hc_14 rfl rfl (r_lss rfl rfl) ?_
  refine JA_takepg 6 rfl hns (by kernel_rfl) (by kernel_rfl) rfl (.inr hS_13) rfl rfl hc_14 rfl rfl (r_move (v := .bool (decide (p_2.N < 0))) rfl) ?_
  refine J_assoc ?_
  refine J_forkAB (e := (decide (p_2.N < 0))) 1 #[true, true, true, true, true, true, true, true, true, true, true, true, true, true, true, true, false] (fun (y : Unit) L τ PV => σ = τ ∧ L = [(3, .pointer (some (Addr.add c_4 0))), (6, .pointer none), (7, .i r_6), (14, .i r_6), (15, .bool (decide (r_6 = 0))), (16, .bool (decide (r_6 = 0))), (17, .pointer (some (Addr.add c_4 1))), (18, .i p_2.N), (19, .bool (decide (p_2.N < 0))), (20, .bool (decide (p_2.N < 0))), (29, .bool true)] ∧ PV = [.cell c_4 [.i p_2.Kind, .i p_2.N, .i p_2.Block]]) (fun hc_16 hk => ?_) (fun hc_16 hk => ?_) ?_
  ·refine JA_skip (y := some (decide (p_2.N < 0))) 7 rfl hns (by kernel_rfl) (by kernel_rfl) rfl (.inr hS_13) rfl rfl (by rw [hc_16]; decide) rfl rfl ?_
   refine JA_skip (y := some (decide (p_2.N < 0))) 8 rfl hns (by kernel_rfl) (by kernel_rfl) rfl (.inr hS_13) rfl rfl (by rw [hc_16]; decide) rfl rfl ?_
   refine JA_skip (y := some (decide (p_2.N < 0))) 9 rfl hns (by kernel_rfl) (by kernel_rfl) rfl (.inr hS_13) rfl rfl (by rw [hc_16]; decide) rfl rfl ?_
   refine JA_skip (y := some (decide (p_2.N < 0))) 10 rfl hns (by kernel_rfl) (by kernel_rfl) rfl (.inr hS_13) rfl rfl (by rw [hc_16]; decide) rfl rfl ?_
   refine JA_skip (y := some (decide (p_2.N < 0))) 11 rfl hns (by kernel_rfl) (by kernel_rfl) rfl (.inr hS_13) rfl rfl (by rw [hc_16]; decide) rfl rfl ?_
   refine JA_skip (y := some (decide (p_2.N < 0))) 12 rfl hns (by kernel_rfl) (by kernel_rfl) rfl (.inr hS_13) rfl rfl (by rw [hc_16]; decide) rfl rfl ?_
   refine JA_skip (y := some (decide (p_2.N < 0))) 13 rfl hns (by kernel_rfl) (by kernel_rfl) rfl (.inr hS_13) rfl rfl (by rw [hc_16]; decide) rfl rfl ?_
   refine JA_skip (y := some (decide (p_2.N < 0))) 14 rfl hns (by kernel_rfl) (by kernel_rfl) rfl (.inr hS_13) rfl rfl (by rw [hc_16]; decide) rfl rfl ?_
   refine JA_takepg 15 rfl hns (by kernel_rfl) (by kernel_rfl) rfl (.inr hS_13) rfl rfl hc_14 rfl rfl (r_pick_t (v := .bool true) rfl hc_16 rfl) ?_
   refine J_prune _ ?_ fun b => hk () _ b _ _ ⟨rfl, rfl, rfl⟩
   exact ⟨rfl, rfl, rfl, rfl, rfl, rfl, rfl, rfl, rfl, rfl, rfl, trivial⟩
  ·refine JA_takepg 7 rfl hns (by kernel_rfl) (by kernel_rfl) rfl (.inr hS_13) rfl rfl hc_16 rfl rfl (r_fieldAddr (r := Addr.add c_4 1) pu29 (f := Try.pf29.getD 1 default) rfl pi2 (by decide) rfl (Addr.add_add _ _ _)) ?_
   refine JA_takeg 8 rfl hns (by kernel_rfl) (by kernel_rfl) (by kernel_rfl) rfl (by kernel_rfl) hS_13 rfl rfl hc_16 rfl rfl (r_load_priv (a := c_4) (off := 1) (cs' := [.i p_2.N]) (v := .i p_2.N) 0 pu2 pi2 rfl rfl rfl rfl (by decide) rfl) ?_
   refine JA_takepg 9 rfl hns (by kernel_rfl) (by kernel_rfl) rfl (.inr hS_13) rfl rfl hc_16 rfl rfl (r_move (v := .pointer none) rfl) ?_
   exact J_none
  ·rintro y_17 _ b s_20 _ ⟨rfl, rfl, rfl⟩
   have hS_21 : HeldOK σ [.cell c_4 [.i p_2.Kind, .i p_2.N, .i p_2.Block]] σ [.cell c_4 [.i p_2.Kind, .i p_2.N, .i p_2.Block]] := HeldOK.same [0] (by decide) rfl
   refine JA_takep 16 rfl hns (by kernel_rfl) (by kernel_rfl) rfl (.inr hS_21) rfl rfl rfl (r_pick_t (v := .bool true) rfl hc_14 rfl) ?_
   refine J_prune _ ?_ fun b => hk true _ b _ _ ⟨rfl, rfl, rfl⟩
   exact ⟨rfl, rfl, rfl, trivial⟩
 ·refine JA_skip (y := some (decide (r_6 = 0))) 3 rfl hns (by kernel_rfl) (by kernel_rfl) rfl (.inr hS_13) rfl rfl (by rw [hc_14]; decide) rfl rfl ?_
  refine JA_skip (y := some (decide (r_6 = 0))) 4 rfl hns (by kernel_rfl) (by kernel_rfl) rfl (.inr hS_13) rfl rfl (by rw [hc_14]; decide) rfl rfl ?_
  refine JA_skip (y := some (decide (r_6 = 0))) 5 rfl hns (by kernel_rfl) (by kernel_rfl) rfl (.inr hS_13) rfl rfl (by rw [hc_14]; decide) rfl rfl ?_
  refine JA_skip (y := some (decide (r_6 = 0))) 6 rfl hns (by kernel_rfl) (by kernel_rfl) rfl (.inr hS_13) rfl rfl (by rw [hc_14]; decide) rfl rfl ?_
  refine JA_skip (y := none) 7 rfl hns (by kernel_rfl) (by kernel_rfl) rfl (.inr hS_13) rfl rfl (by decide) rfl rfl ?_
  refine JA_skip (y := none) 8 rfl hns (by kernel_rfl) (by kernel_rfl) rfl (.inr hS_13) rfl rfl (by decide) rfl rfl ?_
  refine JA_skip (y := none) 9 rfl hns (by kernel_rfl) (by kernel_rfl) rfl (.inr hS_13) rfl rfl (by decide) rfl rfl ?_
  refine JA_skip (y := none) 10 rfl hns (by kernel_rfl) (by kernel_rfl) rfl (.inr hS_13) rfl rfl (by decide) rfl rfl ?_
  refine JA_skip (y := none) 11 rfl hns (by kernel_rfl) (by kernel_rfl) rfl (.inr hS_13) rfl rfl (by decide) rfl rfl ?_
  refine JA_skip (y := none) 12 rfl hns (by kernel_rfl) (by kernel_rfl) rfl (.inr hS_13) rfl rfl (by decide) rfl rfl ?_
  refine JA_skip (y := none) 13 rfl hns (by kernel_rfl) (by kernel_rfl) rfl (.inr hS_13) rfl rfl (by decide) rfl rfl ?_
  refine JA_skip (y := none) 14 rfl hns (by kernel_rfl) (by kernel_rfl) rfl (.inr hS_13) rfl rfl (by decide) rfl rfl ?_
  refine JA_skip (y := some (decide (r_6 = 0))) 15 rfl hns (by kernel_rfl) (by kernel_rfl) rfl (.inr hS_13) rfl rfl (by rw [hc_14]; decide) rfl rfl ?_
  refine JA_takep 16 rfl hns (by kernel_rfl) (by kernel_rfl) rfl (.inr hS_13) rfl rfl rfl (r_pick_f (v := .bool false) rfl hc_14 rfl) ?_
  refine J_prune _ ?_ fun b => hk false _ b _ _ ⟨rfl, rfl, rfl⟩
  exact ⟨rfl, rfl, rfl, trivial⟩
 ·rintro y_15 _ b s_24 _ ⟨rfl, rfl, rfl⟩
  have hS_25 : HeldOK σ [.cell c_4 [.i p_2.Kind, .i p_2.N, .i p_2.Block]] σ [.cell c_4 [.i p_2.Kind, .i p_2.N, .i p_2.Block]] := HeldOK.same [0] (by decide) rfl
  refine JA_done (by kernel_rfl) ?_
  refine J_then ?_
  refine J_cond rfl (fun hc_26 => ?_) (fun hc_26 => ?_)
  ·refine J_seq ?_
   refine J_region ?_
   refine JL_op rfl (op_read rfl rfl (r_assign (v := .pointer none) rfl) ?_)
   refine JL_op rfl (op_read rfl rfl (r_assign (v := .i 3) rfl) ?_)
   refine JL_nil ?_
   refine J_then ?_
   refine J_ret ?_
   refine J_then_ret ?_
   exact J_returnV2 (PV' := []) rfl rv_tmp rv_tmp [] (by decide) rfl ⟨rfl, rfl, rfl⟩
  ·refine J_skip ?_
   refine J_then ?_
   refine J_seq ?_
   refine J_region ?_
   refine JL_op rfl (op_read rfl rfl (r_move (v := .pointer none) rfl) ?_)
   refine JL_op rfl (op_read rfl rfl (r_move (v := .i r_6) rfl) ?_)
   refine JL_op rfl (op_read rfl rfl (r_assign (v := .pointer none) rfl) ?_)
   refine JL_op rfl (op_read rfl rfl (r_assign (v := .i r_6) rfl) ?_)
   refine JL_nil ?_
   refine J_then ?_
   refine J_ret ?_
   exact J_returnV2 (PV' := []) rfl rv_tmp rv_tmp [] (by decide) rfl ⟨rfl, rfl, rfl⟩
def mem_Memory_End_v2_post (σ0 : FS) (v_1 : Value) (p_2 : Gmem_Value) (write_4 : Bool) (v_5 : Value) (v_6 : Gmem_Value) (r : Int) (σ : FS) (PV : List Priv) (v : Value) : Prop :=
 σ0 = σ ∧ .tuple #[.agg #[.i 0, .i 0, .i 0], .i r] = v ∧ PV = []
set_option maxRecDepth 100000 in
theorem mem_Memory_End_v2_ref (s : Start) (σ : FS) (v_1 : Value) (p_2 : Gmem_Value) (h_3 : T13.vrel σ v_1 p_2) (write_4 : Bool) (v_5 : Value) (v_6 : Gmem_Value) (h_7 : T13.vrel σ v_5 v_6) (hs : Pre s σ []) (r : Int) (hr : mem_Memory_End_v2 p_2 write_4 v_6 = some r) : Does Try.prog 16 [.pointer none, v_1, .bool write_4, v_5] s σ (mem_Memory_End_v2_post σ v_1 p_2 write_4 v_5 v_6 r) := by
 unfold mem_Memory_End_v2 at hr
 obtain rfl := T13_v.1 h_3
 obtain rfl := T13_v.1 h_7
 refine does_of_J Try.func16 rfl (n := 94) rfl rfl hs hr ?_
 refine J_seq ?_
 refine J_region ?_
 refine JL_op rfl (op_box (cs := [.i p_2.Kind, .i p_2.N, .i p_2.Block]) rfl rfl ?_)
 intro c_8
 refine JL_op rfl (op_box (cs := [.i v_6.Kind, .i v_6.N, .i v_6.Block]) rfl rfl ?_)
 intro c_10
 refine JL_op rfl (op_alloc (cs := [.i 0, .i 0, .i 0]) rfl pi29 rfl rfl ?_)
 intro c_12
 refine JL_op rfl (op_read rfl rfl (r_assign (v := .i 0) rfl) ?_)
 refine JL_nil ?_
 refine J_then ?_
 refine J_seq ?_
 refine J_region ?_
 refine JL_op rfl (op_read rfl rfl (r_move (v := .pointer none) rfl) ?_)
 refine JL_op rfl (op_read rfl rfl (r_load_priv (a := c_8) (off := 0) (cs' := [.i p_2.Kind, .i p_2.N, .i p_2.Block]) (v := .agg #[.i p_2.Kind, .i p_2.N, .i p_2.Block]) 2 pu29 pi29 rfl rfl rfl rfl (by decide) rfl) ?_)
 refine JL_op rfl (op_call (f := 24) (fn := Try.f24) (args := [.pointer none, .agg #[.i p_2.Kind, .i p_2.N, .i p_2.Block]]) (post := mem_Memory_cell_v2_post σ (.agg #[.i p_2.Kind, .i p_2.N, .i p_2.Block]) p_2) [] [.cell c_12 [.i 0, .i 0, .i 0], .cell c_10 [.i v_6.Kind, .i v_6.N, .i v_6.Block], .cell c_8 [.i p_2.Kind, .i p_2.N, .i p_2.Block]] rfl rfl rfl Try.func24 pn24 rfl rfl (fun y st hy hpre => mem_Memory_cell_v2_ref st σ (.agg #[.i p_2.Kind, .i p_2.N, .i p_2.Block]) p_2 (T13_v.2 rfl) hpre y hy) ?_)
 intro r_14 v_16 s_19 PV_17 hr_15 hle_20 hp_18
 obtain ⟨rfl, rfl, rfl⟩ := hp_18
 refine JL_op rfl (op_read rfl rfl (r_move (v := .tuple #[.pointer none, .i r_14]) rfl) ?_)
 refine JL_op rfl (op_read rfl rfl (r_extract (v := .pointer none) rfl rfl) ?_)
 refine JL_op rfl (op_read rfl rfl (r_extract (v := .i r_14) rfl rfl) ?_)
 refine JL_op rfl (op_read rfl rfl (r_assign (v := .pointer none) rfl) ?_)
 refine JL_op rfl (op_read rfl rfl (r_assign (v := .i r_14) rfl) ?_)
 refine JL_nil ?_
 refine J_then ?_
 refine J_seq ?_
 refine J_block ?_
 refine J_seq ?_
 refine J_region ?_
 refine JL_op rfl (op_read rfl rfl (r_move (v := .i r_14) rfl) ?_)
 refine JL_op rfl (op_read rfl rfl (r_neq rfl rfl) ?_)
 refine JL_op rfl (op_read rfl rfl (r_assign (v := .bool (decide (r_14 ≠ 0))) rfl) ?_)
 refine JL_nil ?_
 refine J_then ?_
 refine J_cond rfl (fun hc_21 => ?_) (fun hc_21 => ?_)
 ·refine J_seq ?_
  refine J_region ?_
  refine JL_op rfl (op_read rfl rfl (r_build (cs := [.i 0, .i 0, .i 0]) (vs := []) (pcs := []) (pls := [(0, 1), (1, 1), (2, 1)]) pu29 pi29 rfl (by kernel_rfl) rfl trivial rfl) ?_)
  refine JL_op rfl (op_read rfl rfl (r_move (v := .i r_14) rfl) ?_)
  refine JL_op rfl (op_store_priv (a := c_12) (off := 0) (vs := [.i 0, .i 0, .i 0]) (cs' := [.i 0, .i 0, .i 0]) (PV' := [.cell c_12 [.i 0, .i 0, .i 0], .cell c_10 [.i v_6.Kind, .i v_6.N, .i v_6.Block], .cell c_8 [.i p_2.Kind, .i p_2.N, .i p_2.Block]]) 0 pi29 rfl rfl rfl ⟨rfl, rfl, rfl, trivial⟩ rfl rfl rfl rfl rfl ?_)
  refine JL_op rfl (op_read rfl rfl (r_assign (v := .i r_14) rfl) ?_)
  refine JL_nil ?_
  refine J_then ?_
  refine J_ret ?_
  refine J_in_ret ?_
  refine J_then_ret ?_
  exact J_returnV2 (PV' := []) rfl (rv_cell (cs := [.i 0, .i 0, .i 0]) (v := .agg #[.i 0, .i 0, .i 0]) 0 pu29 pi29 rfl rfl rfl (by decide) rfl) rv_tmp [] (by decide) rfl ⟨rfl, rfl, rfl⟩
 ·refine J_seq ?_
  refine J_region_any 28 [.cell c_12 [.i 0, .i 0, .i 0], .cell c_10 [.i v_6.Kind, .i v_6.N, .i v_6.Block], .cell c_8 [.i p_2.Kind, .i p_2.N, .i p_2.Block]] Try.mixed (by kernel_rfl) fun hns => ?_
  have hS_22 : HeldOK σ [.cell c_12 [.i 0, .i 0, .i 0], .cell c_10 [.i v_6.Kind, .i v_6.N, .i v_6.Block], .cell c_8 [.i p_2.Kind, .i p_2.N, .i p_2.Block]] σ [.cell c_12 [.i 0, .i 0, .i 0], .cell c_10 [.i v_6.Kind, .i v_6.N, .i v_6.Block], .cell c_8 [.i p_2.Kind, .i p_2.N, .i p_2.Block]] := HeldOK.same [0, 1, 2] (by decide) rfl
  refine JA_takep 0 rfl hns (by kernel_rfl) (by kernel_rfl) rfl (.inr hS_22) rfl rfl rfl (r_move (v := .bool write_4) rfl) ?_
  refine JA_takep 1 rfl hns (by kernel_rfl) (by kernel_rfl) rfl (.inr hS_22) rfl rfl rfl (r_move (v := .bool write_4) rfl) ?_
  refine J_forkAB (e := write_4) 16 #[true, true, true, true, true, true, true, true, true, true, true, true, false, false, false, false, false, false, false, false, false, false, false, false, false, false, false, false] (fun (y : Unit) L τ PV => σ = τ ∧ L = [(2, .bool write_4), (5, .pointer (some (Addr.add c_8 0))), (7, .pointer (some (Addr.add c_10 0))), (8, .pointer (some (Addr.add c_12 0))), (10, .pointer none), (35, .bool false)] ∧ PV = [.cell c_8 [.i p_2.Kind, .i p_2.N, .i p_2.Block], .cell c_10 [.i v_6.Kind, .i v_6.N, .i v_6.Block], .cell c_12 [.i 0, .i 0, .i 0]]) (fun hc_23 hk => ?_) (fun hc_23 hk => ?_) ?_
  ·refine JA_takepg 2 rfl hns (by kernel_rfl) (by kernel_rfl) rfl (.inr hS_22) rfl rfl hc_23 rfl rfl (r_move (v := .pointer none) rfl) ?_
   exact J_none
  ·refine JA_skip (y := some write_4) 2 rfl hns (by kernel_rfl) (by kernel_rfl) rfl (.inr hS_22) rfl rfl (by rw [hc_23]; decide) rfl rfl ?_
   refine JA_skip (y := some write_4) 3 rfl hns (by kernel_rfl) (by kernel_rfl) rfl (.inr hS_22) rfl rfl (by rw [hc_23]; decide) rfl rfl ?_
   refine JA_skip (y := some write_4) 4 rfl hns (by kernel_rfl) (by kernel_rfl) rfl (.inr hS_22) rfl rfl (by rw [hc_23]; decide) rfl rfl ?_
   refine JA_skip (y := some write_4) 5 rfl hns (by kernel_rfl) (by kernel_rfl) rfl (.inr hS_22) rfl rfl (by rw [hc_23]; decide) rfl rfl ?_
   refine JA_skip (y := some write_4) 6 rfl hns (by kernel_rfl) (by kernel_rfl) rfl (.inr hS_22) rfl rfl (by rw [hc_23]; decide) rfl rfl ?_
   refine JA_skip (y := some write_4) 7 rfl hns (by kernel_rfl) (by kernel_rfl) rfl (.inr hS_22) rfl rfl (by rw [hc_23]; decide) rfl rfl ?_
   refine JA_skip (y := some write_4) 8 rfl hns (by kernel_rfl) (by kernel_rfl) rfl (.inr hS_22) rfl rfl (by rw [hc_23]; decide) rfl rfl ?_
   refine JA_skip (y := some write_4) 9 rfl hns (by kernel_rfl) (by kernel_rfl) rfl (.inr hS_22) rfl rfl (by rw [hc_23]; decide) rfl rfl ?_
   refine JA_skip (y := some write_4) 10 rfl hns (by kernel_rfl) (by kernel_rfl) rfl (.inr hS_22) rfl rfl (by rw [hc_23]; decide) rfl rfl ?_
   refine JA_takep 11 rfl hns (by kernel_rfl) (by kernel_rfl) rfl (.inr hS_22) rfl rfl rfl (r_pick_f (v := .bool false) rfl hc_23 rfl) ?_
   refine J_select (PV' := [.cell c_8 [.i p_2.Kind, .i p_2.N, .i p_2.Block], .cell c_10 [.i v_6.Kind, .i v_6.N, .i v_6.Block], .cell c_12 [.i 0, .i 0, .i 0]]) [2, 1, 0] (by decide) rfl ?_
   refine J_prune _ ?_ fun b => hk () _ b _ _ ⟨rfl, rfl, rfl⟩
   exact ⟨rfl, rfl, rfl, rfl, rfl, rfl, trivial⟩
  ·rintro y_24 _ b s_27 _ ⟨rfl, rfl, rfl⟩
   have hS_28 : HeldOK σ [.cell c_12 [.i 0, .i 0, .i 0], .cell c_10 [.i v_6.Kind, .i v_6.N, .i v_6.Block], .cell c_8 [.i p_2.Kind, .i p_2.N, .i p_2.Block]] σ [.cell c_8 [.i p_2.Kind, .i p_2.N, .i p_2.Block], .cell c_10 [.i v_6.Kind, .i v_6.N, .i v_6.Block], .cell c_12 [.i 0, .i 0, .i 0]] := HeldOK.same [2, 1, 0] (by decide) rfl
   refine JA_takep 12 rfl hns (by kernel_rfl) (by kernel_rfl) rfl (.inr hS_28) rfl rfl rfl (r_move (v := .bool false) rfl) ?_
   refine JA_takepg 13 rfl hns (by kernel_rfl) (by kernel_rfl) rfl (.inr hS_28) rfl rfl rfl rfl rfl (r_move (v := .bool write_4) rfl) ?_
   refine JA_takepg 14 rfl hns (by kernel_rfl) (by kernel_rfl) rfl (.inr hS_28) rfl rfl rfl rfl rfl (r_not rfl) ?_
   refine JA_takepg 15 rfl hns (by kernel_rfl) (by kernel_rfl) rfl (.inr hS_28) rfl rfl rfl rfl rfl (r_move (v := .bool (!write_4)) rfl) ?_
   refine J_forkAB (e := (!write_4)) 2 #[true, true, true, true, true, true, true, true, true, true, true, true, true, true, true, true, true, true, true, true, true, true, true, true, true, true, false, false] (fun (y : Unit) L τ PV => σ = τ ∧ L = [(2, .bool write_4), (5, .pointer (some (Addr.add c_8 0))), (7, .pointer (some (Addr.add c_10 0))), (8, .pointer (some (Addr.add c_12 0))), (10, .pointer none), (35, .bool false), (36, .bool false), (37, .bool write_4), (38, .bool (!write_4)), (39, .bool (!write_4)), (49, .bool false)] ∧ PV = [.cell c_8 [.i p_2.Kind, .i p_2.N, .i p_2.Block], .cell c_10 [.i v_6.Kind, .i v_6.N, .i v_6.Block], .cell c_12 [.i 0, .i 0, .i 0]]) (fun hc_29 hk => ?_) (fun hc_29 hk => ?_) ?_
   ·refine JA_takepg 16 rfl hns (by kernel_rfl) (by kernel_rfl) rfl (.inr hS_28) rfl rfl hc_29 rfl rfl (r_move (v := .pointer none) rfl) ?_
    exact J_none
   ·refine JA_skip (y := some (!write_4)) 16 rfl hns (by kernel_rfl) (by kernel_rfl) rfl (.inr hS_28) rfl rfl (by rw [hc_29]; decide) rfl rfl ?_
    refine JA_skip (y := some (!write_4)) 17 rfl hns (by kernel_rfl) (by kernel_rfl) rfl (.inr hS_28) rfl rfl (by rw [hc_29]; decide) rfl rfl ?_
    refine JA_skip (y := some (!write_4)) 18 rfl hns (by kernel_rfl) (by kernel_rfl) rfl (.inr hS_28) rfl rfl (by rw [hc_29]; decide) rfl rfl ?_
    refine JA_skip (y := some (!write_4)) 19 rfl hns (by kernel_rfl) (by kernel_rfl) rfl (.inr hS_28) rfl rfl (by rw [hc_29]; decide) rfl rfl ?_
    refine JA_skip (y := some (!write_4)) 20 rfl hns (by kernel_rfl) (by kernel_rfl) rfl (.inr hS_28) rfl rfl (by rw [hc_29]; decide) rfl rfl ?_
    refine JA_skip (y := some (!write_4)) 21 rfl hns (by kernel_rfl) (by kernel_rfl) rfl (.inr hS_28) rfl rfl (by rw [hc_29]; decide) rfl rfl ?_
    refine JA_skip (y := some (!write_4)) 22 rfl hns (by kernel_rfl) (by kernel_rfl) rfl (.inr hS_28) rfl rfl (by rw [hc_29]; decide) rfl rfl ?_
    refine JA_skip (y := some (!write_4)) 23 rfl hns (by kernel_rfl) (by kernel_rfl) rfl (.inr hS_28) rfl rfl (by rw [hc_29]; decide) rfl rfl ?_
    refine JA_skip (y := some (!write_4)) 24 rfl hns (by kernel_rfl) (by kernel_rfl) rfl (.inr hS_28) rfl rfl (by rw [hc_29]; decide) rfl rfl ?_
    refine JA_takepg 25 rfl hns (by kernel_rfl) (by kernel_rfl) rfl (.inr hS_28) rfl rfl rfl rfl rfl (r_pick_f (v := .bool false) rfl hc_29 rfl) ?_
    refine J_prune _ ?_ fun b => hk () _ b _ _ ⟨rfl, rfl, rfl⟩
    exact ⟨rfl, rfl, rfl, rfl, rfl, rfl, rfl, rfl, rfl, rfl, rfl, trivial⟩
   ·rintro y_30 _ b s_33 _ ⟨rfl, rfl, rfl⟩
    have hS_34 : HeldOK σ [.cell c_12 [.i 0, .i 0, .i 0], .cell c_10 [.i v_6.Kind, .i v_6.N, .i v_6.Block], .cell c_8 [.i p_2.Kind, .i p_2.N, .i p_2.Block]] σ [.cell c_8 [.i p_2.Kind, .i p_2.N, .i p_2.Block], .cell c_10 [.i v_6.Kind, .i v_6.N, .i v_6.Block], .cell c_12 [.i 0, .i 0, .i 0]] := HeldOK.same [2, 1, 0] (by decide) rfl
    refine JA_takep 26 rfl hns (by kernel_rfl) (by kernel_rfl) rfl (.inr hS_34) rfl rfl rfl (r_pick_f (v := .bool false) rfl rfl rfl) ?_
    refine JA_takep 27 rfl hns (by kernel_rfl) (by kernel_rfl) rfl (.inr hS_34) rfl rfl rfl (r_assign (v := .bool false) rfl) ?_
    refine JA_done (by kernel_rfl) ?_
    refine J_then ?_
    refine J_cond_f rfl ?_
    refine J_seq ?_
    refine J_region ?_
    refine JL_op rfl (op_read rfl rfl (r_move (v := .bool write_4) rfl) ?_)
    refine JL_op rfl (op_read rfl rfl (r_assign (v := .bool write_4) rfl) ?_)
    refine JL_nil ?_
    refine J_then ?_
    refine J_cond rfl (fun hc_35 => ?_) (fun hc_35 => ?_)
    ·refine J_seq ?_
     refine J_region_any 8 [.cell c_8 [.i p_2.Kind, .i p_2.N, .i p_2.Block], .cell c_10 [.i v_6.Kind, .i v_6.N, .i v_6.Block], .cell c_12 [.i 0, .i 0, .i 0]] Try.mixed (by kernel_rfl) fun hns => ?_
     have hS_36 : HeldOK σ [.cell c_8 [.i p_2.Kind, .i p_2.N, .i p_2.Block], .cell c_10 [.i v_6.Kind, .i v_6.N, .i v_6.Block], .cell c_12 [.i 0, .i 0, .i 0]] σ [.cell c_8 [.i p_2.Kind, .i p_2.N, .i p_2.Block], .cell c_10 [.i v_6.Kind, .i v_6.N, .i v_6.Block], .cell c_12 [.i 0, .i 0, .i 0]] := HeldOK.same [0, 1, 2] (by decide) rfl
     refine JA_takep 0 rfl hns (by kernel_rfl) (by kernel_rfl) rfl (.inr hS_36) rfl rfl rfl (r_move (v := .pointer none) rfl) ?_
     exact J_none
    ·refine J_skip ?_
     refine J_in_normal ?_
     refine J_then ?_
     refine J_seq ?_
     refine J_region_any 11 [.cell c_8 [.i p_2.Kind, .i p_2.N, .i p_2.Block], .cell c_10 [.i v_6.Kind, .i v_6.N, .i v_6.Block], .cell c_12 [.i 0, .i 0, .i 0]] Try.mixed (by kernel_rfl) fun hns => ?_
     have hS_37 : HeldOK σ [.cell c_8 [.i p_2.Kind, .i p_2.N, .i p_2.Block], .cell c_10 [.i v_6.Kind, .i v_6.N, .i v_6.Block], .cell c_12 [.i 0, .i 0, .i 0]] σ [.cell c_8 [.i p_2.Kind, .i p_2.N, .i p_2.Block], .cell c_10 [.i v_6.Kind, .i v_6.N, .i v_6.Block], .cell c_12 [.i 0, .i 0, .i 0]] := HeldOK.same [0, 1, 2] (by decide) rfl
     refine JA_takep 0 rfl hns (by kernel_rfl) (by kernel_rfl) rfl (.inr hS_37) rfl rfl rfl (r_move (v := .pointer none) rfl) ?_
     exact J_none
def mem_Memory_whole_v2_post (σ0 : FS) (v_1 : Value) (p_2 : Gmem_Value) (r : Int) (σ : FS) (PV : List Priv) (v : Value) : Prop :=
 σ0 = σ ∧ .tuple #[.pointer none, .i r] = v ∧ PV = []
set_option maxRecDepth 100000 in
theorem mem_Memory_whole_v2_ref (s : Start) (σ : FS) (v_1 : Value) (p_2 : Gmem_Value) (h_3 : T13.vrel σ v_1 p_2) (hs : Pre s σ []) (r : Int) (hr : mem_Memory_whole_v2 p_2 = some r) : Does Try.prog 29 [.pointer none, v_1] s σ (mem_Memory_whole_v2_post σ v_1 p_2 r) := by
 unfold mem_Memory_whole_v2 at hr
 obtain rfl := T13_v.1 h_3
 refine does_of_J Try.func29 rfl (n := 46) rfl rfl hs hr ?_
 refine J_seq ?_
 refine J_region ?_
 refine JL_op rfl (op_box (cs := [.i p_2.Kind, .i p_2.N, .i p_2.Block]) rfl rfl ?_)
 intro c_4
 refine JL_op rfl (op_read rfl rfl (r_assign (v := .pointer none) rfl) ?_)
 refine JL_op rfl (op_read rfl rfl (r_assign (v := .i 0) rfl) ?_)
 refine JL_nil ?_
 refine J_then ?_
 refine J_seq ?_
 refine J_region ?_
 refine JL_op rfl (op_read rfl rfl (r_move (v := .pointer none) rfl) ?_)
 refine JL_op rfl (op_read rfl rfl (r_load_priv (a := c_4) (off := 0) (cs' := [.i p_2.Kind, .i p_2.N, .i p_2.Block]) (v := .agg #[.i p_2.Kind, .i p_2.N, .i p_2.Block]) 0 pu29 pi29 rfl rfl rfl rfl (by decide) rfl) ?_)
 refine JL_op rfl (op_call (f := 24) (fn := Try.f24) (args := [.pointer none, .agg #[.i p_2.Kind, .i p_2.N, .i p_2.Block]]) (post := mem_Memory_cell_v2_post σ (.agg #[.i p_2.Kind, .i p_2.N, .i p_2.Block]) p_2) [] [.cell c_4 [.i p_2.Kind, .i p_2.N, .i p_2.Block]] rfl rfl rfl Try.func24 pn24 rfl rfl (fun y st hy hpre => mem_Memory_cell_v2_ref st σ (.agg #[.i p_2.Kind, .i p_2.N, .i p_2.Block]) p_2 (T13_v.2 rfl) hpre y hy) ?_)
 intro r_6 v_8 s_11 PV_9 hr_7 hle_12 hp_10
 obtain ⟨rfl, rfl, rfl⟩ := hp_10
 refine JL_op rfl (op_read rfl rfl (r_move (v := .tuple #[.pointer none, .i r_6]) rfl) ?_)
 refine JL_op rfl (op_read rfl rfl (r_extract (v := .pointer none) rfl rfl) ?_)
 refine JL_op rfl (op_read rfl rfl (r_extract (v := .i r_6) rfl rfl) ?_)
 refine JL_op rfl (op_read rfl rfl (r_assign (v := .pointer none) rfl) ?_)
 refine JL_op rfl (op_read rfl rfl (r_assign (v := .i r_6) rfl) ?_)
 refine JL_nil ?_
 refine J_then ?_
 refine J_seq ?_
 refine J_block ?_
 refine J_seq ?_
 refine J_region ?_
 refine JL_op rfl (op_read rfl rfl (r_move (v := .i r_6) rfl) ?_)
 refine JL_op rfl (op_read rfl rfl (r_neq rfl rfl) ?_)
 refine JL_op rfl (op_read rfl rfl (r_assign (v := .bool (decide (r_6 ≠ 0))) rfl) ?_)
 refine JL_nil ?_
 refine J_then ?_
 refine J_cond rfl (fun hc_13 => ?_) (fun hc_13 => ?_)
 ·refine J_seq ?_
  refine J_region ?_
  refine JL_op rfl (op_read rfl rfl (r_move (v := .i r_6) rfl) ?_)
  refine JL_op rfl (op_read rfl rfl (r_assign (v := .pointer none) rfl) ?_)
  refine JL_op rfl (op_read rfl rfl (r_assign (v := .i r_6) rfl) ?_)
  refine JL_nil ?_
  refine J_then ?_
  refine J_ret ?_
  refine J_in_ret ?_
  refine J_then_ret ?_
  exact J_returnV2 (PV' := []) rfl rv_tmp rv_tmp [] (by decide) rfl ⟨rfl, rfl, rfl⟩
 ·refine J_seq ?_
  refine J_region ?_
  refine JL_op rfl (op_read rfl rfl (r_move (v := .pointer none) rfl) ?_)
  refine JL_op rfl (op_read rfl rfl (r_fieldAddr (r := Addr.add c_4 1) pu29 (f := Try.pf29.getD 1 default) rfl pi2 (by decide) rfl (Addr.add_add _ _ _)) ?_)
  refine JL_op rfl (op_read rfl rfl (r_load_priv (a := c_4) (off := 1) (cs' := [.i p_2.N]) (v := .i p_2.N) 0 pu2 pi2 rfl rfl rfl rfl (by decide) rfl) ?_)
  exact J_none
def mem_Memory_Lock_v2_post (σ0 : FS) (v_1 : Value) (p_2 : Gmem_Value) (r : Int) (σ : FS) (PV : List Priv) (v : Value) : Prop :=
 σ0 = σ ∧ .tuple #[.bool false, .i r] = v ∧ PV = []
set_option maxRecDepth 100000 in
theorem mem_Memory_Lock_v2_ref (s : Start) (σ : FS) (v_1 : Value) (p_2 : Gmem_Value) (h_3 : T13.vrel σ v_1 p_2) (hs : Pre s σ []) (r : Int) (hr : mem_Memory_Lock_v2 p_2 = some r) : Does Try.prog 18 [.pointer none, v_1] s σ (mem_Memory_Lock_v2_post σ v_1 p_2 r) := by
 unfold mem_Memory_Lock_v2 at hr
 obtain rfl := T13_v.1 h_3
 refine does_of_J Try.func18 rfl (n := 37) rfl rfl hs hr ?_
 refine J_seq ?_
 refine J_region ?_
 refine JL_op rfl (op_box (cs := [.i p_2.Kind, .i p_2.N, .i p_2.Block]) rfl rfl ?_)
 intro c_4
 refine JL_op rfl (op_read rfl rfl (r_assign (v := .bool false) rfl) ?_)
 refine JL_op rfl (op_read rfl rfl (r_assign (v := .i 0) rfl) ?_)
 refine JL_nil ?_
 refine J_then ?_
 refine J_seq ?_
 refine J_region ?_
 refine JL_op rfl (op_read rfl rfl (r_move (v := .pointer none) rfl) ?_)
 refine JL_op rfl (op_read rfl rfl (r_load_priv (a := c_4) (off := 0) (cs' := [.i p_2.Kind, .i p_2.N, .i p_2.Block]) (v := .agg #[.i p_2.Kind, .i p_2.N, .i p_2.Block]) 0 pu29 pi29 rfl rfl rfl rfl (by decide) rfl) ?_)
 refine JL_op rfl (op_call (f := 29) (fn := Try.f29) (args := [.pointer none, .agg #[.i p_2.Kind, .i p_2.N, .i p_2.Block]]) (post := mem_Memory_whole_v2_post σ (.agg #[.i p_2.Kind, .i p_2.N, .i p_2.Block]) p_2) [] [.cell c_4 [.i p_2.Kind, .i p_2.N, .i p_2.Block]] rfl rfl rfl Try.func29 pn29 rfl rfl (fun y st hy hpre => mem_Memory_whole_v2_ref st σ (.agg #[.i p_2.Kind, .i p_2.N, .i p_2.Block]) p_2 (T13_v.2 rfl) hpre y hy) ?_)
 intro r_6 v_8 s_11 PV_9 hr_7 hle_12 hp_10
 obtain ⟨rfl, rfl, rfl⟩ := hp_10
 refine JL_op rfl (op_read rfl rfl (r_move (v := .tuple #[.pointer none, .i r_6]) rfl) ?_)
 refine JL_op rfl (op_read rfl rfl (r_extract (v := .pointer none) rfl rfl) ?_)
 refine JL_op rfl (op_read rfl rfl (r_extract (v := .i r_6) rfl rfl) ?_)
 refine JL_op rfl (op_read rfl rfl (r_assign (v := .pointer none) rfl) ?_)
 refine JL_op rfl (op_read rfl rfl (r_assign (v := .i r_6) rfl) ?_)
 refine JL_nil ?_
 refine J_then ?_
 refine J_seq ?_
 refine J_seq ?_
 refine J_region_any 14 [.cell c_4 [.i p_2.Kind, .i p_2.N, .i p_2.Block]] Try.mixed (by kernel_rfl) fun hns => ?_
 have hS_13 : HeldOK σ [.cell c_4 [.i p_2.Kind, .i p_2.N, .i p_2.Block]] σ [.cell c_4 [.i p_2.Kind, .i p_2.N, .i p_2.Block]] := HeldOK.same [0] (by decide) rfl
 refine JA_takep 0 rfl hns (by kernel_rfl) (by kernel_rfl) rfl (.inr hS_13) rfl rfl rfl (r_move (v := .i r_6) rfl) ?_
 refine JA_takep 1 rfl hns (by kernel_rfl) (by kernel_rfl) rfl (.inr hS_13) rfl rfl rfl (r_neq rfl rfl) ?_
 refine JA_takep 2 rfl hns (by kernel_rfl) (by kernel_rfl) rfl (.inr hS_13) rfl rfl rfl (r_move (v := .bool (decide (r_6 ≠ 0))) rfl) ?_
 refine J_forkAB (e := (decide (r_6 ≠ 0))) 0 #[true, true, true, true, true, true, true, true, true, true, true, true, true, true] (fun (y : Unit) L τ PV => σ = τ ∧ L = [(3, .pointer (some (Addr.add c_4 0))), (6, .pointer none), (7, .i r_6), (27, .bool true)] ∧ PV = [.cell c_4 [.i p_2.Kind, .i p_2.N, .i p_2.Block]]) (fun hc_14 hk => ?_) (fun hc_14 hk => ?_) ?_
 ·refine JA_skip (y := some (decide (r_6 ≠ 0))) 3 rfl hns (by kernel_rfl) (by kernel_rfl) rfl (.inr hS_13) rfl rfl (by rw [hc_14]; decide) rfl rfl ?_
  refine JA_skip (y := some (decide (r_6 ≠ 0))) 4 rfl hns (by kernel_rfl) (by kernel_rfl) rfl (.inr hS_13) rfl rfl (by rw [hc_14]; decide) rfl rfl ?_
  refine JA_skip (y := some (decide (r_6 ≠ 0))) 5 rfl hns (by kernel_rfl) (by kernel_rfl) rfl (.inr hS_13) rfl rfl (by rw [hc_14]; decide) rfl rfl ?_
  refine JA_skip (y := some (decide (r_6 ≠ 0))) 6 rfl hns (by kernel_rfl) (by kernel_rfl) rfl (.inr hS_13) rfl rfl (by rw [hc_14]; decide) rfl rfl ?_
  refine JA_skip (y := some (decide (r_6 ≠ 0))) 7 rfl hns (by kernel_rfl) (by kernel_rfl) rfl (.inr hS_13) rfl rfl (by rw [hc_14]; decide) rfl rfl ?_
  refine JA_skip (y := some (decide (r_6 ≠ 0))) 8 rfl hns (by kernel_rfl) (by kernel_rfl) rfl (.inr hS_13) rfl rfl (by rw [hc_14]; decide) rfl rfl ?_
  refine JA_skip (y := some (decide (r_6 ≠ 0))) 9 rfl hns (by kernel_rfl) (by kernel_rfl) rfl (.inr hS_13) rfl rfl (by rw [hc_14]; decide) rfl rfl ?_
  refine JA_skip (y := some (decide (r_6 ≠ 0))) 10 rfl hns (by kernel_rfl) (by kernel_rfl) rfl (.inr hS_13) rfl rfl (by rw [hc_14]; decide) rfl rfl ?_
  refine JA_skip (y := some (decide (r_6 ≠ 0))) 11 rfl hns (by kernel_rfl) (by kernel_rfl) rfl (.inr hS_13) rfl rfl (by rw [hc_14]; decide) rfl rfl ?_
  refine JA_skip (y := some (decide (r_6 ≠ 0))) 12 rfl hns (by kernel_rfl) (by kernel_rfl) rfl (.inr hS_13) rfl rfl (by rw [hc_14]; decide) rfl rfl ?_
  refine JA_takep 13 rfl hns (by kernel_rfl) (by kernel_rfl) rfl (.inr hS_13) rfl rfl rfl (r_pick_t (v := .bool true) rfl hc_14 rfl) ?_
  refine J_prune _ ?_ fun b => hk () _ b _ _ ⟨rfl, rfl, rfl⟩
  exact ⟨rfl, rfl, rfl, rfl, trivial⟩
 ·refine JA_takepg 3 rfl hns (by kernel_rfl) (by kernel_rfl) rfl (.inr hS_13) rfl rfl hc_14 rfl rfl (r_move (v := .pointer none) rfl) ?_
  exact J_none
 ·rintro y_15 _ b s_18 _ ⟨rfl, rfl, rfl⟩
  have hS_19 : HeldOK σ [.cell c_4 [.i p_2.Kind, .i p_2.N, .i p_2.Block]] σ [.cell c_4 [.i p_2.Kind, .i p_2.N, .i p_2.Block]] := HeldOK.same [0] (by decide) rfl
  refine JA_done (by kernel_rfl) ?_
  refine J_then ?_
  refine J_cond_t rfl ?_
  refine J_seq ?_
  refine J_region ?_
  refine JL_op rfl (op_read rfl rfl (r_move (v := .i r_6) rfl) ?_)
  refine JL_op rfl (op_read rfl rfl (r_assign (v := .bool false) rfl) ?_)
  refine JL_op rfl (op_read rfl rfl (r_assign (v := .i r_6) rfl) ?_)
  refine JL_nil ?_
  refine J_then ?_
  refine J_ret ?_
  refine J_then_ret ?_
  exact J_returnV2 (PV' := []) rfl rv_tmp rv_tmp [] (by decide) rfl ⟨rfl, rfl, rfl⟩
def mem_Memory_Free_v2_post (σ0 : FS) (v_1 : Value) (p_2 : Gmem_Value) (r : Int) (σ : FS) (PV : List Priv) (v : Value) : Prop :=
 σ0 = σ ∧ .i r = v ∧ PV = []
set_option maxRecDepth 100000 in
theorem mem_Memory_Free_v2_ref (s : Start) (σ : FS) (v_1 : Value) (p_2 : Gmem_Value) (h_3 : T13.vrel σ v_1 p_2) (hs : Pre s σ []) (r : Int) (hr : mem_Memory_Free_v2 p_2 = some r) : Does Try.prog 14 [.pointer none, v_1] s σ (mem_Memory_Free_v2_post σ v_1 p_2 r) := by
 unfold mem_Memory_Free_v2 at hr
 obtain rfl := T13_v.1 h_3
 refine does_of_J Try.func14 rfl (n := 37) rfl rfl hs hr ?_
 refine J_seq ?_
 refine J_region ?_
 refine JL_op rfl (op_box (cs := [.i p_2.Kind, .i p_2.N, .i p_2.Block]) rfl rfl ?_)
 intro c_4
 refine JL_op rfl (op_read rfl rfl (r_assign (v := .i 0) rfl) ?_)
 refine JL_nil ?_
 refine J_then ?_
 refine J_seq ?_
 refine J_region ?_
 refine JL_op rfl (op_read rfl rfl (r_move (v := .pointer none) rfl) ?_)
 refine JL_op rfl (op_read rfl rfl (r_load_priv (a := c_4) (off := 0) (cs' := [.i p_2.Kind, .i p_2.N, .i p_2.Block]) (v := .agg #[.i p_2.Kind, .i p_2.N, .i p_2.Block]) 0 pu29 pi29 rfl rfl rfl rfl (by decide) rfl) ?_)
 refine JL_op rfl (op_call (f := 22) (fn := Try.f22) (args := [.pointer none, .agg #[.i p_2.Kind, .i p_2.N, .i p_2.Block]]) (post := mem_Memory_block_v2_post σ (.agg #[.i p_2.Kind, .i p_2.N, .i p_2.Block]) p_2) [] [.cell c_4 [.i p_2.Kind, .i p_2.N, .i p_2.Block]] rfl rfl rfl Try.func22 pn22 rfl rfl (fun y st hy hpre => mem_Memory_block_v2_ref st σ (.agg #[.i p_2.Kind, .i p_2.N, .i p_2.Block]) p_2 (T13_v.2 rfl) hpre y hy) ?_)
 intro r_6 v_8 s_11 PV_9 hr_7 hle_12 hp_10
 obtain ⟨rfl, rfl, rfl⟩ := hp_10
 refine JL_op rfl (op_read rfl rfl (r_move (v := .tuple #[.pointer none, .i r_6]) rfl) ?_)
 refine JL_op rfl (op_read rfl rfl (r_extract (v := .pointer none) rfl rfl) ?_)
 refine JL_op rfl (op_read rfl rfl (r_extract (v := .i r_6) rfl rfl) ?_)
 refine JL_op rfl (op_read rfl rfl (r_assign (v := .pointer none) rfl) ?_)
 refine JL_op rfl (op_read rfl rfl (r_assign (v := .i r_6) rfl) ?_)
 refine JL_nil ?_
 refine J_then ?_
 refine J_seq ?_
 refine J_block ?_
 refine J_seq ?_
 refine J_region ?_
 refine JL_op rfl (op_read rfl rfl (r_move (v := .i r_6) rfl) ?_)
 refine JL_op rfl (op_read rfl rfl (r_neq rfl rfl) ?_)
 refine JL_op rfl (op_read rfl rfl (r_assign (v := .bool (decide (r_6 ≠ 0))) rfl) ?_)
 refine JL_nil ?_
 refine J_then ?_
 refine J_cond rfl (fun hc_13 => ?_) (fun hc_13 => ?_)
 ·refine J_seq ?_
  refine J_region ?_
  refine JL_op rfl (op_read rfl rfl (r_move (v := .i r_6) rfl) ?_)
  refine JL_op rfl (op_read rfl rfl (r_assign (v := .i r_6) rfl) ?_)
  refine JL_nil ?_
  refine J_then ?_
  refine J_ret ?_
  refine J_in_ret ?_
  refine J_then_ret ?_
  exact J_returnV1 (PV' := []) rfl rv_tmp [] (by decide) rfl ⟨rfl, rfl, rfl⟩
 ·refine J_seq ?_
  refine J_region ?_
  refine JL_op rfl (op_read rfl rfl (r_fieldAddr (r := Addr.add c_4 1) pu29 (f := Try.pf29.getD 1 default) rfl pi2 (by decide) rfl (Addr.add_add _ _ _)) ?_)
  refine JL_op rfl (op_read rfl rfl (r_load_priv (a := c_4) (off := 1) (cs' := [.i p_2.N]) (v := .i p_2.N) 0 pu2 pi2 rfl rfl rfl rfl (by decide) rfl) ?_)
  refine JL_op rfl (op_read rfl rfl (r_neq rfl rfl) ?_)
  refine JL_op rfl (op_read rfl rfl (r_assign (v := .bool (decide (p_2.N ≠ 0))) rfl) ?_)
  refine JL_nil ?_
  refine J_then ?_
  refine J_cond rfl (fun hc_14 => ?_) (fun hc_14 => ?_)
  ·refine J_seq ?_
   refine J_region ?_
   refine JL_op rfl (op_read rfl rfl (r_assign (v := .i 5) rfl) ?_)
   refine JL_nil ?_
   refine J_then ?_
   refine J_ret ?_
   refine J_in_ret ?_
   refine J_then_ret ?_
   exact J_returnV1 (PV' := []) rfl rv_tmp [] (by decide) rfl ⟨rfl, rfl, rfl⟩
  ·refine J_skip ?_
   refine J_in_normal ?_
   refine J_then ?_
   refine J_seq ?_
   refine J_seq ?_
   refine J_region ?_
   refine JL_op rfl (op_read rfl rfl (r_move (v := .pointer none) rfl) ?_)
   exact J_none
def mem_Memory_Begin_v2_post (σ0 : FS) (v_1 : Value) (p_2 : Gmem_Value) (write_4 : Bool) (r : Int) (σ : FS) (PV : List Priv) (v : Value) : Prop :=
 σ0 = σ ∧ .i r = v ∧ PV = []
set_option maxRecDepth 100000 in
theorem mem_Memory_Begin_v2_ref (s : Start) (σ : FS) (v_1 : Value) (p_2 : Gmem_Value) (h_3 : T13.vrel σ v_1 p_2) (write_4 : Bool) (hs : Pre s σ []) (r : Int) (hr : mem_Memory_Begin_v2 p_2 write_4 = some r) : Does Try.prog 15 [.pointer none, v_1, .bool write_4] s σ (mem_Memory_Begin_v2_post σ v_1 p_2 write_4 r) := by
 unfold mem_Memory_Begin_v2 at hr
 obtain rfl := T13_v.1 h_3
 refine does_of_J Try.func15 rfl (n := 61) rfl rfl hs hr ?_
 refine J_seq ?_
 refine J_region ?_
 refine JL_op rfl (op_box (cs := [.i p_2.Kind, .i p_2.N, .i p_2.Block]) rfl rfl ?_)
 intro c_5
 refine JL_op rfl (op_read rfl rfl (r_assign (v := .i 0) rfl) ?_)
 refine JL_nil ?_
 refine J_then ?_
 refine J_seq ?_
 refine J_region ?_
 refine JL_op rfl (op_read rfl rfl (r_move (v := .pointer none) rfl) ?_)
 refine JL_op rfl (op_read rfl rfl (r_load_priv (a := c_5) (off := 0) (cs' := [.i p_2.Kind, .i p_2.N, .i p_2.Block]) (v := .agg #[.i p_2.Kind, .i p_2.N, .i p_2.Block]) 0 pu29 pi29 rfl rfl rfl rfl (by decide) rfl) ?_)
 refine JL_op rfl (op_call (f := 24) (fn := Try.f24) (args := [.pointer none, .agg #[.i p_2.Kind, .i p_2.N, .i p_2.Block]]) (post := mem_Memory_cell_v2_post σ (.agg #[.i p_2.Kind, .i p_2.N, .i p_2.Block]) p_2) [] [.cell c_5 [.i p_2.Kind, .i p_2.N, .i p_2.Block]] rfl rfl rfl Try.func24 pn24 rfl rfl (fun y st hy hpre => mem_Memory_cell_v2_ref st σ (.agg #[.i p_2.Kind, .i p_2.N, .i p_2.Block]) p_2 (T13_v.2 rfl) hpre y hy) ?_)
 intro r_7 v_9 s_12 PV_10 hr_8 hle_13 hp_11
 obtain ⟨rfl, rfl, rfl⟩ := hp_11
 refine JL_op rfl (op_read rfl rfl (r_move (v := .tuple #[.pointer none, .i r_7]) rfl) ?_)
 refine JL_op rfl (op_read rfl rfl (r_extract (v := .pointer none) rfl rfl) ?_)
 refine JL_op rfl (op_read rfl rfl (r_extract (v := .i r_7) rfl rfl) ?_)
 refine JL_op rfl (op_read rfl rfl (r_assign (v := .pointer none) rfl) ?_)
 refine JL_op rfl (op_read rfl rfl (r_assign (v := .i r_7) rfl) ?_)
 refine JL_nil ?_
 refine J_then ?_
 refine J_seq ?_
 refine J_cut (fun (y : Unit) e L τ PV => e = .ret ∧ (σ = τ ∧ L = [(6, .i r_7)] ∧ PV = [])) ?_ ?_
 ·refine J_block ?_
  refine J_seq ?_
  refine J_region ?_
  refine JL_op rfl (op_read rfl rfl (r_move (v := .i r_7) rfl) ?_)
  refine JL_op rfl (op_read rfl rfl (r_neq rfl rfl) ?_)
  refine JL_op rfl (op_read rfl rfl (r_assign (v := .bool (decide (r_7 ≠ 0))) rfl) ?_)
  refine JL_nil ?_
  refine J_then ?_
  refine J_cut (fun (y : Unit) e L τ PV => e = .ret ∧ (σ = τ ∧ L = [(6, .i r_7)] ∧ PV = [])) ?_ ?_
  ·refine J_cond rfl (fun hc_14 => ?_) (fun hc_14 => ?_)
   ·refine J_seq ?_
    refine J_region ?_
    refine JL_op rfl (op_read rfl rfl (r_move (v := .i r_7) rfl) ?_)
    refine JL_op rfl (op_read rfl rfl (r_assign (v := .i r_7) rfl) ?_)
    refine JL_nil ?_
    refine J_then ?_
    refine J_ret ?_
    refine J_select (PV' := []) [] (by decide) rfl ?_
    refine J_cut_end _ ?_ ⟨rfl, rfl, rfl, rfl⟩ trivial
    exact ⟨rfl, trivial⟩
   ·refine J_seq ?_
    refine J_region_any 23 [.cell c_5 [.i p_2.Kind, .i p_2.N, .i p_2.Block]] Try.mixed (by kernel_rfl) fun hns => ?_
    have hS_15 : HeldOK σ [.cell c_5 [.i p_2.Kind, .i p_2.N, .i p_2.Block]] σ [.cell c_5 [.i p_2.Kind, .i p_2.N, .i p_2.Block]] := HeldOK.same [0] (by decide) rfl
    refine JA_takep 0 rfl hns (by kernel_rfl) (by kernel_rfl) rfl (.inr hS_15) rfl rfl rfl (r_move (v := .pointer none) rfl) ?_
    exact J_none
  ·rintro y_16 _ _ b s_19 _ ⟨rfl, ⟨rfl, rfl, rfl⟩⟩
   refine J_in_ret ?_
   refine J_cut_end _ ?_ ⟨rfl, rfl, rfl, rfl⟩ trivial
   exact ⟨rfl, trivial⟩
 ·rintro y_20 _ _ b s_23 _ ⟨rfl, ⟨rfl, rfl, rfl⟩⟩
  refine J_then_ret ?_
  exact J_returnV1 (PV' := []) rfl rv_tmp [] (by decide) rfl ⟨rfl, rfl, rfl⟩
def mem_Memory_Unlock_v2_post (σ0 : FS) (v_1 : Value) (p_2 : Gmem_Value) (r : Int) (σ : FS) (PV : List Priv) (v : Value) : Prop :=
 σ0 = σ ∧ .i r = v ∧ PV = []
set_option maxRecDepth 100000 in
theorem mem_Memory_Unlock_v2_ref (s : Start) (σ : FS) (v_1 : Value) (p_2 : Gmem_Value) (h_3 : T13.vrel σ v_1 p_2) (hs : Pre s σ []) (r : Int) (hr : mem_Memory_Unlock_v2 p_2 = some r) : Does Try.prog 19 [.pointer none, v_1] s σ (mem_Memory_Unlock_v2_post σ v_1 p_2 r) := by
 unfold mem_Memory_Unlock_v2 at hr
 obtain rfl := T13_v.1 h_3
 refine does_of_J Try.func19 rfl (n := 24) rfl rfl hs hr ?_
 refine J_seq ?_
 refine J_region ?_
 refine JL_op rfl (op_box (cs := [.i p_2.Kind, .i p_2.N, .i p_2.Block]) rfl rfl ?_)
 intro c_4
 refine JL_op rfl (op_read rfl rfl (r_assign (v := .i 0) rfl) ?_)
 refine JL_nil ?_
 refine J_then ?_
 refine J_seq ?_
 refine J_region ?_
 refine JL_op rfl (op_read rfl rfl (r_move (v := .pointer none) rfl) ?_)
 refine JL_op rfl (op_read rfl rfl (r_load_priv (a := c_4) (off := 0) (cs' := [.i p_2.Kind, .i p_2.N, .i p_2.Block]) (v := .agg #[.i p_2.Kind, .i p_2.N, .i p_2.Block]) 0 pu29 pi29 rfl rfl rfl rfl (by decide) rfl) ?_)
 refine JL_op rfl (op_call (f := 29) (fn := Try.f29) (args := [.pointer none, .agg #[.i p_2.Kind, .i p_2.N, .i p_2.Block]]) (post := mem_Memory_whole_v2_post σ (.agg #[.i p_2.Kind, .i p_2.N, .i p_2.Block]) p_2) [] [.cell c_4 [.i p_2.Kind, .i p_2.N, .i p_2.Block]] rfl rfl rfl Try.func29 pn29 rfl rfl (fun y st hy hpre => mem_Memory_whole_v2_ref st σ (.agg #[.i p_2.Kind, .i p_2.N, .i p_2.Block]) p_2 (T13_v.2 rfl) hpre y hy) ?_)
 intro r_6 v_8 s_11 PV_9 hr_7 hle_12 hp_10
 obtain ⟨rfl, rfl, rfl⟩ := hp_10
 refine JL_op rfl (op_read rfl rfl (r_move (v := .tuple #[.pointer none, .i r_6]) rfl) ?_)
 refine JL_op rfl (op_read rfl rfl (r_extract (v := .pointer none) rfl rfl) ?_)
 refine JL_op rfl (op_read rfl rfl (r_extract (v := .i r_6) rfl rfl) ?_)
 refine JL_op rfl (op_read rfl rfl (r_assign (v := .pointer none) rfl) ?_)
 refine JL_op rfl (op_read rfl rfl (r_assign (v := .i r_6) rfl) ?_)
 refine JL_nil ?_
 refine J_then ?_
 refine J_seq ?_
 refine J_seq ?_
 refine J_region ?_
 refine JL_op rfl (op_read rfl rfl (r_move (v := .i r_6) rfl) ?_)
 refine JL_op rfl (op_read rfl rfl (r_eql rfl rfl) ?_)
 refine JL_nil ?_
 refine J_then ?_
 refine J_cut (fun (y : Unit) e L τ PV => e = .normal ∧ (σ = τ ∧ L = [(6, .i r_6)] ∧ PV = [])) ?_ ?_
 ·refine J_cond rfl (fun hc_13 => ?_) (fun hc_13 => ?_)
  ·refine J_region_any 9 [.cell c_4 [.i p_2.Kind, .i p_2.N, .i p_2.Block]] Try.mixed (by kernel_rfl) fun hns => ?_
   have hS_14 : HeldOK σ [.cell c_4 [.i p_2.Kind, .i p_2.N, .i p_2.Block]] σ [.cell c_4 [.i p_2.Kind, .i p_2.N, .i p_2.Block]] := HeldOK.same [0] (by decide) rfl
   refine JA_takep 0 rfl hns (by kernel_rfl) (by kernel_rfl) rfl (.inr hS_14) rfl rfl rfl (r_move (v := .pointer none) rfl) ?_
   exact J_none
  ·refine J_skip ?_
   refine J_select (PV' := []) [] (by decide) rfl ?_
   refine J_cut_end _ ?_ ⟨rfl, rfl, rfl, rfl⟩ trivial
   exact ⟨rfl, trivial⟩
 ·rintro y_15 _ _ b s_18 _ ⟨rfl, ⟨rfl, rfl, rfl⟩⟩
  refine J_then ?_
  refine J_seq ?_
  refine J_region ?_
  refine JL_op rfl (op_read rfl rfl (r_move (v := .i r_6) rfl) ?_)
  refine JL_op rfl (op_read rfl rfl (r_assign (v := .i r_6) rfl) ?_)
  refine JL_nil ?_
  refine J_then ?_
  refine J_ret ?_
  exact J_returnV1 (PV' := []) rfl rv_tmp [] (by decide) rfl ⟨rfl, rfl, rfl⟩
def mem_Memory_Blocks_v2_post (σ0 : FS)  (r : Unit) (σ : FS) (PV : List Priv) (v : Value) : Prop :=
 σ0 = σ ∧ .slice none 0 0 = v ∧ PV = []
set_option maxRecDepth 100000 in
theorem mem_Memory_Blocks_v2_ref (s : Start) (σ : FS)  (hs : Pre s σ []) (r : Unit) (hr : mem_Memory_Blocks_v2  = some r) : Does Try.prog 17 [.pointer none] s σ (mem_Memory_Blocks_v2_post σ  r) := by
 unfold mem_Memory_Blocks_v2 at hr
 refine does_of_J Try.func17 rfl (n := 34) rfl rfl hs hr ?_
 refine J_seq ?_
 refine J_region ?_
 refine JL_op rfl (op_read rfl rfl (r_assign (v := .slice none 0 0) rfl) ?_)
 refine JL_nil ?_
 refine J_then ?_
 refine J_seq ?_
 refine J_seq ?_
 refine J_region ?_
 refine JL_op rfl (op_read rfl rfl (r_move (v := .pointer none) rfl) ?_)
 refine JL_op rfl (op_read rfl rfl (r_eqnil_ptr pu25 rfl rfl rfl) ?_)
 refine JL_nil ?_
 refine J_then ?_
 refine J_cond_t rfl ?_
 refine J_seq ?_
 refine J_region ?_
 refine JL_op rfl (op_read rfl rfl (r_assign (v := .slice none 0 0) rfl) ?_)
 refine JL_nil ?_
 refine J_then ?_
 refine J_ret ?_
 refine J_then_ret ?_
 exact J_returnV1 (PV' := []) rfl rv_tmp [] (by decide) rfl ⟨rfl, rfl, rfl⟩
def mem_Memory_Used_v2_post (σ0 : FS)  (r : Unit) (σ : FS) (PV : List Priv) (v : Value) : Prop :=
 σ0 = σ ∧ .i 0 = v ∧ PV = []
set_option maxRecDepth 100000 in
theorem mem_Memory_Used_v2_ref (s : Start) (σ : FS)  (hs : Pre s σ []) (r : Unit) (hr : mem_Memory_Used_v2  = some r) : Does Try.prog 13 [.pointer none] s σ (mem_Memory_Used_v2_post σ  r) := by
 unfold mem_Memory_Used_v2 at hr
 refine does_of_J Try.func13 rfl (n := 9) rfl rfl hs hr ?_
 refine J_seq ?_
 refine J_region ?_
 refine JL_op rfl (op_read rfl rfl (r_assign (v := .i 0) rfl) ?_)
 refine JL_nil ?_
 refine J_then ?_
 refine J_seq ?_
 refine J_seq ?_
 refine J_region ?_
 refine JL_op rfl (op_read rfl rfl (r_move (v := .pointer none) rfl) ?_)
 refine JL_op rfl (op_read rfl rfl (r_eqnil_ptr pu25 rfl rfl rfl) ?_)
 refine JL_nil ?_
 refine J_then ?_
 refine J_cond_t rfl ?_
 refine J_seq ?_
 refine J_region ?_
 refine JL_op rfl (op_read rfl rfl (r_assign (v := .i 0) rfl) ?_)
 refine JL_nil ?_
 refine J_then ?_
 refine J_ret ?_
 refine J_then_ret ?_
 exact J_returnV1 (PV' := []) rfl rv_tmp [] (by decide) rfl ⟨rfl, rfl, rfl⟩
end Go.Px
