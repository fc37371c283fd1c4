/- The calls do what the models say, part 1. -/
import Derived.Test.YtdgfgjdoahoadaaMd
import Derived.Test.YtdgfgjdoahoadaaCW
namespace Go.Px
open Go.Proofs
set_option linter.unusedVariables false
def slices_Clone_post (σ0 : FS) (v_1 : Value) (x_2 : Sl Gheap_Sym) (r : (Sl Gheap_Sym)) (σ : FS) (PV : List Priv) (v : Value) : Prop :=
  ∃ (w0 : Value), σ0 = σ ∧ w0 = v ∧ PV = [.row (t_Gheap_Sym).o 33 w0 r, .row (t_Gheap_Sym).o 33 v_1 x_2]
set_option maxRecDepth 100000 in
theorem slices_Clone_ref (s : Start) (σ : FS) (v_1 : Value) (x_2 : Sl Gheap_Sym) (hs : Pre s σ [.row (t_Gheap_Sym).o 33 v_1 x_2]) (r : (Sl Gheap_Sym)) (hr : slices_Clone x_2 = some r) : Does Try.prog 49 [v_1] s σ (slices_Clone_post σ v_1 x_2 r) := by
  unfold slices_Clone at hr
  refine does_of_J Try.func49 rfl (n := 8) rfl rfl hs hr ?_
  refine J_seq ?_
  refine J_region ?_
  refine JL_op rfl (op_read rfl rfl (r_assign (v := .slice none 0 0) rfl) ?_)
  refine JL_nil ?_
  refine J_then ?_
  refine J_seq ?_
  refine J_seq ?_
  refine J_region ?_
  refine JL_op rfl (op_read rfl rfl (r_move (v := v_1) rfl) ?_)
  refine JL_op rfl (op_read rfl rfl (r_eqnil_row (v := v_1) 0 Try.pu23 rfl rfl rfl) ?_)
  refine JL_nil ?_
  refine J_then ?_
  refine J_cond rfl (fun hc_3 => ?_) (fun hc_3 => ?_)
  · refine J_seq ?_
    refine J_region ?_
    refine JL_op rfl (op_read rfl rfl (r_assign (v := .slice none 0 0) rfl) ?_)
    refine JL_nil ?_
    refine J_then ?_
    refine J_ret ?_
    refine J_then_ret ?_
    refine J_nil_row (t_Gheap_Sym).o 33 ?_
    exact J_returnV1 (PV' := [.row (t_Gheap_Sym).o 33 (.slice none 0 0) (⟨[], false⟩ : Sl Gheap_Sym), .row (t_Gheap_Sym).o 33 v_1 x_2]) rfl rv_tmp [0, 1] (by decide) rfl ⟨(.slice none 0 0), rfl, rfl, rfl⟩
  · refine J_skip ?_
    refine J_then ?_
    refine J_seq ?_
    refine J_region ?_
    refine JL_op rfl (op_buildSlice (T := (t_Gheap_Sym).o) (vs := []) (xs := []) [] [.row (t_Gheap_Sym).o 33 v_1 x_2] rfl Try.pu23 Try.pi33 rfl rfl rfl rfl rfl rfl relsO_nil ?_)
    intro v_5
    refine JL_op rfl (op_read rfl rfl (r_move (v := v_1) rfl) ?_)
    refine JL_op rfl (op_append (v := v_5) (u := v_1) (T := (t_Gheap_Sym).o) (ts := x_2.xs) [] [.row (t_Gheap_Sym).o 33 v_1 x_2] rfl Try.pu23 Try.pi33 rfl rfl rfl rfl rfl rfl (source_copy (s := x_2) 1 rfl) ?_)
    intro s_8 v_7 hs_9
    refine JL_op rfl (op_read rfl rfl (r_assign (v := v_7) rfl) ?_)
    refine JL_nil ?_
    refine J_then ?_
    refine J_ret ?_
    exact J_returnV1 (PV' := [.row (t_Gheap_Sym).o 33 v_7 s_8, .row (t_Gheap_Sym).o 33 v_1 x_2]) rfl rv_tmp [0, 1] (by decide) rfl ⟨v_7, rfl, rfl, rfl⟩
def slices_Clip_post (σ0 : FS) (v_1 : Value) (x_2 : Sl Gheap_Chunk) (r : Unit) (σ : FS) (PV : List Priv) (v : Value) : Prop :=
  ∃ (w0 : Value), σ0 = σ ∧ w0 = v ∧ PV = [.row o_Gheap_Chunk 49 w0 x_2]
set_option maxRecDepth 100000 in
theorem slices_Clip_ref (s : Start) (σ : FS) (v_1 : Value) (x_2 : Sl Gheap_Chunk) (hs : Pre s σ [.row o_Gheap_Chunk 49 v_1 x_2]) (r : Unit) (hr : slices_Clip x_2 = some r) : Does Try.prog 52 [v_1] s σ (slices_Clip_post σ v_1 x_2 r) := by
  unfold slices_Clip at hr
  refine does_of_J Try.func52 rfl (n := 9) rfl rfl hs hr ?_
  refine J_seq ?_
  refine J_region ?_
  refine JL_op rfl (op_read rfl rfl (r_assign (v := .slice none 0 0) rfl) ?_)
  refine JL_nil ?_
  refine J_then ?_
  refine J_seq ?_
  refine J_region ?_
  refine JL_op rfl (op_read rfl rfl (r_move (v := v_1) rfl) ?_)
  refine JL_op rfl (op_read rfl rfl (r_move (v := v_1) rfl) ?_)
  refine JL_op rfl (op_read rfl rfl (r_len_row (v := v_1) 0 Try.pu26 rfl rfl) ?_)
  refine JL_op rfl (op_read rfl rfl (r_move (v := v_1) rfl) ?_)
  refine JL_op rfl (op_read rfl rfl (r_len_row (v := v_1) 0 Try.pu26 rfl rfl) ?_)
  refine JL_op rfl (op_clip_row (v := v_1) (T := o_Gheap_Chunk) (s := x_2) 0 rfl Try.pu26 Try.pi49 rfl rfl rfl rfl rfl ?_)
  intro v_3
  refine JL_op rfl (op_read rfl rfl (r_assign (v := v_3) rfl) ?_)
  refine JL_nil ?_
  refine J_then ?_
  refine J_ret ?_
  exact J_returnV1 (PV' := [.row o_Gheap_Chunk 49 v_3 x_2]) rfl rv_tmp [0] (by decide) rfl ⟨v_3, rfl, rfl, rfl⟩
def heap_Heap_Put_post (σ0 : FS) (a_1 : Addr) (v_2 : Value) (x_3 : Sl Gheap_Chunk) (Vars_4 : Int) (v_5 : Value) (x_6 : Sl Gdiff_Leq) (Origin_7 : Int) (Type_8 : Int) (At_9 : Int) (Live_10 : Bool) (Held_11 : Bool) (Array_12 : Bool) (v_13 : Value) (Size_14 : Gheap_Sym) (v_16 : Value) (x_17 : Sl Gheap_Sym) (r : Gheap_Sym × (Sl Gheap_Chunk)) (σ : FS) (PV : List Priv) (v : Value) : Prop :=
  ∃ (w0 : Value), σ0 = σ ∧ .agg #[.int .i64 r.1.Kind, .int .i64 r.1.Var, .int .i64 r.1.K, .int .i64 r.1.Block] = v ∧ PV = [.cell a_1 [w0, .int .i64 Vars_4, v_5], .row o_Gheap_Chunk 49 w0 r.2, .row (t_Gdiff_Leq).o 39 v_5 x_6, .row (t_Gheap_Sym).o 33 v_16 x_17]
set_option maxRecDepth 100000 in
theorem heap_Heap_Put_ref (s : Start) (σ : FS) (a_1 : Addr) (v_2 : Value) (x_3 : Sl Gheap_Chunk) (Vars_4 : Int) (v_5 : Value) (x_6 : Sl Gdiff_Leq) (Origin_7 : Int) (Type_8 : Int) (At_9 : Int) (Live_10 : Bool) (Held_11 : Bool) (Array_12 : Bool) (v_13 : Value) (Size_14 : Gheap_Sym) (h_15 : t_Gheap_Sym.vrel σ v_13 Size_14) (v_16 : Value) (x_17 : Sl Gheap_Sym) (hs : Pre s σ [.cell a_1 [v_2, .int .i64 Vars_4, v_5], .row o_Gheap_Chunk 49 v_2 x_3, .row (t_Gdiff_Leq).o 39 v_5 x_6, .row (t_Gheap_Sym).o 33 v_16 x_17]) (r : Gheap_Sym × (Sl Gheap_Chunk)) (hr : heap_Heap_Put x_3 Vars_4 x_6 Origin_7 Type_8 At_9 Live_10 Held_11 Array_12 Size_14 x_17 = some r) : Does Try.prog 23 [.pointer (some (Addr.add a_1 0)), .agg #[.int .i64 Origin_7, .int .i64 Type_8, .int .i64 At_9, .bool Live_10, .bool Held_11, .bool Array_12, .int .i64 Size_14.Kind, .int .i64 Size_14.Var, .int .i64 Size_14.K, .int .i64 Size_14.Block, v_16]] s σ (heap_Heap_Put_post σ a_1 v_2 x_3 Vars_4 v_5 x_6 Origin_7 Type_8 At_9 Live_10 Held_11 Array_12 v_13 Size_14 v_16 x_17 r) := by
  unfold heap_Heap_Put at hr
  obtain rfl := t_Gheap_Sym_v.1 h_15
  refine does_of_J Try.func23 rfl (n := 27) rfl rfl hs hr ?_
  refine J_seq ?_
  refine J_region ?_
  refine J_row_one 3 rfl fun h_18 => ?_
  refine JL_op rfl (op_box (cs := [.int .i64 Origin_7, .int .i64 Type_8, .int .i64 At_9, .bool Live_10, .bool Held_11, .bool Array_12, .int .i64 Size_14.Kind, .int .i64 Size_14.Var, .int .i64 Size_14.K, .int .i64 Size_14.Block, v_16]) rfl rfl ?_)
  intro c_19
  refine JL_op rfl (op_alloc (cs := [.int .i64 0, .int .i64 0, .int .i64 0, .int .i64 0]) rfl Try.pi33 rfl rfl ?_)
  intro c_21
  refine JL_nil ?_
  refine J_then ?_
  refine J_seq ?_
  refine J_region ?_
  refine JL_op rfl (op_read rfl rfl (r_fieldAddr (r := Addr.add c_19 10) Try.pu49 (f := Try.pf49.getD 7 default) rfl Try.pi23 (by decide) rfl (Addr.add_add _ _ _)) ?_)
  refine JL_op rfl (op_read rfl rfl (r_load_priv (a := c_19) (off := 10) (cs' := [v_16]) (v := v_16) 1 Try.pu23 Try.pi23 rfl rfl rfl rfl (by decide) rfl) ?_)
  refine J_front [5] ?_
  refine JL_op rfl (op_callN (f := 49) (fn := Try.f49) (args := [v_16]) (post := slices_Clone_post σ v_16 x_17) 1 rfl rfl rfl Try.func49 Try.pn49 rfl rfl (fun y st hy hpre => slices_Clone_ref st σ v_16 x_17 hpre y hy) ?_)
  intro r_23 v_25 s_28 PV_26 hr_24 hle_29 hp_27
  obtain ⟨v_31, rfl, rfl, rfl⟩ := hp_27
  refine JL_op rfl (op_read rfl rfl (r_fieldAddr (r := Addr.add c_19 10) Try.pu49 (f := Try.pf49.getD 7 default) rfl Try.pi23 (by decide) rfl (Addr.add_add _ _ _)) ?_)
  refine J_row_one 0 rfl fun h_32 => ?_
  refine JL_op rfl (op_store_priv (a := c_19) (off := 10) (vs := [v_31]) (cs' := [.int .i64 Origin_7, .int .i64 Type_8, .int .i64 At_9, .bool Live_10, .bool Held_11, .bool Array_12, .int .i64 Size_14.Kind, .int .i64 Size_14.Var, .int .i64 Size_14.K, .int .i64 Size_14.Block, v_31]) (PV' := [.row (t_Gheap_Sym).o 33 v_31 r_23, .row (t_Gheap_Sym).o 33 v_16 x_17, .cell c_21 [.int .i64 0, .int .i64 0, .int .i64 0, .int .i64 0], .cell c_19 [.int .i64 Origin_7, .int .i64 Type_8, .int .i64 At_9, .bool Live_10, .bool Held_11, .bool Array_12, .int .i64 Size_14.Kind, .int .i64 Size_14.Var, .int .i64 Size_14.K, .int .i64 Size_14.Block, v_31], .cell a_1 [v_2, .int .i64 Vars_4, v_5], .row o_Gheap_Chunk 49 v_2 x_3, .row (t_Gdiff_Leq).o 39 v_5 x_6]) 3 Try.pi23 rfl (one_cells h_32) rfl ⟨h_32, trivial⟩ rfl rfl rfl rfl rfl ?_)
  refine JL_nil ?_
  refine J_then ?_
  refine J_seq ?_
  refine J_region_any 12 [.row (t_Gheap_Sym).o 33 v_16 x_17, .cell c_21 [.int .i64 0, .int .i64 0, .int .i64 0, .int .i64 0], .row (t_Gdiff_Leq).o 39 v_5 x_6] Try.mixed (by kernel_rfl) fun hns => ?_
  refine JA_takep 0 rfl hns (by kernel_rfl) (by kernel_rfl) rfl (.inr (by exact HeldOK.same [1, 2, 6] (by decide) rfl)) rfl rfl rfl (r_move (v := .pointer (some (Addr.add a_1 0))) rfl) ?_
  refine JA_takep 1 rfl hns (by kernel_rfl) (by kernel_rfl) rfl (.inr (by exact HeldOK.same [1, 2, 6] (by decide) rfl)) rfl rfl rfl (r_move (v := .pointer (some (Addr.add a_1 0))) rfl) ?_
  refine JA_takep 2 rfl hns (by kernel_rfl) (by kernel_rfl) rfl (.inr (by exact HeldOK.same [1, 2, 6] (by decide) rfl)) rfl rfl rfl (r_nilCheck (a := (Addr.add a_1 0)) rfl) ?_
  refine JA_takep 3 rfl hns (by kernel_rfl) (by kernel_rfl) rfl (.inr (by exact HeldOK.same [1, 2, 6] (by decide) rfl)) rfl rfl rfl (r_fieldAddr (r := Addr.add a_1 0) Try.pu28 (f := Try.pf28.getD 0 default) rfl Try.pi26 (by decide) rfl (Addr.add_add _ _ _)) ?_
  refine J_bind fun k_34 hk_35 => ?_
  refine J_bind fun k_36 hk_37 => ?_
  refine J_meetD (fun y => heap_Heap_Put_K1 k_36 y) 0 #[true, true, true, true, true, true, true, true, true, true, true, true] (fun (y : Unit) L τ PV => ∃ (w0 : Value), σ = τ ∧ L = [(0, .pointer (some (Addr.add a_1 0))), (4, .pointer (some (Addr.add c_21 0)))] ∧ PV = [.cell a_1 [w0, .int .i64 Vars_4, v_5], .row o_Gheap_Chunk 49 w0 k_36, .row (t_Gdiff_Leq).o 39 v_5 x_6, .cell c_21 [.int .i64 0, .int .i64 0, .int .i64 0, .int .i64 0], .row (t_Gheap_Sym).o 33 v_16 x_17]) (fun hk => ?_) ?_
  · refine JA_two (i := 4) (j := 6) (by kernel_rfl) ?_ ?_
    · refine J1_op rfl rfl (op_read rfl rfl (r_load_priv (a := a_1) (off := 0) (cs' := [v_2]) (v := v_2) 4 Try.pu26 Try.pi26 rfl rfl rfl rfl (by decide) rfl) ?_)
      refine ⟨.inr (by exact HeldOK.same [1, 2, 6] (by decide) rfl), ?_⟩
      refine JA_two (i := 5) (j := 6) (by kernel_rfl) ?_ ?_
      · refine J_front [5] ?_
        refine J1_op rfl rfl (op_known hk_35 (op_callN (f := 52) (fn := Try.f52) (args := [v_2]) (post := slices_Clip_post σ v_2 x_3) 1 rfl rfl rfl Try.func52 Try.pn52 rfl rfl (fun y st hy hpre => slices_Clip_ref st σ v_2 x_3 hpre y hy) ?_))
        intro z_51 v_44 s_47 PV_45 hz_52 hle_48 hp_46
        obtain rfl := Option.some.inj (hk_35.symm.trans hz_52)
        obtain ⟨v_50, rfl, rfl, rfl⟩ := hp_46
        refine ⟨.inr (by exact HeldOK.same [2, 3, 6] (by decide) rfl), ?_⟩
        refine JA_op (i := 6) (by kernel_rfl) rfl rfl (op_read rfl rfl (r_load_priv (a := c_19) (off := 0) (cs' := [.int .i64 Origin_7, .int .i64 Type_8, .int .i64 At_9, .bool Live_10, .bool Held_11, .bool Array_12, .int .i64 Size_14.Kind, .int .i64 Size_14.Var, .int .i64 Size_14.K, .int .i64 Size_14.Block, v_31]) (v := .agg #[.int .i64 Origin_7, .int .i64 Type_8, .int .i64 At_9, .bool Live_10, .bool Held_11, .bool Array_12, .int .i64 Size_14.Kind, .int .i64 Size_14.Var, .int .i64 Size_14.K, .int .i64 Size_14.Block, v_31]) 4 Try.pu49 Try.pi49 rfl rfl rfl rfl (by decide) rfl) ?_)
        refine ⟨.inr (by exact HeldOK.same [2, 3, 6] (by decide) rfl), ?_⟩
        refine J_front [1] ?_
        refine JA_op (i := 7) (by kernel_rfl) rfl rfl (op_buildSlice (T := o_Gheap_Chunk) (vs := [.agg #[.int .i64 Origin_7, .int .i64 Type_8, .int .i64 At_9, .bool Live_10, .bool Held_11, .bool Array_12, .int .i64 Size_14.Kind, .int .i64 Size_14.Var, .int .i64 Size_14.K, .int .i64 Size_14.Block, v_31]]) (xs := [(⟨Origin_7, Type_8, At_9, Live_10, Held_11, Array_12, Size_14, r_23⟩ : Gheap_Chunk)]) [.row (t_Gheap_Sym).o 33 v_31 r_23] [.row o_Gheap_Chunk 49 v_50 x_3, .row (t_Gheap_Sym).o 33 v_16 x_17, .cell c_21 [.int .i64 0, .int .i64 0, .int .i64 0, .int .i64 0], .cell c_19 [.int .i64 Origin_7, .int .i64 Type_8, .int .i64 At_9, .bool Live_10, .bool Held_11, .bool Array_12, .int .i64 Size_14.Kind, .int .i64 Size_14.Var, .int .i64 Size_14.K, .int .i64 Size_14.Block, v_31], .cell a_1 [v_2, .int .i64 Vars_4, v_5], .row (t_Gdiff_Leq).o 39 v_5 x_6] rfl Try.pu26 Try.pi49 rfl rfl rfl rfl rfl rfl (relsO_cons (A := [.row (t_Gheap_Sym).o 33 v_31 r_23]) (B := []) (u := .agg #[.int .i64 Origin_7, .int .i64 Type_8, .int .i64 At_9, .bool Live_10, .bool Held_11, .bool Array_12, .int .i64 Size_14.Kind, .int .i64 Size_14.Var, .int .i64 Size_14.K, .int .i64 Size_14.Block, v_31]) (x := (⟨Origin_7, Type_8, At_9, Live_10, Held_11, Array_12, Size_14, r_23⟩ : Gheap_Chunk)) (opn_vrel (T := o_Gheap_Chunk) (u := ((), (), (), (), (), (), (), v_31)) ⟨trivial, trivial, trivial, trivial, trivial, trivial, trivial, trivial⟩ rfl rfl rfl) relsO_nil) ?_)
        intro v_55
        refine ⟨.inr (by exact HeldOK.same [2, 3, 6] (by decide) rfl), ?_⟩
        refine J_front [1] ?_
        refine JA_op (i := 8) (by kernel_rfl) rfl rfl (op_known hk_37 (op_append (v := v_50) (u := v_55) (T := o_Gheap_Chunk) (ts := [(⟨Origin_7, Type_8, At_9, Live_10, Held_11, Array_12, Size_14, r_23⟩ : Gheap_Chunk)]) [.row o_Gheap_Chunk 49 v_55 (⟨[(⟨Origin_7, Type_8, At_9, Live_10, Held_11, Array_12, Size_14, r_23⟩ : Gheap_Chunk)], true⟩ : Sl Gheap_Chunk)] [.row (t_Gheap_Sym).o 33 v_16 x_17, .cell c_21 [.int .i64 0, .int .i64 0, .int .i64 0, .int .i64 0], .cell c_19 [.int .i64 Origin_7, .int .i64 Type_8, .int .i64 At_9, .bool Live_10, .bool Held_11, .bool Array_12, .int .i64 Size_14.Kind, .int .i64 Size_14.Var, .int .i64 Size_14.K, .int .i64 Size_14.Block, v_31], .cell a_1 [v_2, .int .i64 Vars_4, v_5], .row (t_Gdiff_Leq).o 39 v_5 x_6] rfl Try.pu26 Try.pi49 rfl rfl rfl rfl rfl rfl source_move ?_))
        intro z_61 v_59 hz_62
        obtain rfl := Option.some.inj (hk_37.symm.trans hz_62)
        refine ⟨.inr (by exact HeldOK.same [1, 2, 5] (by decide) rfl), ?_⟩
        refine JA_takep 9 rfl hns (by kernel_rfl) (by kernel_rfl) rfl (.inr (by exact HeldOK.same [1, 2, 5] (by decide) rfl)) rfl rfl rfl (r_nilCheck (a := (Addr.add a_1 0)) rfl) ?_
        refine JA_takep 10 rfl hns (by kernel_rfl) (by kernel_rfl) rfl (.inr (by exact HeldOK.same [1, 2, 5] (by decide) rfl)) rfl rfl rfl (r_fieldAddr (r := Addr.add a_1 0) Try.pu28 (f := Try.pf28.getD 0 default) rfl Try.pi26 (by decide) rfl (Addr.add_add _ _ _)) ?_
        refine J_row_one 0 rfl fun h_64 => ?_
        refine JA_op (i := 11) (by kernel_rfl) rfl rfl (op_store_priv (a := a_1) (off := 0) (vs := [v_59]) (cs' := [v_59, .int .i64 Vars_4, v_5]) (PV' := [.row o_Gheap_Chunk 49 v_59 k_36, .row (t_Gheap_Sym).o 33 v_16 x_17, .cell c_21 [.int .i64 0, .int .i64 0, .int .i64 0, .int .i64 0], .cell c_19 [.int .i64 Origin_7, .int .i64 Type_8, .int .i64 At_9, .bool Live_10, .bool Held_11, .bool Array_12, .int .i64 Size_14.Kind, .int .i64 Size_14.Var, .int .i64 Size_14.K, .int .i64 Size_14.Block, v_31], .cell a_1 [v_59, .int .i64 Vars_4, v_5], .row (t_Gdiff_Leq).o 39 v_5 x_6]) 4 Try.pi26 rfl (one_cells h_64) rfl ⟨h_64, trivial⟩ rfl rfl rfl rfl rfl ?_)
        refine ⟨.inr (by exact HeldOK.same [1, 2, 5] (by decide) rfl), ?_⟩
        refine J_keep [true, true, true, false, true, true] ?_
        refine J_front [3, 0, 2, 1] ?_
        refine J_prune _ ?_ fun b => hk () _ b _ _ ⟨v_59, rfl, rfl, rfl⟩
        exact ⟨rfl, rfl, trivial⟩
      · refine J1_op rfl rfl (op_read rfl rfl (r_load_priv (a := c_19) (off := 0) (cs' := [.int .i64 Origin_7, .int .i64 Type_8, .int .i64 At_9, .bool Live_10, .bool Held_11, .bool Array_12, .int .i64 Size_14.Kind, .int .i64 Size_14.Var, .int .i64 Size_14.K, .int .i64 Size_14.Block, v_31]) (v := .agg #[.int .i64 Origin_7, .int .i64 Type_8, .int .i64 At_9, .bool Live_10, .bool Held_11, .bool Array_12, .int .i64 Size_14.Kind, .int .i64 Size_14.Var, .int .i64 Size_14.K, .int .i64 Size_14.Block, v_31]) 3 Try.pu49 Try.pi49 rfl rfl rfl rfl (by decide) rfl) ?_)
        refine ⟨.inr (by exact HeldOK.same [1, 2, 6] (by decide) rfl), ?_⟩
        refine JA_two (i := 5) (j := 7) (by kernel_rfl) ?_ ?_
        · refine J_front [5] ?_
          refine J1_op rfl rfl (op_known hk_35 (op_callN (f := 52) (fn := Try.f52) (args := [v_2]) (post := slices_Clip_post σ v_2 x_3) 1 rfl rfl rfl Try.func52 Try.pn52 rfl rfl (fun y st hy hpre => slices_Clip_ref st σ v_2 x_3 hpre y hy) ?_))
          intro z_75 v_68 s_71 PV_69 hz_76 hle_72 hp_70
          obtain rfl := Option.some.inj (hk_35.symm.trans hz_76)
          obtain ⟨v_74, rfl, rfl, rfl⟩ := hp_70
          refine ⟨.inr (by exact HeldOK.same [2, 3, 6] (by decide) rfl), ?_⟩
          refine J_front [1] ?_
          refine JA_op (i := 7) (by kernel_rfl) rfl rfl (op_buildSlice (T := o_Gheap_Chunk) (vs := [.agg #[.int .i64 Origin_7, .int .i64 Type_8, .int .i64 At_9, .bool Live_10, .bool Held_11, .bool Array_12, .int .i64 Size_14.Kind, .int .i64 Size_14.Var, .int .i64 Size_14.K, .int .i64 Size_14.Block, v_31]]) (xs := [(⟨Origin_7, Type_8, At_9, Live_10, Held_11, Array_12, Size_14, r_23⟩ : Gheap_Chunk)]) [.row (t_Gheap_Sym).o 33 v_31 r_23] [.row o_Gheap_Chunk 49 v_74 x_3, .row (t_Gheap_Sym).o 33 v_16 x_17, .cell c_21 [.int .i64 0, .int .i64 0, .int .i64 0, .int .i64 0], .cell c_19 [.int .i64 Origin_7, .int .i64 Type_8, .int .i64 At_9, .bool Live_10, .bool Held_11, .bool Array_12, .int .i64 Size_14.Kind, .int .i64 Size_14.Var, .int .i64 Size_14.K, .int .i64 Size_14.Block, v_31], .cell a_1 [v_2, .int .i64 Vars_4, v_5], .row (t_Gdiff_Leq).o 39 v_5 x_6] rfl Try.pu26 Try.pi49 rfl rfl rfl rfl rfl rfl (relsO_cons (A := [.row (t_Gheap_Sym).o 33 v_31 r_23]) (B := []) (u := .agg #[.int .i64 Origin_7, .int .i64 Type_8, .int .i64 At_9, .bool Live_10, .bool Held_11, .bool Array_12, .int .i64 Size_14.Kind, .int .i64 Size_14.Var, .int .i64 Size_14.K, .int .i64 Size_14.Block, v_31]) (x := (⟨Origin_7, Type_8, At_9, Live_10, Held_11, Array_12, Size_14, r_23⟩ : Gheap_Chunk)) (opn_vrel (T := o_Gheap_Chunk) (u := ((), (), (), (), (), (), (), v_31)) ⟨trivial, trivial, trivial, trivial, trivial, trivial, trivial, trivial⟩ rfl rfl rfl) relsO_nil) ?_)
          intro v_78
          refine ⟨.inr (by exact HeldOK.same [2, 3, 6] (by decide) rfl), ?_⟩
          refine J_front [1] ?_
          refine JA_op (i := 8) (by kernel_rfl) rfl rfl (op_known hk_37 (op_append (v := v_74) (u := v_78) (T := o_Gheap_Chunk) (ts := [(⟨Origin_7, Type_8, At_9, Live_10, Held_11, Array_12, Size_14, r_23⟩ : Gheap_Chunk)]) [.row o_Gheap_Chunk 49 v_78 (⟨[(⟨Origin_7, Type_8, At_9, Live_10, Held_11, Array_12, Size_14, r_23⟩ : Gheap_Chunk)], true⟩ : Sl Gheap_Chunk)] [.row (t_Gheap_Sym).o 33 v_16 x_17, .cell c_21 [.int .i64 0, .int .i64 0, .int .i64 0, .int .i64 0], .cell c_19 [.int .i64 Origin_7, .int .i64 Type_8, .int .i64 At_9, .bool Live_10, .bool Held_11, .bool Array_12, .int .i64 Size_14.Kind, .int .i64 Size_14.Var, .int .i64 Size_14.K, .int .i64 Size_14.Block, v_31], .cell a_1 [v_2, .int .i64 Vars_4, v_5], .row (t_Gdiff_Leq).o 39 v_5 x_6] rfl Try.pu26 Try.pi49 rfl rfl rfl rfl rfl rfl source_move ?_))
          intro z_84 v_82 hz_85
          obtain rfl := Option.some.inj (hk_37.symm.trans hz_85)
          refine ⟨.inr (by exact HeldOK.same [1, 2, 5] (by decide) rfl), ?_⟩
          refine JA_takep 9 rfl hns (by kernel_rfl) (by kernel_rfl) rfl (.inr (by exact HeldOK.same [1, 2, 5] (by decide) rfl)) rfl rfl rfl (r_nilCheck (a := (Addr.add a_1 0)) rfl) ?_
          refine JA_takep 10 rfl hns (by kernel_rfl) (by kernel_rfl) rfl (.inr (by exact HeldOK.same [1, 2, 5] (by decide) rfl)) rfl rfl rfl (r_fieldAddr (r := Addr.add a_1 0) Try.pu28 (f := Try.pf28.getD 0 default) rfl Try.pi26 (by decide) rfl (Addr.add_add _ _ _)) ?_
          refine J_row_one 0 rfl fun h_87 => ?_
          refine JA_op (i := 11) (by kernel_rfl) rfl rfl (op_store_priv (a := a_1) (off := 0) (vs := [v_82]) (cs' := [v_82, .int .i64 Vars_4, v_5]) (PV' := [.row o_Gheap_Chunk 49 v_82 k_36, .row (t_Gheap_Sym).o 33 v_16 x_17, .cell c_21 [.int .i64 0, .int .i64 0, .int .i64 0, .int .i64 0], .cell c_19 [.int .i64 Origin_7, .int .i64 Type_8, .int .i64 At_9, .bool Live_10, .bool Held_11, .bool Array_12, .int .i64 Size_14.Kind, .int .i64 Size_14.Var, .int .i64 Size_14.K, .int .i64 Size_14.Block, v_31], .cell a_1 [v_82, .int .i64 Vars_4, v_5], .row (t_Gdiff_Leq).o 39 v_5 x_6]) 4 Try.pi26 rfl (one_cells h_87) rfl ⟨h_87, trivial⟩ rfl rfl rfl rfl rfl ?_)
          refine ⟨.inr (by exact HeldOK.same [1, 2, 5] (by decide) rfl), ?_⟩
          refine J_keep [true, true, true, false, true, true] ?_
          refine J_front [3, 0, 2, 1] ?_
          refine J_prune _ ?_ fun b => hk () _ b _ _ ⟨v_82, rfl, rfl, rfl⟩
          exact ⟨rfl, rfl, trivial⟩
        · refine J1_op rfl rfl (op_buildSlice (T := o_Gheap_Chunk) (vs := [.agg #[.int .i64 Origin_7, .int .i64 Type_8, .int .i64 At_9, .bool Live_10, .bool Held_11, .bool Array_12, .int .i64 Size_14.Kind, .int .i64 Size_14.Var, .int .i64 Size_14.K, .int .i64 Size_14.Block, v_31]]) (xs := [(⟨Origin_7, Type_8, At_9, Live_10, Held_11, Array_12, Size_14, r_23⟩ : Gheap_Chunk)]) [.row (t_Gheap_Sym).o 33 v_31 r_23] [.row (t_Gheap_Sym).o 33 v_16 x_17, .cell c_21 [.int .i64 0, .int .i64 0, .int .i64 0, .int .i64 0], .cell c_19 [.int .i64 Origin_7, .int .i64 Type_8, .int .i64 At_9, .bool Live_10, .bool Held_11, .bool Array_12, .int .i64 Size_14.Kind, .int .i64 Size_14.Var, .int .i64 Size_14.K, .int .i64 Size_14.Block, v_31], .cell a_1 [v_2, .int .i64 Vars_4, v_5], .row o_Gheap_Chunk 49 v_2 x_3, .row (t_Gdiff_Leq).o 39 v_5 x_6] rfl Try.pu26 Try.pi49 rfl rfl rfl rfl rfl rfl (relsO_cons (A := [.row (t_Gheap_Sym).o 33 v_31 r_23]) (B := []) (u := .agg #[.int .i64 Origin_7, .int .i64 Type_8, .int .i64 At_9, .bool Live_10, .bool Held_11, .bool Array_12, .int .i64 Size_14.Kind, .int .i64 Size_14.Var, .int .i64 Size_14.K, .int .i64 Size_14.Block, v_31]) (x := (⟨Origin_7, Type_8, At_9, Live_10, Held_11, Array_12, Size_14, r_23⟩ : Gheap_Chunk)) (opn_vrel (T := o_Gheap_Chunk) (u := ((), (), (), (), (), (), (), v_31)) ⟨trivial, trivial, trivial, trivial, trivial, trivial, trivial, trivial⟩ rfl rfl rfl) relsO_nil) ?_)
          intro v_90
          refine ⟨.inr (by exact HeldOK.same [1, 2, 6] (by decide) rfl), ?_⟩
          refine J_front [5] ?_
          refine JA_op (i := 5) (by kernel_rfl) rfl rfl (op_known hk_35 (op_callN (f := 52) (fn := Try.f52) (args := [v_2]) (post := slices_Clip_post σ v_2 x_3) 1 rfl rfl rfl Try.func52 Try.pn52 rfl rfl (fun y st hy hpre => slices_Clip_ref st σ v_2 x_3 hpre y hy) ?_))
          intro z_100 v_93 s_96 PV_94 hz_101 hle_97 hp_95
          obtain rfl := Option.some.inj (hk_35.symm.trans hz_101)
          obtain ⟨v_99, rfl, rfl, rfl⟩ := hp_95
          refine ⟨.inr (by exact HeldOK.same [2, 3, 6] (by decide) rfl), ?_⟩
          refine JA_op (i := 8) (by kernel_rfl) rfl rfl (op_known hk_37 (op_append (v := v_99) (u := v_90) (T := o_Gheap_Chunk) (ts := [(⟨Origin_7, Type_8, At_9, Live_10, Held_11, Array_12, Size_14, r_23⟩ : Gheap_Chunk)]) [.row o_Gheap_Chunk 49 v_90 (⟨[(⟨Origin_7, Type_8, At_9, Live_10, Held_11, Array_12, Size_14, r_23⟩ : Gheap_Chunk)], true⟩ : Sl Gheap_Chunk)] [.row (t_Gheap_Sym).o 33 v_16 x_17, .cell c_21 [.int .i64 0, .int .i64 0, .int .i64 0, .int .i64 0], .cell c_19 [.int .i64 Origin_7, .int .i64 Type_8, .int .i64 At_9, .bool Live_10, .bool Held_11, .bool Array_12, .int .i64 Size_14.Kind, .int .i64 Size_14.Var, .int .i64 Size_14.K, .int .i64 Size_14.Block, v_31], .cell a_1 [v_2, .int .i64 Vars_4, v_5], .row (t_Gdiff_Leq).o 39 v_5 x_6] rfl Try.pu26 Try.pi49 rfl rfl rfl rfl rfl rfl source_move ?_))
          intro z_104 v_103 hz_105
          obtain rfl := Option.some.inj (hk_37.symm.trans hz_105)
          refine ⟨.inr (by exact HeldOK.same [1, 2, 5] (by decide) rfl), ?_⟩
          refine JA_takep 9 rfl hns (by kernel_rfl) (by kernel_rfl) rfl (.inr (by exact HeldOK.same [1, 2, 5] (by decide) rfl)) rfl rfl rfl (r_nilCheck (a := (Addr.add a_1 0)) rfl) ?_
          refine JA_takep 10 rfl hns (by kernel_rfl) (by kernel_rfl) rfl (.inr (by exact HeldOK.same [1, 2, 5] (by decide) rfl)) rfl rfl rfl (r_fieldAddr (r := Addr.add a_1 0) Try.pu28 (f := Try.pf28.getD 0 default) rfl Try.pi26 (by decide) rfl (Addr.add_add _ _ _)) ?_
          refine J_row_one 0 rfl fun h_107 => ?_
          refine JA_op (i := 11) (by kernel_rfl) rfl rfl (op_store_priv (a := a_1) (off := 0) (vs := [v_103]) (cs' := [v_103, .int .i64 Vars_4, v_5]) (PV' := [.row o_Gheap_Chunk 49 v_103 k_36, .row (t_Gheap_Sym).o 33 v_16 x_17, .cell c_21 [.int .i64 0, .int .i64 0, .int .i64 0, .int .i64 0], .cell c_19 [.int .i64 Origin_7, .int .i64 Type_8, .int .i64 At_9, .bool Live_10, .bool Held_11, .bool Array_12, .int .i64 Size_14.Kind, .int .i64 Size_14.Var, .int .i64 Size_14.K, .int .i64 Size_14.Block, v_31], .cell a_1 [v_103, .int .i64 Vars_4, v_5], .row (t_Gdiff_Leq).o 39 v_5 x_6]) 4 Try.pi26 rfl (one_cells h_107) rfl ⟨h_107, trivial⟩ rfl rfl rfl rfl rfl ?_)
          refine ⟨.inr (by exact HeldOK.same [1, 2, 5] (by decide) rfl), ?_⟩
          refine J_keep [true, true, true, false, true, true] ?_
          refine J_front [3, 0, 2, 1] ?_
          refine J_prune _ ?_ fun b => hk () _ b _ _ ⟨v_103, rfl, rfl, rfl⟩
          exact ⟨rfl, rfl, trivial⟩
    · refine J1_op rfl rfl (op_read rfl rfl (r_load_priv (a := c_19) (off := 0) (cs' := [.int .i64 Origin_7, .int .i64 Type_8, .int .i64 At_9, .bool Live_10, .bool Held_11, .bool Array_12, .int .i64 Size_14.Kind, .int .i64 Size_14.Var, .int .i64 Size_14.K, .int .i64 Size_14.Block, v_31]) (v := .agg #[.int .i64 Origin_7, .int .i64 Type_8, .int .i64 At_9, .bool Live_10, .bool Held_11, .bool Array_12, .int .i64 Size_14.Kind, .int .i64 Size_14.Var, .int .i64 Size_14.K, .int .i64 Size_14.Block, v_31]) 3 Try.pu49 Try.pi49 rfl rfl rfl rfl (by decide) rfl) ?_)
      refine ⟨.inr (by exact HeldOK.same [1, 2, 6] (by decide) rfl), ?_⟩
      refine JA_two (i := 4) (j := 7) (by kernel_rfl) ?_ ?_
      · refine J1_op rfl rfl (op_read rfl rfl (r_load_priv (a := a_1) (off := 0) (cs' := [v_2]) (v := v_2) 4 Try.pu26 Try.pi26 rfl rfl rfl rfl (by decide) rfl) ?_)
        refine ⟨.inr (by exact HeldOK.same [1, 2, 6] (by decide) rfl), ?_⟩
        refine JA_two (i := 5) (j := 7) (by kernel_rfl) ?_ ?_
        · refine J_front [5] ?_
          refine J1_op rfl rfl (op_known hk_35 (op_callN (f := 52) (fn := Try.f52) (args := [v_2]) (post := slices_Clip_post σ v_2 x_3) 1 rfl rfl rfl Try.func52 Try.pn52 rfl rfl (fun y st hy hpre => slices_Clip_ref st σ v_2 x_3 hpre y hy) ?_))
          intro z_119 v_112 s_115 PV_113 hz_120 hle_116 hp_114
          obtain rfl := Option.some.inj (hk_35.symm.trans hz_120)
          obtain ⟨v_118, rfl, rfl, rfl⟩ := hp_114
          refine ⟨.inr (by exact HeldOK.same [2, 3, 6] (by decide) rfl), ?_⟩
          refine J_front [1] ?_
          refine JA_op (i := 7) (by kernel_rfl) rfl rfl (op_buildSlice (T := o_Gheap_Chunk) (vs := [.agg #[.int .i64 Origin_7, .int .i64 Type_8, .int .i64 At_9, .bool Live_10, .bool Held_11, .bool Array_12, .int .i64 Size_14.Kind, .int .i64 Size_14.Var, .int .i64 Size_14.K, .int .i64 Size_14.Block, v_31]]) (xs := [(⟨Origin_7, Type_8, At_9, Live_10, Held_11, Array_12, Size_14, r_23⟩ : Gheap_Chunk)]) [.row (t_Gheap_Sym).o 33 v_31 r_23] [.row o_Gheap_Chunk 49 v_118 x_3, .row (t_Gheap_Sym).o 33 v_16 x_17, .cell c_21 [.int .i64 0, .int .i64 0, .int .i64 0, .int .i64 0], .cell c_19 [.int .i64 Origin_7, .int .i64 Type_8, .int .i64 At_9, .bool Live_10, .bool Held_11, .bool Array_12, .int .i64 Size_14.Kind, .int .i64 Size_14.Var, .int .i64 Size_14.K, .int .i64 Size_14.Block, v_31], .cell a_1 [v_2, .int .i64 Vars_4, v_5], .row (t_Gdiff_Leq).o 39 v_5 x_6] rfl Try.pu26 Try.pi49 rfl rfl rfl rfl rfl rfl (relsO_cons (A := [.row (t_Gheap_Sym).o 33 v_31 r_23]) (B := []) (u := .agg #[.int .i64 Origin_7, .int .i64 Type_8, .int .i64 At_9, .bool Live_10, .bool Held_11, .bool Array_12, .int .i64 Size_14.Kind, .int .i64 Size_14.Var, .int .i64 Size_14.K, .int .i64 Size_14.Block, v_31]) (x := (⟨Origin_7, Type_8, At_9, Live_10, Held_11, Array_12, Size_14, r_23⟩ : Gheap_Chunk)) (opn_vrel (T := o_Gheap_Chunk) (u := ((), (), (), (), (), (), (), v_31)) ⟨trivial, trivial, trivial, trivial, trivial, trivial, trivial, trivial⟩ rfl rfl rfl) relsO_nil) ?_)
          intro v_122
          refine ⟨.inr (by exact HeldOK.same [2, 3, 6] (by decide) rfl), ?_⟩
          refine J_front [1] ?_
          refine JA_op (i := 8) (by kernel_rfl) rfl rfl (op_known hk_37 (op_append (v := v_118) (u := v_122) (T := o_Gheap_Chunk) (ts := [(⟨Origin_7, Type_8, At_9, Live_10, Held_11, Array_12, Size_14, r_23⟩ : Gheap_Chunk)]) [.row o_Gheap_Chunk 49 v_122 (⟨[(⟨Origin_7, Type_8, At_9, Live_10, Held_11, Array_12, Size_14, r_23⟩ : Gheap_Chunk)], true⟩ : Sl Gheap_Chunk)] [.row (t_Gheap_Sym).o 33 v_16 x_17, .cell c_21 [.int .i64 0, .int .i64 0, .int .i64 0, .int .i64 0], .cell c_19 [.int .i64 Origin_7, .int .i64 Type_8, .int .i64 At_9, .bool Live_10, .bool Held_11, .bool Array_12, .int .i64 Size_14.Kind, .int .i64 Size_14.Var, .int .i64 Size_14.K, .int .i64 Size_14.Block, v_31], .cell a_1 [v_2, .int .i64 Vars_4, v_5], .row (t_Gdiff_Leq).o 39 v_5 x_6] rfl Try.pu26 Try.pi49 rfl rfl rfl rfl rfl rfl source_move ?_))
          intro z_128 v_126 hz_129
          obtain rfl := Option.some.inj (hk_37.symm.trans hz_129)
          refine ⟨.inr (by exact HeldOK.same [1, 2, 5] (by decide) rfl), ?_⟩
          refine JA_takep 9 rfl hns (by kernel_rfl) (by kernel_rfl) rfl (.inr (by exact HeldOK.same [1, 2, 5] (by decide) rfl)) rfl rfl rfl (r_nilCheck (a := (Addr.add a_1 0)) rfl) ?_
          refine JA_takep 10 rfl hns (by kernel_rfl) (by kernel_rfl) rfl (.inr (by exact HeldOK.same [1, 2, 5] (by decide) rfl)) rfl rfl rfl (r_fieldAddr (r := Addr.add a_1 0) Try.pu28 (f := Try.pf28.getD 0 default) rfl Try.pi26 (by decide) rfl (Addr.add_add _ _ _)) ?_
          refine J_row_one 0 rfl fun h_131 => ?_
          refine JA_op (i := 11) (by kernel_rfl) rfl rfl (op_store_priv (a := a_1) (off := 0) (vs := [v_126]) (cs' := [v_126, .int .i64 Vars_4, v_5]) (PV' := [.row o_Gheap_Chunk 49 v_126 k_36, .row (t_Gheap_Sym).o 33 v_16 x_17, .cell c_21 [.int .i64 0, .int .i64 0, .int .i64 0, .int .i64 0], .cell c_19 [.int .i64 Origin_7, .int .i64 Type_8, .int .i64 At_9, .bool Live_10, .bool Held_11, .bool Array_12, .int .i64 Size_14.Kind, .int .i64 Size_14.Var, .int .i64 Size_14.K, .int .i64 Size_14.Block, v_31], .cell a_1 [v_126, .int .i64 Vars_4, v_5], .row (t_Gdiff_Leq).o 39 v_5 x_6]) 4 Try.pi26 rfl (one_cells h_131) rfl ⟨h_131, trivial⟩ rfl rfl rfl rfl rfl ?_)
          refine ⟨.inr (by exact HeldOK.same [1, 2, 5] (by decide) rfl), ?_⟩
          refine J_keep [true, true, true, false, true, true] ?_
          refine J_front [3, 0, 2, 1] ?_
          refine J_prune _ ?_ fun b => hk () _ b _ _ ⟨v_126, rfl, rfl, rfl⟩
          exact ⟨rfl, rfl, trivial⟩
        · refine J1_op rfl rfl (op_buildSlice (T := o_Gheap_Chunk) (vs := [.agg #[.int .i64 Origin_7, .int .i64 Type_8, .int .i64 At_9, .bool Live_10, .bool Held_11, .bool Array_12, .int .i64 Size_14.Kind, .int .i64 Size_14.Var, .int .i64 Size_14.K, .int .i64 Size_14.Block, v_31]]) (xs := [(⟨Origin_7, Type_8, At_9, Live_10, Held_11, Array_12, Size_14, r_23⟩ : Gheap_Chunk)]) [.row (t_Gheap_Sym).o 33 v_31 r_23] [.row (t_Gheap_Sym).o 33 v_16 x_17, .cell c_21 [.int .i64 0, .int .i64 0, .int .i64 0, .int .i64 0], .cell c_19 [.int .i64 Origin_7, .int .i64 Type_8, .int .i64 At_9, .bool Live_10, .bool Held_11, .bool Array_12, .int .i64 Size_14.Kind, .int .i64 Size_14.Var, .int .i64 Size_14.K, .int .i64 Size_14.Block, v_31], .cell a_1 [v_2, .int .i64 Vars_4, v_5], .row o_Gheap_Chunk 49 v_2 x_3, .row (t_Gdiff_Leq).o 39 v_5 x_6] rfl Try.pu26 Try.pi49 rfl rfl rfl rfl rfl rfl (relsO_cons (A := [.row (t_Gheap_Sym).o 33 v_31 r_23]) (B := []) (u := .agg #[.int .i64 Origin_7, .int .i64 Type_8, .int .i64 At_9, .bool Live_10, .bool Held_11, .bool Array_12, .int .i64 Size_14.Kind, .int .i64 Size_14.Var, .int .i64 Size_14.K, .int .i64 Size_14.Block, v_31]) (x := (⟨Origin_7, Type_8, At_9, Live_10, Held_11, Array_12, Size_14, r_23⟩ : Gheap_Chunk)) (opn_vrel (T := o_Gheap_Chunk) (u := ((), (), (), (), (), (), (), v_31)) ⟨trivial, trivial, trivial, trivial, trivial, trivial, trivial, trivial⟩ rfl rfl rfl) relsO_nil) ?_)
          intro v_134
          refine ⟨.inr (by exact HeldOK.same [1, 2, 6] (by decide) rfl), ?_⟩
          refine J_front [5] ?_
          refine JA_op (i := 5) (by kernel_rfl) rfl rfl (op_known hk_35 (op_callN (f := 52) (fn := Try.f52) (args := [v_2]) (post := slices_Clip_post σ v_2 x_3) 1 rfl rfl rfl Try.func52 Try.pn52 rfl rfl (fun y st hy hpre => slices_Clip_ref st σ v_2 x_3 hpre y hy) ?_))
          intro z_144 v_137 s_140 PV_138 hz_145 hle_141 hp_139
          obtain rfl := Option.some.inj (hk_35.symm.trans hz_145)
          obtain ⟨v_143, rfl, rfl, rfl⟩ := hp_139
          refine ⟨.inr (by exact HeldOK.same [2, 3, 6] (by decide) rfl), ?_⟩
          refine JA_op (i := 8) (by kernel_rfl) rfl rfl (op_known hk_37 (op_append (v := v_143) (u := v_134) (T := o_Gheap_Chunk) (ts := [(⟨Origin_7, Type_8, At_9, Live_10, Held_11, Array_12, Size_14, r_23⟩ : Gheap_Chunk)]) [.row o_Gheap_Chunk 49 v_134 (⟨[(⟨Origin_7, Type_8, At_9, Live_10, Held_11, Array_12, Size_14, r_23⟩ : Gheap_Chunk)], true⟩ : Sl Gheap_Chunk)] [.row (t_Gheap_Sym).o 33 v_16 x_17, .cell c_21 [.int .i64 0, .int .i64 0, .int .i64 0, .int .i64 0], .cell c_19 [.int .i64 Origin_7, .int .i64 Type_8, .int .i64 At_9, .bool Live_10, .bool Held_11, .bool Array_12, .int .i64 Size_14.Kind, .int .i64 Size_14.Var, .int .i64 Size_14.K, .int .i64 Size_14.Block, v_31], .cell a_1 [v_2, .int .i64 Vars_4, v_5], .row (t_Gdiff_Leq).o 39 v_5 x_6] rfl Try.pu26 Try.pi49 rfl rfl rfl rfl rfl rfl source_move ?_))
          intro z_148 v_147 hz_149
          obtain rfl := Option.some.inj (hk_37.symm.trans hz_149)
          refine ⟨.inr (by exact HeldOK.same [1, 2, 5] (by decide) rfl), ?_⟩
          refine JA_takep 9 rfl hns (by kernel_rfl) (by kernel_rfl) rfl (.inr (by exact HeldOK.same [1, 2, 5] (by decide) rfl)) rfl rfl rfl (r_nilCheck (a := (Addr.add a_1 0)) rfl) ?_
          refine JA_takep 10 rfl hns (by kernel_rfl) (by kernel_rfl) rfl (.inr (by exact HeldOK.same [1, 2, 5] (by decide) rfl)) rfl rfl rfl (r_fieldAddr (r := Addr.add a_1 0) Try.pu28 (f := Try.pf28.getD 0 default) rfl Try.pi26 (by decide) rfl (Addr.add_add _ _ _)) ?_
          refine J_row_one 0 rfl fun h_151 => ?_
          refine JA_op (i := 11) (by kernel_rfl) rfl rfl (op_store_priv (a := a_1) (off := 0) (vs := [v_147]) (cs' := [v_147, .int .i64 Vars_4, v_5]) (PV' := [.row o_Gheap_Chunk 49 v_147 k_36, .row (t_Gheap_Sym).o 33 v_16 x_17, .cell c_21 [.int .i64 0, .int .i64 0, .int .i64 0, .int .i64 0], .cell c_19 [.int .i64 Origin_7, .int .i64 Type_8, .int .i64 At_9, .bool Live_10, .bool Held_11, .bool Array_12, .int .i64 Size_14.Kind, .int .i64 Size_14.Var, .int .i64 Size_14.K, .int .i64 Size_14.Block, v_31], .cell a_1 [v_147, .int .i64 Vars_4, v_5], .row (t_Gdiff_Leq).o 39 v_5 x_6]) 4 Try.pi26 rfl (one_cells h_151) rfl ⟨h_151, trivial⟩ rfl rfl rfl rfl rfl ?_)
          refine ⟨.inr (by exact HeldOK.same [1, 2, 5] (by decide) rfl), ?_⟩
          refine J_keep [true, true, true, false, true, true] ?_
          refine J_front [3, 0, 2, 1] ?_
          refine J_prune _ ?_ fun b => hk () _ b _ _ ⟨v_147, rfl, rfl, rfl⟩
          exact ⟨rfl, rfl, trivial⟩
      · refine J1_op rfl rfl (op_buildSlice (T := o_Gheap_Chunk) (vs := [.agg #[.int .i64 Origin_7, .int .i64 Type_8, .int .i64 At_9, .bool Live_10, .bool Held_11, .bool Array_12, .int .i64 Size_14.Kind, .int .i64 Size_14.Var, .int .i64 Size_14.K, .int .i64 Size_14.Block, v_31]]) (xs := [(⟨Origin_7, Type_8, At_9, Live_10, Held_11, Array_12, Size_14, r_23⟩ : Gheap_Chunk)]) [.row (t_Gheap_Sym).o 33 v_31 r_23] [.row (t_Gheap_Sym).o 33 v_16 x_17, .cell c_21 [.int .i64 0, .int .i64 0, .int .i64 0, .int .i64 0], .cell c_19 [.int .i64 Origin_7, .int .i64 Type_8, .int .i64 At_9, .bool Live_10, .bool Held_11, .bool Array_12, .int .i64 Size_14.Kind, .int .i64 Size_14.Var, .int .i64 Size_14.K, .int .i64 Size_14.Block, v_31], .cell a_1 [v_2, .int .i64 Vars_4, v_5], .row o_Gheap_Chunk 49 v_2 x_3, .row (t_Gdiff_Leq).o 39 v_5 x_6] rfl Try.pu26 Try.pi49 rfl rfl rfl rfl rfl rfl (relsO_cons (A := [.row (t_Gheap_Sym).o 33 v_31 r_23]) (B := []) (u := .agg #[.int .i64 Origin_7, .int .i64 Type_8, .int .i64 At_9, .bool Live_10, .bool Held_11, .bool Array_12, .int .i64 Size_14.Kind, .int .i64 Size_14.Var, .int .i64 Size_14.K, .int .i64 Size_14.Block, v_31]) (x := (⟨Origin_7, Type_8, At_9, Live_10, Held_11, Array_12, Size_14, r_23⟩ : Gheap_Chunk)) (opn_vrel (T := o_Gheap_Chunk) (u := ((), (), (), (), (), (), (), v_31)) ⟨trivial, trivial, trivial, trivial, trivial, trivial, trivial, trivial⟩ rfl rfl rfl) relsO_nil) ?_)
        intro v_154
        refine ⟨.inr (by exact HeldOK.same [1, 2, 6] (by decide) rfl), ?_⟩
        refine JA_op (i := 4) (by kernel_rfl) rfl rfl (op_read rfl rfl (r_load_priv (a := a_1) (off := 0) (cs' := [v_2]) (v := v_2) 4 Try.pu26 Try.pi26 rfl rfl rfl rfl (by decide) rfl) ?_)
        refine ⟨.inr (by exact HeldOK.same [1, 2, 6] (by decide) rfl), ?_⟩
        refine J_front [5] ?_
        refine JA_op (i := 5) (by kernel_rfl) rfl rfl (op_known hk_35 (op_callN (f := 52) (fn := Try.f52) (args := [v_2]) (post := slices_Clip_post σ v_2 x_3) 1 rfl rfl rfl Try.func52 Try.pn52 rfl rfl (fun y st hy hpre => slices_Clip_ref st σ v_2 x_3 hpre y hy) ?_))
        intro z_165 v_158 s_161 PV_159 hz_166 hle_162 hp_160
        obtain rfl := Option.some.inj (hk_35.symm.trans hz_166)
        obtain ⟨v_164, rfl, rfl, rfl⟩ := hp_160
        refine ⟨.inr (by exact HeldOK.same [2, 3, 6] (by decide) rfl), ?_⟩
        refine JA_op (i := 8) (by kernel_rfl) rfl rfl (op_known hk_37 (op_append (v := v_164) (u := v_154) (T := o_Gheap_Chunk) (ts := [(⟨Origin_7, Type_8, At_9, Live_10, Held_11, Array_12, Size_14, r_23⟩ : Gheap_Chunk)]) [.row o_Gheap_Chunk 49 v_154 (⟨[(⟨Origin_7, Type_8, At_9, Live_10, Held_11, Array_12, Size_14, r_23⟩ : Gheap_Chunk)], true⟩ : Sl Gheap_Chunk)] [.row (t_Gheap_Sym).o 33 v_16 x_17, .cell c_21 [.int .i64 0, .int .i64 0, .int .i64 0, .int .i64 0], .cell c_19 [.int .i64 Origin_7, .int .i64 Type_8, .int .i64 At_9, .bool Live_10, .bool Held_11, .bool Array_12, .int .i64 Size_14.Kind, .int .i64 Size_14.Var, .int .i64 Size_14.K, .int .i64 Size_14.Block, v_31], .cell a_1 [v_2, .int .i64 Vars_4, v_5], .row (t_Gdiff_Leq).o 39 v_5 x_6] rfl Try.pu26 Try.pi49 rfl rfl rfl rfl rfl rfl source_move ?_))
        intro z_169 v_168 hz_170
        obtain rfl := Option.some.inj (hk_37.symm.trans hz_170)
        refine ⟨.inr (by exact HeldOK.same [1, 2, 5] (by decide) rfl), ?_⟩
        refine JA_takep 9 rfl hns (by kernel_rfl) (by kernel_rfl) rfl (.inr (by exact HeldOK.same [1, 2, 5] (by decide) rfl)) rfl rfl rfl (r_nilCheck (a := (Addr.add a_1 0)) rfl) ?_
        refine JA_takep 10 rfl hns (by kernel_rfl) (by kernel_rfl) rfl (.inr (by exact HeldOK.same [1, 2, 5] (by decide) rfl)) rfl rfl rfl (r_fieldAddr (r := Addr.add a_1 0) Try.pu28 (f := Try.pf28.getD 0 default) rfl Try.pi26 (by decide) rfl (Addr.add_add _ _ _)) ?_
        refine J_row_one 0 rfl fun h_172 => ?_
        refine JA_op (i := 11) (by kernel_rfl) rfl rfl (op_store_priv (a := a_1) (off := 0) (vs := [v_168]) (cs' := [v_168, .int .i64 Vars_4, v_5]) (PV' := [.row o_Gheap_Chunk 49 v_168 k_36, .row (t_Gheap_Sym).o 33 v_16 x_17, .cell c_21 [.int .i64 0, .int .i64 0, .int .i64 0, .int .i64 0], .cell c_19 [.int .i64 Origin_7, .int .i64 Type_8, .int .i64 At_9, .bool Live_10, .bool Held_11, .bool Array_12, .int .i64 Size_14.Kind, .int .i64 Size_14.Var, .int .i64 Size_14.K, .int .i64 Size_14.Block, v_31], .cell a_1 [v_168, .int .i64 Vars_4, v_5], .row (t_Gdiff_Leq).o 39 v_5 x_6]) 4 Try.pi26 rfl (one_cells h_172) rfl ⟨h_172, trivial⟩ rfl rfl rfl rfl rfl ?_)
        refine ⟨.inr (by exact HeldOK.same [1, 2, 5] (by decide) rfl), ?_⟩
        refine J_keep [true, true, true, false, true, true] ?_
        refine J_front [3, 0, 2, 1] ?_
        refine J_prune _ ?_ fun b => hk () _ b _ _ ⟨v_168, rfl, rfl, rfl⟩
        exact ⟨rfl, rfl, trivial⟩
  · rintro y_38 _ b s_42 _ ⟨v_41, rfl, rfl, rfl⟩
    unfold heap_Heap_Put_K1
    refine JA_done (by kernel_rfl) ?_
    refine J_then ?_
    refine J_seq ?_
    refine J_region ?_
    refine JL_op rfl (op_read rfl rfl (r_move (v := .pointer (some (Addr.add a_1 0))) rfl) ?_)
    refine JL_op rfl (op_read rfl rfl (r_nilCheck (a := (Addr.add a_1 0)) rfl) ?_)
    refine JL_op rfl (op_read rfl rfl (r_fieldAddr (r := Addr.add a_1 0) Try.pu28 (f := Try.pf28.getD 0 default) rfl Try.pi26 (by decide) rfl (Addr.add_add _ _ _)) ?_)
    refine JL_op rfl (op_read rfl rfl (r_load_priv (a := a_1) (off := 0) (cs' := [v_41]) (v := v_41) 0 Try.pu26 Try.pi26 rfl rfl rfl rfl (by decide) rfl) ?_)
    refine JL_op rfl (op_read rfl rfl (r_len_row (v := v_41) 1 Try.pu26 rfl rfl) ?_)
    refine JL_op rfl (op_read rfl rfl (r_sub rfl rfl) ?_)
    refine JL_op rfl (op_read rfl rfl (r_build (cs := [.int .i64 2, .int .i64 0, .int .i64 0, .int .i64 (IntKind.i64.wrap (k_36.len - 1))]) (vs := [(0, .int .i64 2), (3, .int .i64 (IntKind.i64.wrap (k_36.len - 1)))]) (pcs := [(0, [.int .i64 2]), (3, [.int .i64 (IntKind.i64.wrap (k_36.len - 1))])]) (pls := [(0, 1), (1, 1), (2, 1), (3, 1)]) Try.pu33 Try.pi33 rfl (by kernel_rfl) rfl ⟨rfl, rfl, ⟨rfl, rfl, trivial⟩⟩ rfl) ?_)
    refine JL_op rfl (op_store_priv (a := c_21) (off := 0) (vs := [.int .i64 2, .int .i64 0, .int .i64 0, .int .i64 (IntKind.i64.wrap (k_36.len - 1))]) (cs' := [.int .i64 2, .int .i64 0, .int .i64 0, .int .i64 (IntKind.i64.wrap (k_36.len - 1))]) (PV' := [.cell a_1 [v_41, .int .i64 Vars_4, v_5], .row o_Gheap_Chunk 49 v_41 k_36, .row (t_Gdiff_Leq).o 39 v_5 x_6, .cell c_21 [.int .i64 2, .int .i64 0, .int .i64 0, .int .i64 (IntKind.i64.wrap (k_36.len - 1))], .row (t_Gheap_Sym).o 33 v_16 x_17]) 3 Try.pi33 rfl rfl rfl ⟨rfl, rfl, rfl, rfl, trivial⟩ rfl rfl rfl rfl rfl ?_)
    refine JL_nil ?_
    refine J_then ?_
    refine J_ret ?_
    exact J_returnV1 (PV' := [.cell a_1 [v_41, .int .i64 Vars_4, v_5], .row o_Gheap_Chunk 49 v_41 k_36, .row (t_Gdiff_Leq).o 39 v_5 x_6, .row (t_Gheap_Sym).o 33 v_16 x_17]) rfl (rv_cell (cs := [.int .i64 2, .int .i64 0, .int .i64 0, .int .i64 (IntKind.i64.wrap (k_36.len - 1))]) (v := .agg #[.int .i64 2, .int .i64 0, .int .i64 0, .int .i64 (IntKind.i64.wrap (k_36.len - 1))]) 3 Try.pu33 Try.pi33 rfl rfl rfl (by decide) rfl) [0, 1, 2, 4] (by decide) rfl ⟨v_41, rfl, rfl, rfl⟩
def heap_Number_post (σ0 : FS) (n_1 : Int) (r : Unit) (σ : FS) (PV : List Priv) (v : Value) : Prop :=
  σ0 = σ ∧ .agg #[.int .i64 1, .int .i64 0, .int .i64 n_1, .int .i64 0] = v ∧ PV = []
set_option maxRecDepth 100000 in
theorem heap_Number_ref (s : Start) (σ : FS) (n_1 : Int) (hs : Pre s σ []) (r : Unit) (hr : heap_Number n_1 = some r) : Does Try.prog 25 [.int .i64 n_1] s σ (heap_Number_post σ n_1 r) := by
  unfold heap_Number at hr
  refine does_of_J Try.func25 rfl (n := 5) rfl rfl hs hr ?_
  refine J_seq ?_
  refine J_region ?_
  refine JL_op rfl (op_alloc (cs := [.int .i64 0, .int .i64 0, .int .i64 0, .int .i64 0]) rfl Try.pi33 rfl rfl ?_)
  intro c_2
  refine JL_nil ?_
  refine J_then ?_
  refine J_seq ?_
  refine J_region ?_
  refine JL_op rfl (op_read rfl rfl (r_move (v := .int .i64 n_1) rfl) ?_)
  refine JL_op rfl (op_read rfl rfl (r_build (cs := [.int .i64 1, .int .i64 0, .int .i64 n_1, .int .i64 0]) (vs := [(0, .int .i64 1), (2, .int .i64 n_1)]) (pcs := [(0, [.int .i64 1]), (2, [.int .i64 n_1])]) (pls := [(0, 1), (1, 1), (2, 1), (3, 1)]) Try.pu33 Try.pi33 rfl (by kernel_rfl) rfl ⟨rfl, rfl, ⟨rfl, rfl, trivial⟩⟩ rfl) ?_)
  refine JL_op rfl (op_store_priv (a := c_2) (off := 0) (vs := [.int .i64 1, .int .i64 0, .int .i64 n_1, .int .i64 0]) (cs' := [.int .i64 1, .int .i64 0, .int .i64 n_1, .int .i64 0]) (PV' := [.cell c_2 [.int .i64 1, .int .i64 0, .int .i64 n_1, .int .i64 0]]) 0 Try.pi33 rfl rfl rfl ⟨rfl, rfl, rfl, rfl, trivial⟩ rfl rfl rfl rfl rfl ?_)
  refine JL_nil ?_
  refine J_then ?_
  refine J_ret ?_
  exact J_returnV1 (PV' := []) rfl (rv_cell (cs := [.int .i64 1, .int .i64 0, .int .i64 n_1, .int .i64 0]) (v := .agg #[.int .i64 1, .int .i64 0, .int .i64 n_1, .int .i64 0]) 0 Try.pu33 Try.pi33 rfl rfl rfl (by decide) rfl) [] (by decide) rfl ⟨rfl, rfl, rfl⟩
def heap_Sym_of_post (σ0 : FS) (v_1 : Value) (s_2 : Gheap_Sym) (k_4 : Int) (r : Int) (σ : FS) (PV : List Priv) (v : Value) : Prop :=
  σ0 = σ ∧ .int .i64 r = v ∧ PV = []
set_option maxRecDepth 100000 in
theorem heap_Sym_of_ref (s : Start) (σ : FS) (v_1 : Value) (s_2 : Gheap_Sym) (h_3 : t_Gheap_Sym.vrel σ v_1 s_2) (k_4 : Int) (hs : Pre s σ []) (r : Int) (hr : heap_Sym_of s_2 k_4 = some r) : Does Try.prog 56 [v_1, .int .i64 k_4] s σ (heap_Sym_of_post σ v_1 s_2 k_4 r) := by
  unfold heap_Sym_of at hr
  obtain rfl := t_Gheap_Sym_v.1 h_3
  refine does_of_J Try.func56 rfl (n := 12) rfl rfl hs hr ?_
  refine J_seq ?_
  refine J_region ?_
  refine JL_op rfl (op_box (cs := [.int .i64 s_2.Kind, .int .i64 s_2.Var, .int .i64 s_2.K, .int .i64 s_2.Block]) rfl rfl ?_)
  intro c_5
  refine JL_op rfl (op_read rfl rfl (r_assign (v := .int .i64 0) rfl) ?_)
  refine JL_nil ?_
  refine J_then ?_
  refine J_seq ?_
  refine J_seq ?_
  refine J_region ?_
  refine JL_op rfl (op_read rfl rfl (r_fieldAddr (r := Addr.add c_5 0) Try.pu33 (f := Try.pf33.getD 0 default) rfl Try.pi31 (by decide) rfl (Addr.add_add _ _ _)) ?_)
  refine JL_op rfl (op_read rfl rfl (r_load_priv (a := c_5) (off := 0) (cs' := [.int .i64 s_2.Kind]) (v := .int .i64 s_2.Kind) 0 Try.pu31 Try.pi31 rfl rfl rfl rfl (by decide) rfl) ?_)
  refine JL_nil ?_
  refine J_then ?_
  refine J_block ?_
  refine J_seq ?_
  refine J_region ?_
  refine JL_op rfl (op_read rfl rfl (r_move (v := .int .i64 k_4) rfl) ?_)
  refine JL_op rfl (op_read rfl rfl (r_eql rfl rfl) ?_)
  refine JL_op rfl (op_read rfl rfl (r_assign (v := .bool (decide (s_2.Kind = k_4))) rfl) ?_)
  refine JL_nil ?_
  refine J_then ?_
  refine J_cond rfl (fun hc_7 => ?_) (fun hc_7 => ?_)
  · refine J_seq ?_
    refine J_region ?_
    refine JL_op rfl (op_read rfl rfl (r_assign (v := .int .i64 0) rfl) ?_)
    refine JL_nil ?_
    refine J_then ?_
    refine J_ret ?_
    refine J_in_ret ?_
    refine J_then_ret ?_
    exact J_returnV1 (PV' := []) rfl rv_tmp [] (by decide) rfl ⟨rfl, rfl, rfl⟩
  · refine J_seq ?_
    refine J_region ?_
    refine JL_op rfl (op_read rfl rfl (r_eql rfl rfl) ?_)
    refine JL_op rfl (op_read rfl rfl (r_assign (v := .bool (decide (s_2.Kind = 0))) rfl) ?_)
    refine JL_nil ?_
    refine J_then ?_
    refine J_cond rfl (fun hc_8 => ?_) (fun hc_8 => ?_)
    · refine J_seq ?_
      refine J_region ?_
      refine JL_op rfl (op_read rfl rfl (r_assign (v := .int .i64 41) rfl) ?_)
      refine JL_nil ?_
      refine J_then ?_
      refine J_ret ?_
      refine J_in_ret ?_
      refine J_then_ret ?_
      exact J_returnV1 (PV' := []) rfl rv_tmp [] (by decide) rfl ⟨rfl, rfl, rfl⟩
    · refine J_skip ?_
      refine J_in_normal ?_
      refine J_then ?_
      refine J_seq ?_
      refine J_region ?_
      refine JL_op rfl (op_read rfl rfl (r_assign (v := .int .i64 40) rfl) ?_)
      refine JL_nil ?_
      refine J_then ?_
      refine J_ret ?_
      exact J_returnV1 (PV' := []) rfl rv_tmp [] (by decide) rfl ⟨rfl, rfl, rfl⟩
def heap_Heap_chunk_post (σ0 : FS) (a_1 : Addr) (v_2 : Value) (x_3 : Sl Gheap_Chunk) (Vars_4 : Int) (v_5 : Value) (x_6 : Sl Gdiff_Leq) (v_7 : Value) (p_8 : Gheap_Sym) (r : (Option Int) × Int) (σ : FS) (PV : List Priv) (v : Value) : Prop :=
  σ0 = σ ∧ .tuple #[peOpt v_2 (o_Gheap_Chunk).size r.1, .int .i64 r.2] = v ∧ PV = [.row o_Gheap_Chunk 49 v_2 x_3, .cell a_1 [v_2, .int .i64 Vars_4, v_5], .row (t_Gdiff_Leq).o 39 v_5 x_6]
set_option maxRecDepth 100000 in
theorem heap_Heap_chunk_ref (s : Start) (σ : FS) (a_1 : Addr) (v_2 : Value) (x_3 : Sl Gheap_Chunk) (Vars_4 : Int) (v_5 : Value) (x_6 : Sl Gdiff_Leq) (v_7 : Value) (p_8 : Gheap_Sym) (h_9 : t_Gheap_Sym.vrel σ v_7 p_8) (hs : Pre s σ [.cell a_1 [v_2, .int .i64 Vars_4, v_5], .row o_Gheap_Chunk 49 v_2 x_3, .row (t_Gdiff_Leq).o 39 v_5 x_6]) (r : (Option Int) × Int) (hr : heap_Heap_chunk x_3 Vars_4 x_6 p_8 = some r) : Does Try.prog 58 [.pointer (some (Addr.add a_1 0)), v_7] s σ (heap_Heap_chunk_post σ a_1 v_2 x_3 Vars_4 v_5 x_6 v_7 p_8 r) := by
  unfold heap_Heap_chunk at hr
  obtain rfl := t_Gheap_Sym_v.1 h_9
  refine does_of_J Try.func58 rfl (n := 44) rfl rfl hs hr ?_
  refine J_seq ?_
  refine J_region ?_
  refine JL_op rfl (op_box (cs := [.int .i64 p_8.Kind, .int .i64 p_8.Var, .int .i64 p_8.K, .int .i64 p_8.Block]) rfl rfl ?_)
  intro c_10
  refine JL_op rfl (op_read rfl rfl (r_assign (v := .pointer none) rfl) ?_)
  refine JL_op rfl (op_read rfl rfl (r_assign (v := .int .i64 0) rfl) ?_)
  refine JL_nil ?_
  refine J_then ?_
  refine J_seq ?_
  refine J_seq ?_
  refine J_region ?_
  refine JL_op rfl (op_read rfl rfl (r_load_priv (a := c_10) (off := 0) (cs' := [.int .i64 p_8.Kind, .int .i64 p_8.Var, .int .i64 p_8.K, .int .i64 p_8.Block]) (v := .agg #[.int .i64 p_8.Kind, .int .i64 p_8.Var, .int .i64 p_8.K, .int .i64 p_8.Block]) 0 Try.pu33 Try.pi33 rfl rfl rfl rfl (by decide) rfl) ?_)
  refine JL_op rfl (op_callN (f := 56) (fn := Try.f56) (args := [.agg #[.int .i64 p_8.Kind, .int .i64 p_8.Var, .int .i64 p_8.K, .int .i64 p_8.Block], .int .i64 2]) (post := heap_Sym_of_post σ (.agg #[.int .i64 p_8.Kind, .int .i64 p_8.Var, .int .i64 p_8.K, .int .i64 p_8.Block]) p_8 2) 0 rfl rfl rfl Try.func56 Try.pn56 rfl rfl (fun y st hy hpre => heap_Sym_of_ref st σ (.agg #[.int .i64 p_8.Kind, .int .i64 p_8.Var, .int .i64 p_8.K, .int .i64 p_8.Block]) p_8 (t_Gheap_Sym_v.2 rfl) 2 hpre y hy) ?_)
  intro r_12 v_14 s_17 PV_15 hr_13 hle_18 hp_16
  obtain ⟨rfl, rfl, rfl⟩ := hp_16
  refine JL_op rfl (op_read rfl rfl (r_assign (v := .int .i64 r_12) rfl) ?_)
  refine JL_nil ?_
  refine J_then ?_
  refine J_seq ?_
  refine J_region ?_
  refine JL_op rfl (op_read rfl rfl (r_move (v := .int .i64 r_12) rfl) ?_)
  refine JL_op rfl (op_read rfl rfl (r_neq rfl rfl) ?_)
  refine JL_nil ?_
  refine J_then ?_
  refine J_cond rfl (fun hc_19 => ?_) (fun hc_19 => ?_)
  · refine J_seq ?_
    refine J_region ?_
    refine JL_op rfl (op_read rfl rfl (r_move (v := .int .i64 r_12) rfl) ?_)
    refine JL_op rfl (op_read rfl rfl (r_assign (v := .pointer none) rfl) ?_)
    refine JL_op rfl (op_read rfl rfl (r_assign (v := .int .i64 r_12) rfl) ?_)
    refine JL_nil ?_
    refine J_then ?_
    refine J_ret ?_
    refine J_then_ret ?_
    exact J_returnV2 (PV' := [.row o_Gheap_Chunk 49 v_2 x_3, .cell a_1 [v_2, .int .i64 Vars_4, v_5], .row (t_Gdiff_Leq).o 39 v_5 x_6]) rfl rv_tmp rv_tmp [2, 1, 3] (by decide) rfl ⟨rfl, rfl, rfl⟩
  · refine J_skip ?_
    refine J_then ?_
    refine J_seq ?_
    refine J_seq ?_
    refine J_region_any 25 [.cell c_10 [.int .i64 p_8.Kind, .int .i64 p_8.Var, .int .i64 p_8.K, .int .i64 p_8.Block], .cell a_1 [v_2, .int .i64 Vars_4, v_5], .row o_Gheap_Chunk 49 v_2 x_3, .row (t_Gdiff_Leq).o 39 v_5 x_6] Try.mixed (by kernel_rfl) fun hns => ?_
    refine JA_takep 0 rfl hns (by kernel_rfl) (by kernel_rfl) rfl (.inr (by exact HeldOK.same [0, 1, 2, 3] (by decide) rfl)) rfl rfl rfl (r_fieldAddr (r := Addr.add c_10 3) Try.pu33 (f := Try.pf33.getD 3 default) rfl Try.pi3 (by decide) rfl (Addr.add_add _ _ _)) ?_
    refine JA_take 1 rfl hns (by kernel_rfl) (by kernel_rfl) (by kernel_rfl) rfl (by kernel_rfl) (by exact HeldOK.same [0, 1, 2, 3] (by decide) rfl) rfl rfl rfl (r_load_priv (a := c_10) (off := 3) (cs' := [.int .i64 p_8.Block]) (v := .int .i64 p_8.Block) 0 Try.pu3 Try.pi3 rfl rfl rfl rfl (by decide) rfl) ?_
    refine JA_takep 2 rfl hns (by kernel_rfl) (by kernel_rfl) rfl (.inr (by exact HeldOK.same [0, 1, 2, 3] (by decide) rfl)) rfl rfl rfl (r_lss rfl rfl) ?_
    refine JA_takep 3 rfl hns (by kernel_rfl) (by kernel_rfl) rfl (.inr (by exact HeldOK.same [0, 1, 2, 3] (by decide) rfl)) rfl rfl rfl (r_move (v := .bool (decide (p_8.Block < 0))) rfl) ?_
    refine J_forkA (e := (decide (p_8.Block < 0))) 12 #[true, true, true, true, true, true, true, true, true, true, true, true, true, false, false, false, false, false, false, false, false, false, false, false, false] [(0, .pointer (some (Addr.add a_1 0))), (3, .pointer (some (Addr.add c_10 0))), (24, .bool (decide (p_8.Block < 0) || decide (x_3.len ≤ p_8.Block)))] (fun hc_21 hk => ?_) (fun hc_21 hk => ?_) (fun b => ?_)
    · refine JA_skip (y := some (decide (p_8.Block < 0))) 4 rfl hns (by kernel_rfl) (by kernel_rfl) rfl (.inr (by exact HeldOK.same [0, 1, 2, 3] (by decide) rfl)) rfl rfl (by rw [hc_21]; decide) rfl rfl ?_
      refine JA_skip (y := some (decide (p_8.Block < 0))) 5 rfl hns (by kernel_rfl) (by kernel_rfl) rfl (.inr (by exact HeldOK.same [0, 1, 2, 3] (by decide) rfl)) rfl rfl (by rw [hc_21]; decide) rfl rfl ?_
      refine JA_skip (y := some (decide (p_8.Block < 0))) 6 rfl hns (by kernel_rfl) (by kernel_rfl) rfl (.inr (by exact HeldOK.same [0, 1, 2, 3] (by decide) rfl)) rfl rfl (by rw [hc_21]; decide) rfl rfl ?_
      refine JA_skip (y := some (decide (p_8.Block < 0))) 7 rfl hns (by kernel_rfl) (by kernel_rfl) rfl (.inr (by exact HeldOK.same [0, 1, 2, 3] (by decide) rfl)) rfl rfl (by rw [hc_21]; decide) rfl rfl ?_
      refine JA_skip (y := some (decide (p_8.Block < 0))) 8 rfl hns (by kernel_rfl) (by kernel_rfl) rfl (.inr (by exact HeldOK.same [0, 1, 2, 3] (by decide) rfl)) rfl rfl (by rw [hc_21]; decide) rfl rfl ?_
      refine JA_skip (y := some (decide (p_8.Block < 0))) 9 rfl hns (by kernel_rfl) (by kernel_rfl) rfl (.inr (by exact HeldOK.same [0, 1, 2, 3] (by decide) rfl)) rfl rfl (by rw [hc_21]; decide) rfl rfl ?_
      refine JA_skip (y := some (decide (p_8.Block < 0))) 10 rfl hns (by kernel_rfl) (by kernel_rfl) rfl (.inr (by exact HeldOK.same [0, 1, 2, 3] (by decide) rfl)) rfl rfl (by rw [hc_21]; decide) rfl rfl ?_
      refine JA_skip (y := some (decide (p_8.Block < 0))) 11 rfl hns (by kernel_rfl) (by kernel_rfl) rfl (.inr (by exact HeldOK.same [0, 1, 2, 3] (by decide) rfl)) rfl rfl (by rw [hc_21]; decide) rfl rfl ?_
      refine JA_takep 12 rfl hns (by kernel_rfl) (by kernel_rfl) rfl (.inr (by exact HeldOK.same [0, 1, 2, 3] (by decide) rfl)) rfl rfl rfl (r_pick_t (v := .bool true) rfl hc_21 rfl) ?_
      refine J_prune [(0, .pointer (some (Addr.add a_1 0))), (3, .pointer (some (Addr.add c_10 0))), (24, .bool (decide (p_8.Block < 0) || decide (x_3.len ≤ p_8.Block)))] ⟨rfl, rfl, (by show Value.bool _ = Value.bool _; rw [hc_21]; rfl), trivial⟩ hk
    · refine JA_takepg 4 rfl hns (by kernel_rfl) (by kernel_rfl) rfl (.inr (by exact HeldOK.same [0, 1, 2, 3] (by decide) rfl)) rfl rfl hc_21 rfl rfl (r_fieldAddr (r := Addr.add c_10 3) Try.pu33 (f := Try.pf33.getD 3 default) rfl Try.pi3 (by decide) rfl (Addr.add_add _ _ _)) ?_
      refine JA_takeg 5 rfl hns (by kernel_rfl) (by kernel_rfl) (by kernel_rfl) rfl (by kernel_rfl) (by exact HeldOK.same [0, 1, 2, 3] (by decide) rfl) rfl rfl hc_21 rfl rfl (r_load_priv (a := c_10) (off := 3) (cs' := [.int .i64 p_8.Block]) (v := .int .i64 p_8.Block) 0 Try.pu3 Try.pi3 rfl rfl rfl rfl (by decide) rfl) ?_
      refine JA_takepg 6 rfl hns (by kernel_rfl) (by kernel_rfl) rfl (.inr (by exact HeldOK.same [0, 1, 2, 3] (by decide) rfl)) rfl rfl hc_21 rfl rfl (r_move (v := .pointer (some (Addr.add a_1 0))) rfl) ?_
      refine JA_takepg 7 rfl hns (by kernel_rfl) (by kernel_rfl) rfl (.inr (by exact HeldOK.same [0, 1, 2, 3] (by decide) rfl)) rfl rfl hc_21 rfl rfl (r_nilCheck (a := (Addr.add a_1 0)) rfl) ?_
      refine JA_takepg 8 rfl hns (by kernel_rfl) (by kernel_rfl) rfl (.inr (by exact HeldOK.same [0, 1, 2, 3] (by decide) rfl)) rfl rfl hc_21 rfl rfl (r_fieldAddr (r := Addr.add a_1 0) Try.pu28 (f := Try.pf28.getD 0 default) rfl Try.pi26 (by decide) rfl (Addr.add_add _ _ _)) ?_
      refine JA_takeg 9 rfl hns (by kernel_rfl) (by kernel_rfl) (by kernel_rfl) rfl (by kernel_rfl) (by exact HeldOK.same [0, 1, 2, 3] (by decide) rfl) rfl rfl hc_21 rfl rfl (r_load_priv (a := a_1) (off := 0) (cs' := [v_2]) (v := v_2) 1 Try.pu26 Try.pi26 rfl rfl rfl rfl (by decide) rfl) ?_
      refine JA_takeg 10 rfl hns (by kernel_rfl) (by kernel_rfl) (by kernel_rfl) rfl (by kernel_rfl) (by exact HeldOK.same [0, 1, 2, 3] (by decide) rfl) rfl rfl hc_21 rfl rfl (r_len_row (v := v_2) 2 Try.pu26 rfl rfl) ?_
      refine JA_takepg 11 rfl hns (by kernel_rfl) (by kernel_rfl) rfl (.inr (by exact HeldOK.same [0, 1, 2, 3] (by decide) rfl)) rfl rfl hc_21 rfl rfl (r_geq rfl rfl) ?_
      refine JA_takep 12 rfl hns (by kernel_rfl) (by kernel_rfl) rfl (.inr (by exact HeldOK.same [0, 1, 2, 3] (by decide) rfl)) rfl rfl rfl (r_pick_f (v := .bool (decide (x_3.len ≤ p_8.Block))) rfl hc_21 rfl) ?_
      refine J_prune [(0, .pointer (some (Addr.add a_1 0))), (3, .pointer (some (Addr.add c_10 0))), (24, .bool (decide (p_8.Block < 0) || decide (x_3.len ≤ p_8.Block)))] ⟨rfl, rfl, (by show Value.bool _ = Value.bool _; rw [hc_21]; rfl), trivial⟩ hk
    · refine JA_takep 13 rfl hns (by kernel_rfl) (by kernel_rfl) rfl (.inr (by exact HeldOK.same [0, 1, 2, 3] (by decide) rfl)) rfl rfl rfl (r_move (v := .bool (decide (p_8.Block < 0) || decide (x_3.len ≤ p_8.Block))) rfl) ?_
      refine J_forkAB (e := (decide (p_8.Block < 0) || decide (x_3.len ≤ p_8.Block))) 0 #[true, true, true, true, true, true, true, true, true, true, true, true, true, true, true, true, true, true, true, true, true, true, true, true, true] (fun (y : Bool) L τ PV => σ = τ ∧ L = [(0, .pointer (some (Addr.add a_1 0))), (3, .pointer (some (Addr.add c_10 0))), (36, .bool y)] ∧ PV = [.cell a_1 [v_2, .int .i64 Vars_4, v_5], .row o_Gheap_Chunk 49 v_2 x_3, .row (t_Gdiff_Leq).o 39 v_5 x_6, .cell c_10 [.int .i64 p_8.Kind, .int .i64 p_8.Var, .int .i64 p_8.K, .int .i64 p_8.Block]]) (fun hc_22 hk => ?_) (fun hc_22 hk => ?_) ?_
      · refine JA_skip (y := some (decide (p_8.Block < 0) || decide (x_3.len ≤ p_8.Block))) 14 rfl hns (by kernel_rfl) (by kernel_rfl) rfl (.inr (by exact HeldOK.same [0, 1, 2, 3] (by decide) rfl)) rfl rfl (by rw [hc_22]; decide) rfl rfl ?_
        refine JA_skip (y := some (decide (p_8.Block < 0) || decide (x_3.len ≤ p_8.Block))) 15 rfl hns (by kernel_rfl) (by kernel_rfl) rfl (.inr (by exact HeldOK.same [0, 1, 2, 3] (by decide) rfl)) rfl rfl (by rw [hc_22]; decide) rfl rfl ?_
        refine JA_skip (y := some (decide (p_8.Block < 0) || decide (x_3.len ≤ p_8.Block))) 16 rfl hns (by kernel_rfl) (by kernel_rfl) rfl (.inr (by exact HeldOK.same [0, 1, 2, 3] (by decide) rfl)) rfl rfl (by rw [hc_22]; decide) rfl rfl ?_
        refine JA_skip (y := some (decide (p_8.Block < 0) || decide (x_3.len ≤ p_8.Block))) 17 rfl hns (by kernel_rfl) (by kernel_rfl) rfl (.inr (by exact HeldOK.same [0, 1, 2, 3] (by decide) rfl)) rfl rfl (by rw [hc_22]; decide) rfl rfl ?_
        refine JA_skip (y := some (decide (p_8.Block < 0) || decide (x_3.len ≤ p_8.Block))) 18 rfl hns (by kernel_rfl) (by kernel_rfl) rfl (.inr (by exact HeldOK.same [0, 1, 2, 3] (by decide) rfl)) rfl rfl (by rw [hc_22]; decide) rfl rfl ?_
        refine JA_skip (y := some (decide (p_8.Block < 0) || decide (x_3.len ≤ p_8.Block))) 19 rfl hns (by kernel_rfl) (by kernel_rfl) rfl (.inr (by exact HeldOK.same [0, 1, 2, 3] (by decide) rfl)) rfl rfl (by rw [hc_22]; decide) rfl rfl ?_
        refine JA_skip (y := some (decide (p_8.Block < 0) || decide (x_3.len ≤ p_8.Block))) 20 rfl hns (by kernel_rfl) (by kernel_rfl) rfl (.inr (by exact HeldOK.same [0, 1, 2, 3] (by decide) rfl)) rfl rfl (by rw [hc_22]; decide) rfl rfl ?_
        refine JA_skip (y := some (decide (p_8.Block < 0) || decide (x_3.len ≤ p_8.Block))) 21 rfl hns (by kernel_rfl) (by kernel_rfl) rfl (.inr (by exact HeldOK.same [0, 1, 2, 3] (by decide) rfl)) rfl rfl (by rw [hc_22]; decide) rfl rfl ?_
        refine JA_skip (y := some (decide (p_8.Block < 0) || decide (x_3.len ≤ p_8.Block))) 22 rfl hns (by kernel_rfl) (by kernel_rfl) rfl (.inr (by exact HeldOK.same [0, 1, 2, 3] (by decide) rfl)) rfl rfl (by rw [hc_22]; decide) rfl rfl ?_
        refine JA_skip (y := some (decide (p_8.Block < 0) || decide (x_3.len ≤ p_8.Block))) 23 rfl hns (by kernel_rfl) (by kernel_rfl) rfl (.inr (by exact HeldOK.same [0, 1, 2, 3] (by decide) rfl)) rfl rfl (by rw [hc_22]; decide) rfl rfl ?_
        refine JA_takep 24 rfl hns (by kernel_rfl) (by kernel_rfl) rfl (.inr (by exact HeldOK.same [0, 1, 2, 3] (by decide) rfl)) rfl rfl rfl (r_pick_t (v := .bool true) rfl hc_22 rfl) ?_
        refine J_front [1, 1, 1] ?_
        refine J_prune _ ?_ fun b => hk true _ b _ _ ⟨rfl, rfl, rfl⟩
        exact ⟨rfl, rfl, rfl, trivial⟩
      · refine JA_takepg 14 rfl hns (by kernel_rfl) (by kernel_rfl) rfl (.inr (by exact HeldOK.same [0, 1, 2, 3] (by decide) rfl)) rfl rfl hc_22 rfl rfl (r_move (v := .pointer (some (Addr.add a_1 0))) rfl) ?_
        refine JA_takepg 15 rfl hns (by kernel_rfl) (by kernel_rfl) rfl (.inr (by exact HeldOK.same [0, 1, 2, 3] (by decide) rfl)) rfl rfl hc_22 rfl rfl (r_nilCheck (a := (Addr.add a_1 0)) rfl) ?_
        refine JA_takepg 16 rfl hns (by kernel_rfl) (by kernel_rfl) rfl (.inr (by exact HeldOK.same [0, 1, 2, 3] (by decide) rfl)) rfl rfl hc_22 rfl rfl (r_fieldAddr (r := Addr.add a_1 0) Try.pu28 (f := Try.pf28.getD 0 default) rfl Try.pi26 (by decide) rfl (Addr.add_add _ _ _)) ?_
        refine JA_takeg 17 rfl hns (by kernel_rfl) (by kernel_rfl) (by kernel_rfl) rfl (by kernel_rfl) (by exact HeldOK.same [0, 1, 2, 3] (by decide) rfl) rfl rfl hc_22 rfl rfl (r_load_priv (a := a_1) (off := 0) (cs' := [v_2]) (v := v_2) 1 Try.pu26 Try.pi26 rfl rfl rfl rfl (by decide) rfl) ?_
        refine JA_takepg 18 rfl hns (by kernel_rfl) (by kernel_rfl) rfl (.inr (by exact HeldOK.same [0, 1, 2, 3] (by decide) rfl)) rfl rfl hc_22 rfl rfl (r_fieldAddr (r := Addr.add c_10 3) Try.pu33 (f := Try.pf33.getD 3 default) rfl Try.pi3 (by decide) rfl (Addr.add_add _ _ _)) ?_
        refine JA_takeg 19 rfl hns (by kernel_rfl) (by kernel_rfl) (by kernel_rfl) rfl (by kernel_rfl) (by exact HeldOK.same [0, 1, 2, 3] (by decide) rfl) rfl rfl hc_22 rfl rfl (r_load_priv (a := c_10) (off := 3) (cs' := [.int .i64 p_8.Block]) (v := .int .i64 p_8.Block) 0 Try.pu3 Try.pi3 rfl rfl rfl rfl (by decide) rfl) ?_
        refine J_assoc ?_
        refine J_bind fun x_24 hx_25 => ?_
        refine JA_takeg 20 rfl hns (by kernel_rfl) (by kernel_rfl) (by kernel_rfl) rfl (by kernel_rfl) (by exact HeldOK.same [0, 1, 2, 3] (by decide) rfl) rfl rfl hc_22 rfl rfl (r_index_row (v := v_2) (T := o_Gheap_Chunk) (q := x_24) 2 Try.pu26 Try.pi49 rfl rfl rfl rfl hx_25) ?_
        refine JA_takepg 21 rfl hns (by kernel_rfl) (by kernel_rfl) rfl (.inr (by exact HeldOK.same [0, 1, 2, 3] (by decide) rfl)) rfl rfl hc_22 rfl rfl (r_fieldAddr (r := elemAddr v_2 ((p_8.Block).toNat * (o_Gheap_Chunk).size + 3)) Try.pu49 (f := Try.pf49.getD 3 default) rfl Try.pi4 (by decide) rfl (elemAddr_add _ _ _)) ?_
        refine JA_takesg 22 rfl hns (by kernel_rfl) (by kernel_rfl) (by kernel_rfl) rfl (by kernel_rfl) (by exact HeldOK.same [0, 1, 2, 3] (by decide) rfl) rfl rfl hc_22 rfl rfl (l_elem_orow (v := v_2) (T := o_Gheap_Chunk) (Tf := tBool) (q := x_24) (i := p_8.Block) (off := 3) 2 Try.pu4 Try.pi4 rfl rfl rfl rfl hx_25 of_Gheap_Chunk_Live (by decide)) ?_
        intro v_26 h_27
        obtain rfl := tBool_v.1 h_27
        refine JA_takepg 23 rfl hns (by kernel_rfl) (by kernel_rfl) rfl (.inr (by exact HeldOK.same [0, 1, 2, 3] (by decide) rfl)) rfl rfl hc_22 rfl rfl (r_not rfl) ?_
        refine JA_takep 24 rfl hns (by kernel_rfl) (by kernel_rfl) rfl (.inr (by exact HeldOK.same [0, 1, 2, 3] (by decide) rfl)) rfl rfl rfl (r_pick_f (v := .bool (!x_24.Live)) rfl hc_22 rfl) ?_
        refine J_front [1, 1, 1] ?_
        refine J_prune _ ?_ fun b => hk (!x_24.Live) _ b _ _ ⟨rfl, rfl, rfl⟩
        exact ⟨rfl, rfl, rfl, trivial⟩
      · rintro y_23 _ b s_30 _ ⟨rfl, rfl, rfl⟩
        refine JA_done (by kernel_rfl) ?_
        refine J_then ?_
        refine J_cond rfl (fun hc_32 => ?_) (fun hc_32 => ?_)
        · refine J_seq ?_
          refine J_region ?_
          refine JL_op rfl (op_read rfl rfl (r_assign (v := .pointer none) rfl) ?_)
          refine JL_op rfl (op_read rfl rfl (r_assign (v := .int .i64 43) rfl) ?_)
          refine JL_nil ?_
          refine J_then ?_
          refine J_ret ?_
          refine J_then_ret ?_
          exact J_returnV2 (PV' := [.row o_Gheap_Chunk 49 v_2 x_3, .cell a_1 [v_2, .int .i64 Vars_4, v_5], .row (t_Gdiff_Leq).o 39 v_5 x_6]) rfl rv_tmp rv_tmp [1, 0, 2] (by decide) rfl ⟨rfl, rfl, rfl⟩
        · refine J_skip ?_
          refine J_then ?_
          refine J_seq ?_
          refine J_region_any 9 [.cell a_1 [v_2, .int .i64 Vars_4, v_5], .row o_Gheap_Chunk 49 v_2 x_3, .row (t_Gdiff_Leq).o 39 v_5 x_6, .cell c_10 [.int .i64 p_8.Kind, .int .i64 p_8.Var, .int .i64 p_8.K, .int .i64 p_8.Block]] Try.mixed (by kernel_rfl) fun hns => ?_
          refine JA_takep 0 rfl hns (by kernel_rfl) (by kernel_rfl) rfl (.inr (by exact HeldOK.same [0, 1, 2, 3] (by decide) rfl)) rfl rfl rfl (r_move (v := .pointer (some (Addr.add a_1 0))) rfl) ?_
          refine JA_takep 1 rfl hns (by kernel_rfl) (by kernel_rfl) rfl (.inr (by exact HeldOK.same [0, 1, 2, 3] (by decide) rfl)) rfl rfl rfl (r_nilCheck (a := (Addr.add a_1 0)) rfl) ?_
          refine JA_takep 2 rfl hns (by kernel_rfl) (by kernel_rfl) rfl (.inr (by exact HeldOK.same [0, 1, 2, 3] (by decide) rfl)) rfl rfl rfl (r_fieldAddr (r := Addr.add a_1 0) Try.pu28 (f := Try.pf28.getD 0 default) rfl Try.pi26 (by decide) rfl (Addr.add_add _ _ _)) ?_
          refine JA_take 3 rfl hns (by kernel_rfl) (by kernel_rfl) (by kernel_rfl) rfl (by kernel_rfl) (by exact HeldOK.same [0, 1, 2, 3] (by decide) rfl) rfl rfl rfl (r_load_priv (a := a_1) (off := 0) (cs' := [v_2]) (v := v_2) 0 Try.pu26 Try.pi26 rfl rfl rfl rfl (by decide) rfl) ?_
          refine JA_takep 4 rfl hns (by kernel_rfl) (by kernel_rfl) rfl (.inr (by exact HeldOK.same [0, 1, 2, 3] (by decide) rfl)) rfl rfl rfl (r_fieldAddr (r := Addr.add c_10 3) Try.pu33 (f := Try.pf33.getD 3 default) rfl Try.pi3 (by decide) rfl (Addr.add_add _ _ _)) ?_
          refine JA_take 5 rfl hns (by kernel_rfl) (by kernel_rfl) (by kernel_rfl) rfl (by kernel_rfl) (by exact HeldOK.same [0, 1, 2, 3] (by decide) rfl) rfl rfl rfl (r_load_priv (a := c_10) (off := 3) (cs' := [.int .i64 p_8.Block]) (v := .int .i64 p_8.Block) 3 Try.pu3 Try.pi3 rfl rfl rfl rfl (by decide) rfl) ?_
          refine J_bind fun x_34 hx_35 => ?_
          refine JA_take 6 rfl hns (by kernel_rfl) (by kernel_rfl) (by kernel_rfl) rfl (by kernel_rfl) (by exact HeldOK.same [0, 1, 2, 3] (by decide) rfl) rfl rfl rfl (r_index_row (v := v_2) (T := o_Gheap_Chunk) (q := x_34) 1 Try.pu26 Try.pi49 rfl rfl rfl rfl hx_35) ?_
          refine JA_takep 7 rfl hns (by kernel_rfl) (by kernel_rfl) rfl (.inr (by exact HeldOK.same [0, 1, 2, 3] (by decide) rfl)) rfl rfl rfl (r_assign (v := .pointer (some (elemAddr v_2 ((p_8.Block).toNat * (o_Gheap_Chunk).size + 0)))) rfl) ?_
          refine JA_takep 8 rfl hns (by kernel_rfl) (by kernel_rfl) rfl (.inr (by exact HeldOK.same [0, 1, 2, 3] (by decide) rfl)) rfl rfl rfl (r_assign (v := .int .i64 0) rfl) ?_
          refine JA_done (by kernel_rfl) ?_
          refine J_then ?_
          refine J_ret ?_
          exact J_returnV2 (PV' := [.row o_Gheap_Chunk 49 v_2 x_3, .cell a_1 [v_2, .int .i64 Vars_4, v_5], .row (t_Gdiff_Leq).o 39 v_5 x_6]) rfl rv_tmp rv_tmp [1, 0, 2] (by decide) rfl ⟨rfl, rfl, rfl⟩
def slices_Clone_v2_post (σ0 : FS) (v_1 : Value) (x_2 : Sl Gdiff_Leq) (r : (Sl Gdiff_Leq)) (σ : FS) (PV : List Priv) (v : Value) : Prop :=
  ∃ (w0 : Value), σ0 = σ ∧ w0 = v ∧ PV = [.row (t_Gdiff_Leq).o 39 w0 r, .row (t_Gdiff_Leq).o 39 v_1 x_2]
set_option maxRecDepth 100000 in
theorem slices_Clone_v2_ref (s : Start) (σ : FS) (v_1 : Value) (x_2 : Sl Gdiff_Leq) (hs : Pre s σ [.row (t_Gdiff_Leq).o 39 v_1 x_2]) (r : (Sl Gdiff_Leq)) (hr : slices_Clone_v2 x_2 = some r) : Does Try.prog 48 [v_1] s σ (slices_Clone_v2_post σ v_1 x_2 r) := by
  unfold slices_Clone_v2 at hr
  refine does_of_J Try.func48 rfl (n := 8) rfl rfl hs hr ?_
  refine J_seq ?_
  refine J_region ?_
  refine JL_op rfl (op_read rfl rfl (r_assign (v := .slice none 0 0) rfl) ?_)
  refine JL_nil ?_
  refine J_then ?_
  refine J_seq ?_
  refine J_seq ?_
  refine J_region ?_
  refine JL_op rfl (op_read rfl rfl (r_move (v := v_1) rfl) ?_)
  refine JL_op rfl (op_read rfl rfl (r_eqnil_row (v := v_1) 0 Try.pu22 rfl rfl rfl) ?_)
  refine JL_nil ?_
  refine J_then ?_
  refine J_cond rfl (fun hc_3 => ?_) (fun hc_3 => ?_)
  · refine J_seq ?_
    refine J_region ?_
    refine JL_op rfl (op_read rfl rfl (r_assign (v := .slice none 0 0) rfl) ?_)
    refine JL_nil ?_
    refine J_then ?_
    refine J_ret ?_
    refine J_then_ret ?_
    refine J_nil_row (t_Gdiff_Leq).o 39 ?_
    exact J_returnV1 (PV' := [.row (t_Gdiff_Leq).o 39 (.slice none 0 0) (⟨[], false⟩ : Sl Gdiff_Leq), .row (t_Gdiff_Leq).o 39 v_1 x_2]) rfl rv_tmp [0, 1] (by decide) rfl ⟨(.slice none 0 0), rfl, rfl, rfl⟩
  · refine J_skip ?_
    refine J_then ?_
    refine J_seq ?_
    refine J_region ?_
    refine JL_op rfl (op_buildSlice (T := (t_Gdiff_Leq).o) (vs := []) (xs := []) [] [.row (t_Gdiff_Leq).o 39 v_1 x_2] rfl Try.pu22 Try.pi39 rfl rfl rfl rfl rfl rfl relsO_nil ?_)
    intro v_5
    refine JL_op rfl (op_read rfl rfl (r_move (v := v_1) rfl) ?_)
    refine JL_op rfl (op_append (v := v_5) (u := v_1) (T := (t_Gdiff_Leq).o) (ts := x_2.xs) [] [.row (t_Gdiff_Leq).o 39 v_1 x_2] rfl Try.pu22 Try.pi39 rfl rfl rfl rfl rfl rfl (source_copy (s := x_2) 1 rfl) ?_)
    intro s_8 v_7 hs_9
    refine JL_op rfl (op_read rfl rfl (r_assign (v := v_7) rfl) ?_)
    refine JL_nil ?_
    refine J_then ?_
    refine J_ret ?_
    exact J_returnV1 (PV' := [.row (t_Gdiff_Leq).o 39 v_7 s_8, .row (t_Gdiff_Leq).o 39 v_1 x_2]) rfl rv_tmp [0, 1] (by decide) rfl ⟨v_7, rfl, rfl, rfl⟩
def diff_fit_1_post (σ0 : FS) (v_1 : Value) (f_2 : Gdiff_Leq) (a_4 : Addr) (f_5 : Int) (r : Unit) (σ : FS) (PV : List Priv) (v : Value) : Prop :=
  σ0 = σ ∧ .bool (((((decide (f_2.X < 0) || decide (f_5 ≤ f_2.X)) || decide (f_2.Y < 0)) || decide (f_5 ≤ f_2.Y)) || decide (8796093022208 < f_2.C)) || decide (f_2.C < (-8796093022208))) = v ∧ PV = [.cell a_4 [.int .i64 f_5]]
set_option maxRecDepth 100000 in
theorem diff_fit_1_ref (s : Start) (σ : FS) (v_1 : Value) (f_2 : Gdiff_Leq) (h_3 : t_Gdiff_Leq.vrel σ v_1 f_2) (a_4 : Addr) (f_5 : Int) (hs : Pre s σ [.cell a_4 [.int .i64 f_5]]) (r : Unit) (hr : diff_fit_1 f_2 f_5 = some r) : Does Try.prog 70 [v_1, .pointer (some (Addr.add a_4 0))] s σ (diff_fit_1_post σ v_1 f_2 a_4 f_5 r) := by
  unfold diff_fit_1 at hr
  obtain rfl := t_Gdiff_Leq_v.1 h_3
  refine does_of_J Try.func70 rfl (n := 34) rfl rfl hs hr ?_
  refine J_seq ?_
  refine J_region ?_
  refine JL_op rfl (op_box (cs := [.int .i64 f_2.X, .int .i64 f_2.Y, .int .i64 f_2.C]) rfl rfl ?_)
  intro c_6
  refine JL_op rfl (op_read rfl rfl (r_assign (v := .bool false) rfl) ?_)
  refine JL_nil ?_
  refine J_then ?_
  refine J_seq ?_
  refine J_region ?_
  refine JL_op rfl (op_read rfl rfl (r_fieldAddr (r := Addr.add c_6 0) Try.pu39 (f := Try.pf39.getD 0 default) rfl Try.pi3 (by decide) rfl (Addr.add_add _ _ _)) ?_)
  refine JL_op rfl (op_read rfl rfl (r_load_priv (a := c_6) (off := 0) (cs' := [.int .i64 f_2.X]) (v := .int .i64 f_2.X) 0 Try.pu3 Try.pi3 rfl rfl rfl rfl (by decide) rfl) ?_)
  refine JL_op rfl (op_read rfl rfl (r_lss rfl rfl) ?_)
  refine JL_op rfl (op_read rfl rfl (r_move (v := .bool (decide (f_2.X < 0))) rfl) ?_)
  refine J_forkL (e := (decide (f_2.X < 0))) 5 [(1, .pointer (some (Addr.add a_4 0))), (2, .pointer (some (Addr.add c_6 0))), (12, .bool (decide (f_2.X < 0) || decide (f_5 ≤ f_2.X)))] (fun hc_8 hk => ?_) (fun hc_8 hk => ?_) (fun b => ?_)
  · refine JL_skip rfl rfl hc_8 rfl rfl ?_
    refine JL_skip rfl rfl hc_8 rfl rfl ?_
    refine JL_skip rfl rfl hc_8 rfl rfl ?_
    refine JL_skip rfl rfl hc_8 rfl rfl ?_
    refine JL_op rfl (op_read rfl rfl (r_pick_t (v := .bool true) rfl hc_8 rfl) ?_)
    refine J_prune [(1, .pointer (some (Addr.add a_4 0))), (2, .pointer (some (Addr.add c_6 0))), (12, .bool (decide (f_2.X < 0) || decide (f_5 ≤ f_2.X)))] ⟨rfl, rfl, (by show Value.bool _ = Value.bool _; rw [hc_8]; rfl), trivial⟩ hk
  · refine JL_opg rfl rfl hc_8 (op_read rfl rfl (r_fieldAddr (r := Addr.add c_6 0) Try.pu39 (f := Try.pf39.getD 0 default) rfl Try.pi3 (by decide) rfl (Addr.add_add _ _ _)) ?_)
    refine JL_opg rfl rfl hc_8 (op_read rfl rfl (r_load_priv (a := c_6) (off := 0) (cs' := [.int .i64 f_2.X]) (v := .int .i64 f_2.X) 0 Try.pu3 Try.pi3 rfl rfl rfl rfl (by decide) rfl) ?_)
    refine JL_opg rfl rfl hc_8 (op_read rfl rfl (r_load_priv (a := a_4) (off := 0) (cs' := [.int .i64 f_5]) (v := .int .i64 f_5) 1 Try.pu3 Try.pi3 rfl rfl rfl rfl (by decide) rfl) ?_)
    refine JL_opg rfl rfl hc_8 (op_read rfl rfl (r_geq rfl rfl) ?_)
    refine JL_op rfl (op_read rfl rfl (r_pick_f (v := .bool (decide (f_5 ≤ f_2.X))) rfl hc_8 rfl) ?_)
    refine J_prune [(1, .pointer (some (Addr.add a_4 0))), (2, .pointer (some (Addr.add c_6 0))), (12, .bool (decide (f_2.X < 0) || decide (f_5 ≤ f_2.X)))] ⟨rfl, rfl, (by show Value.bool _ = Value.bool _; rw [hc_8]; rfl), trivial⟩ hk
  · refine JL_op rfl (op_read rfl rfl (r_move (v := .bool (decide (f_2.X < 0) || decide (f_5 ≤ f_2.X))) rfl) ?_)
    refine J_forkL (e := (decide (f_2.X < 0) || decide (f_5 ≤ f_2.X))) 4 [(1, .pointer (some (Addr.add a_4 0))), (2, .pointer (some (Addr.add c_6 0))), (17, .bool ((decide (f_2.X < 0) || decide (f_5 ≤ f_2.X)) || decide (f_2.Y < 0)))] (fun hc_9 hk => ?_) (fun hc_9 hk => ?_) (fun b => ?_)
    · refine JL_skip rfl rfl hc_9 rfl rfl ?_
      refine JL_skip rfl rfl hc_9 rfl rfl ?_
      refine JL_skip rfl rfl hc_9 rfl rfl ?_
      refine JL_op rfl (op_read rfl rfl (r_pick_t (v := .bool true) rfl hc_9 rfl) ?_)
      refine J_prune [(1, .pointer (some (Addr.add a_4 0))), (2, .pointer (some (Addr.add c_6 0))), (17, .bool ((decide (f_2.X < 0) || decide (f_5 ≤ f_2.X)) || decide (f_2.Y < 0)))] ⟨rfl, rfl, (by show Value.bool _ = Value.bool _; rw [hc_9]; rfl), trivial⟩ hk
    · refine JL_opg rfl rfl hc_9 (op_read rfl rfl (r_fieldAddr (r := Addr.add c_6 1) Try.pu39 (f := Try.pf39.getD 1 default) rfl Try.pi3 (by decide) rfl (Addr.add_add _ _ _)) ?_)
      refine JL_opg rfl rfl hc_9 (op_read rfl rfl (r_load_priv (a := c_6) (off := 1) (cs' := [.int .i64 f_2.Y]) (v := .int .i64 f_2.Y) 0 Try.pu3 Try.pi3 rfl rfl rfl rfl (by decide) rfl) ?_)
      refine JL_opg rfl rfl hc_9 (op_read rfl rfl (r_lss rfl rfl) ?_)
      refine JL_op rfl (op_read rfl rfl (r_pick_f (v := .bool (decide (f_2.Y < 0))) rfl hc_9 rfl) ?_)
      refine J_prune [(1, .pointer (some (Addr.add a_4 0))), (2, .pointer (some (Addr.add c_6 0))), (17, .bool ((decide (f_2.X < 0) || decide (f_5 ≤ f_2.X)) || decide (f_2.Y < 0)))] ⟨rfl, rfl, (by show Value.bool _ = Value.bool _; rw [hc_9]; rfl), trivial⟩ hk
    · refine JL_op rfl (op_read rfl rfl (r_move (v := .bool ((decide (f_2.X < 0) || decide (f_5 ≤ f_2.X)) || decide (f_2.Y < 0))) rfl) ?_)
      refine J_forkL (e := ((decide (f_2.X < 0) || decide (f_5 ≤ f_2.X)) || decide (f_2.Y < 0))) 5 [(2, .pointer (some (Addr.add c_6 0))), (23, .bool (((decide (f_2.X < 0) || decide (f_5 ≤ f_2.X)) || decide (f_2.Y < 0)) || decide (f_5 ≤ f_2.Y)))] (fun hc_10 hk => ?_) (fun hc_10 hk => ?_) (fun b => ?_)
      · refine JL_skip rfl rfl hc_10 rfl rfl ?_
        refine JL_skip rfl rfl hc_10 rfl rfl ?_
        refine JL_skip rfl rfl hc_10 rfl rfl ?_
        refine JL_skip rfl rfl hc_10 rfl rfl ?_
        refine JL_op rfl (op_read rfl rfl (r_pick_t (v := .bool true) rfl hc_10 rfl) ?_)
        refine J_prune [(2, .pointer (some (Addr.add c_6 0))), (23, .bool (((decide (f_2.X < 0) || decide (f_5 ≤ f_2.X)) || decide (f_2.Y < 0)) || decide (f_5 ≤ f_2.Y)))] ⟨rfl, (by show Value.bool _ = Value.bool _; rw [hc_10]; rfl), trivial⟩ hk
      · refine JL_opg rfl rfl hc_10 (op_read rfl rfl (r_fieldAddr (r := Addr.add c_6 1) Try.pu39 (f := Try.pf39.getD 1 default) rfl Try.pi3 (by decide) rfl (Addr.add_add _ _ _)) ?_)
        refine JL_opg rfl rfl hc_10 (op_read rfl rfl (r_load_priv (a := c_6) (off := 1) (cs' := [.int .i64 f_2.Y]) (v := .int .i64 f_2.Y) 0 Try.pu3 Try.pi3 rfl rfl rfl rfl (by decide) rfl) ?_)
        refine JL_opg rfl rfl hc_10 (op_read rfl rfl (r_load_priv (a := a_4) (off := 0) (cs' := [.int .i64 f_5]) (v := .int .i64 f_5) 1 Try.pu3 Try.pi3 rfl rfl rfl rfl (by decide) rfl) ?_)
        refine JL_opg rfl rfl hc_10 (op_read rfl rfl (r_geq rfl rfl) ?_)
        refine JL_op rfl (op_read rfl rfl (r_pick_f (v := .bool (decide (f_5 ≤ f_2.Y))) rfl hc_10 rfl) ?_)
        refine J_prune [(2, .pointer (some (Addr.add c_6 0))), (23, .bool (((decide (f_2.X < 0) || decide (f_5 ≤ f_2.X)) || decide (f_2.Y < 0)) || decide (f_5 ≤ f_2.Y)))] ⟨rfl, (by show Value.bool _ = Value.bool _; rw [hc_10]; rfl), trivial⟩ hk
      · refine JL_op rfl (op_read rfl rfl (r_move (v := .bool (((decide (f_2.X < 0) || decide (f_5 ≤ f_2.X)) || decide (f_2.Y < 0)) || decide (f_5 ≤ f_2.Y))) rfl) ?_)
        refine J_forkL (e := (((decide (f_2.X < 0) || decide (f_5 ≤ f_2.X)) || decide (f_2.Y < 0)) || decide (f_5 ≤ f_2.Y))) 4 [(2, .pointer (some (Addr.add c_6 0))), (28, .bool ((((decide (f_2.X < 0) || decide (f_5 ≤ f_2.X)) || decide (f_2.Y < 0)) || decide (f_5 ≤ f_2.Y)) || decide (8796093022208 < f_2.C)))] (fun hc_11 hk => ?_) (fun hc_11 hk => ?_) (fun b => ?_)
        · refine JL_skip rfl rfl hc_11 rfl rfl ?_
          refine JL_skip rfl rfl hc_11 rfl rfl ?_
          refine JL_skip rfl rfl hc_11 rfl rfl ?_
          refine JL_op rfl (op_read rfl rfl (r_pick_t (v := .bool true) rfl hc_11 rfl) ?_)
          refine J_prune [(2, .pointer (some (Addr.add c_6 0))), (28, .bool ((((decide (f_2.X < 0) || decide (f_5 ≤ f_2.X)) || decide (f_2.Y < 0)) || decide (f_5 ≤ f_2.Y)) || decide (8796093022208 < f_2.C)))] ⟨rfl, (by show Value.bool _ = Value.bool _; rw [hc_11]; rfl), trivial⟩ hk
        · refine JL_opg rfl rfl hc_11 (op_read rfl rfl (r_fieldAddr (r := Addr.add c_6 2) Try.pu39 (f := Try.pf39.getD 2 default) rfl Try.pi2 (by decide) rfl (Addr.add_add _ _ _)) ?_)
          refine JL_opg rfl rfl hc_11 (op_read rfl rfl (r_load_priv (a := c_6) (off := 2) (cs' := [.int .i64 f_2.C]) (v := .int .i64 f_2.C) 0 Try.pu2 Try.pi2 rfl rfl rfl rfl (by decide) rfl) ?_)
          refine JL_opg rfl rfl hc_11 (op_read rfl rfl (r_gtr rfl rfl) ?_)
          refine JL_op rfl (op_read rfl rfl (r_pick_f (v := .bool (decide (8796093022208 < f_2.C))) rfl hc_11 rfl) ?_)
          refine J_prune [(2, .pointer (some (Addr.add c_6 0))), (28, .bool ((((decide (f_2.X < 0) || decide (f_5 ≤ f_2.X)) || decide (f_2.Y < 0)) || decide (f_5 ≤ f_2.Y)) || decide (8796093022208 < f_2.C)))] ⟨rfl, (by show Value.bool _ = Value.bool _; rw [hc_11]; rfl), trivial⟩ hk
        · refine JL_op rfl (op_read rfl rfl (r_move (v := .bool ((((decide (f_2.X < 0) || decide (f_5 ≤ f_2.X)) || decide (f_2.Y < 0)) || decide (f_5 ≤ f_2.Y)) || decide (8796093022208 < f_2.C))) rfl) ?_)
          refine J_forkL (e := ((((decide (f_2.X < 0) || decide (f_5 ≤ f_2.X)) || decide (f_2.Y < 0)) || decide (f_5 ≤ f_2.Y)) || decide (8796093022208 < f_2.C))) 4 [(33, .bool (((((decide (f_2.X < 0) || decide (f_5 ≤ f_2.X)) || decide (f_2.Y < 0)) || decide (f_5 ≤ f_2.Y)) || decide (8796093022208 < f_2.C)) || decide (f_2.C < (-8796093022208))))] (fun hc_12 hk => ?_) (fun hc_12 hk => ?_) (fun b => ?_)
          · refine JL_skip rfl rfl hc_12 rfl rfl ?_
            refine JL_skip rfl rfl hc_12 rfl rfl ?_
            refine JL_skip rfl rfl hc_12 rfl rfl ?_
            refine JL_op rfl (op_read rfl rfl (r_pick_t (v := .bool true) rfl hc_12 rfl) ?_)
            refine J_prune [(33, .bool (((((decide (f_2.X < 0) || decide (f_5 ≤ f_2.X)) || decide (f_2.Y < 0)) || decide (f_5 ≤ f_2.Y)) || decide (8796093022208 < f_2.C)) || decide (f_2.C < (-8796093022208))))] ⟨(by show Value.bool _ = Value.bool _; rw [hc_12]; rfl), trivial⟩ hk
          · refine JL_opg rfl rfl hc_12 (op_read rfl rfl (r_fieldAddr (r := Addr.add c_6 2) Try.pu39 (f := Try.pf39.getD 2 default) rfl Try.pi2 (by decide) rfl (Addr.add_add _ _ _)) ?_)
            refine JL_opg rfl rfl hc_12 (op_read rfl rfl (r_load_priv (a := c_6) (off := 2) (cs' := [.int .i64 f_2.C]) (v := .int .i64 f_2.C) 0 Try.pu2 Try.pi2 rfl rfl rfl rfl (by decide) rfl) ?_)
            refine JL_opg rfl rfl hc_12 (op_read rfl rfl (r_lss rfl rfl) ?_)
            refine JL_op rfl (op_read rfl rfl (r_pick_f (v := .bool (decide (f_2.C < (-8796093022208)))) rfl hc_12 rfl) ?_)
            refine J_prune [(33, .bool (((((decide (f_2.X < 0) || decide (f_5 ≤ f_2.X)) || decide (f_2.Y < 0)) || decide (f_5 ≤ f_2.Y)) || decide (8796093022208 < f_2.C)) || decide (f_2.C < (-8796093022208))))] ⟨(by show Value.bool _ = Value.bool _; rw [hc_12]; rfl), trivial⟩ hk
          · refine JL_op rfl (op_read rfl rfl (r_assign (v := .bool (((((decide (f_2.X < 0) || decide (f_5 ≤ f_2.X)) || decide (f_2.Y < 0)) || decide (f_5 ≤ f_2.Y)) || decide (8796093022208 < f_2.C)) || decide (f_2.C < (-8796093022208)))) rfl) ?_)
            refine JL_nil ?_
            refine J_then ?_
            refine J_ret ?_
            exact J_returnV1 (PV' := [.cell a_4 [.int .i64 f_5]]) rfl rv_tmp [1] (by decide) rfl ⟨rfl, rfl, rfl⟩
def slices_IndexFunc_post (σ0 : FS) (v_1 : Value) (x_2 : Sl Gdiff_Leq) (a_3 : Addr) (f_4 : Int) (r : Int) (σ : FS) (PV : List Priv) (v : Value) : Prop :=
  σ0 = σ ∧ .int .i64 r = v ∧ PV = [.row (t_Gdiff_Leq).o 39 v_1 x_2, .cell a_3 [.int .i64 f_4]]
set_option maxRecDepth 100000 in
theorem slices_IndexFunc_ref (s : Start) (σ : FS) (v_1 : Value) (x_2 : Sl Gdiff_Leq) (a_3 : Addr) (f_4 : Int) (hs : Pre s σ [.row (t_Gdiff_Leq).o 39 v_1 x_2, .cell a_3 [.int .i64 f_4]]) (r : Int) (hr : slices_IndexFunc x_2 f_4 = some r) : Does Try.prog 69 [v_1, .func (.func 70) #[] #[.pointer (some (Addr.add a_3 0))]] s σ (slices_IndexFunc_post σ v_1 x_2 a_3 f_4 r) := by
  unfold slices_IndexFunc at hr
  refine does_of_J Try.func69 rfl (n := 19) rfl rfl hs hr ?_
  refine J_seq ?_
  refine J_region ?_
  refine JL_op rfl (op_read rfl rfl (r_assign (v := .int .i64 0) rfl) ?_)
  refine JL_nil ?_
  refine J_then ?_
  refine J_seq ?_
  refine J_seq ?_
  refine J_region ?_
  refine JL_op rfl (op_read rfl rfl (r_move (v := v_1) rfl) ?_)
  refine JL_op rfl (op_read rfl rfl (r_len_row (v := v_1) 0 Try.pu22 rfl rfl) ?_)
  refine JL_op rfl (op_read rfl rfl (r_move (v := .int .i64 0) rfl) ?_)
  refine JL_nil ?_
  refine J_then ?_
  refine J_block ?_
  refine J_loop (fun (y : Int) L τ PV => σ = τ ∧ L = [(0, v_1), (1, .func (.func 70) #[] #[.pointer (some (Addr.add a_3 0))]), (7, .int .i64 x_2.len), (8, .int .i64 y)] ∧ PV = [.row (t_Gdiff_Leq).o 39 v_1 x_2, .cell a_3 [.int .i64 f_4]]) (fun (y : W2 Unit Int) e L τ PV => match y, e with | .a y, e => e = .exit 0 ∧ (σ = τ ∧ L = [] ∧ PV = [.row (t_Gdiff_Leq).o 39 v_1 x_2, .cell a_3 [.int .i64 f_4]]) | .b y, e => e = .ret ∧ (σ = τ ∧ L = [(4, .int .i64 y)] ∧ PV = [.row (t_Gdiff_Leq).o 39 v_1 x_2, .cell a_3 [.int .i64 f_4]])) _ ?_ ⟨rfl, rfl, rfl⟩ ?_ ?_
  · exact ⟨rfl, rfl, rfl, rfl, trivial⟩
  · rintro x_5 _ b s_8 _ ⟨rfl, rfl, rfl⟩
    unfold slices_IndexFunc_L1
    refine J_seq ?_
    refine J_region ?_
    refine JL_op rfl (op_read rfl rfl (r_lss rfl rfl) ?_)
    refine JL_nil ?_
    refine J_then ?_
    refine J_seq ?_
    refine J_cond rfl (fun hc_9 => ?_) (fun hc_9 => ?_)
    · refine J_skip ?_
      refine J_then ?_
      refine J_seq ?_
      refine J_block ?_
      refine J_seq ?_
      refine J_region ?_
      refine JL_op rfl (op_read rfl rfl (r_move (v := .int .i64 x_5) rfl) ?_)
      refine JL_op rfl (op_read rfl rfl (r_assign (v := .int .i64 x_5) rfl) ?_)
      refine JL_nil ?_
      refine J_then ?_
      refine J_seq ?_
      refine J_region ?_
      refine JL_op rfl (op_read rfl rfl (r_move (v := .func (.func 70) #[] #[.pointer (some (Addr.add a_3 0))]) rfl) ?_)
      refine JL_op rfl (op_read rfl rfl (r_move (v := v_1) rfl) ?_)
      refine JL_op rfl (op_read rfl rfl (r_move (v := .int .i64 x_5) rfl) ?_)
      refine J_bind fun x_10 hx_11 => ?_
      refine JL_op rfl (op_read rfl rfl (r_index_row (v := v_1) (T := (t_Gdiff_Leq).o) (q := x_10) 0 Try.pu22 Try.pi39 rfl rfl rfl rfl hx_11) ?_)
      refine JL_op rfl (op_reads rfl rfl (l_elem_orow (v := v_1) (T := (t_Gdiff_Leq).o) (Tf := t_Gdiff_Leq) (q := x_10) (i := x_5) (off := 0) 0 Try.pu39 Try.pi39 rfl rfl rfl rfl hx_11 (OFieldAt.self (T := (t_Gdiff_Leq).o)) (by decide)) ?_)
      intro v_12 h_13
      obtain rfl := t_Gdiff_Leq_v.1 h_13
      refine J_front [1] ?_
      refine JL_op rfl (op_callN (f := 70) (fn := Try.f70) (args := [.agg #[.int .i64 x_10.X, .int .i64 x_10.Y, .int .i64 x_10.C], .pointer (some (Addr.add a_3 0))]) (post := diff_fit_1_post σ (.agg #[.int .i64 x_10.X, .int .i64 x_10.Y, .int .i64 x_10.C]) x_10 a_3 f_4) 1 rfl rfl rfl Try.func70 Try.pn70 rfl rfl (fun y st hy hpre => diff_fit_1_ref st σ (.agg #[.int .i64 x_10.X, .int .i64 x_10.Y, .int .i64 x_10.C]) x_10 (t_Gdiff_Leq_v.2 rfl) a_3 f_4 hpre y hy) ?_)
      intro r_14 v_16 s_19 PV_17 hr_15 hle_20 hp_18
      obtain ⟨rfl, rfl, rfl⟩ := hp_18
      refine JL_nil ?_
      refine J_then ?_
      refine J_cond rfl (fun hc_21 => ?_) (fun hc_21 => ?_)
      · refine J_seq ?_
        refine J_region ?_
        refine JL_op rfl (op_read rfl rfl (r_move (v := .int .i64 x_5) rfl) ?_)
        refine JL_op rfl (op_read rfl rfl (r_assign (v := .int .i64 x_5) rfl) ?_)
        refine JL_nil ?_
        refine J_then ?_
        refine J_ret ?_
        refine J_in_ret ?_
        refine J_then_ret ?_
        refine J_front [1] ?_
        refine J_done trivial _ ?_ ⟨rfl, rfl, rfl, rfl⟩
        exact ⟨rfl, trivial⟩
      · refine J_skip ?_
        refine J_in_normal ?_
        refine J_then ?_
        refine J_region ?_
        refine JL_op rfl (op_read rfl rfl (r_add rfl rfl) ?_)
        refine JL_op rfl (op_read rfl rfl (r_move (v := .int .i64 (IntKind.i64.wrap (x_5 + 1))) rfl) ?_)
        refine JL_nil ?_
        refine J_front [1] ?_
        refine J_next _ ?_ ⟨rfl, rfl, rfl⟩
        exact ⟨rfl, rfl, rfl, rfl, trivial⟩
    · refine J_exit ?_
      refine J_then_exit ?_
      refine J_done trivial _ ?_ ⟨rfl, rfl, rfl, rfl⟩
      exact trivial
  · rintro (y_23 | y_27) e L b τ PV ht
    · obtain ⟨rfl, ht⟩ := ht
      revert ht; revert PV; revert τ; revert b; revert L
      rintro _ b s_26 _ ⟨rfl, rfl, rfl⟩
      refine J_in_exit ?_
      refine J_then ?_
      refine J_seq ?_
      refine J_region ?_
      refine JL_op rfl (op_read rfl rfl (r_assign (v := .int .i64 (-1)) rfl) ?_)
      refine JL_nil ?_
      refine J_then ?_
      refine J_ret ?_
      exact J_returnV1 (PV' := [.row (t_Gdiff_Leq).o 39 v_1 x_2, .cell a_3 [.int .i64 f_4]]) rfl rv_tmp [0, 1] (by decide) rfl ⟨rfl, rfl, rfl⟩
    · obtain ⟨rfl, ht⟩ := ht
      revert ht; revert PV; revert τ; revert b; revert L
      rintro _ b s_30 _ ⟨rfl, rfl, rfl⟩
      refine J_in_ret ?_
      refine J_then_ret ?_
      exact J_returnV1 (PV' := [.row (t_Gdiff_Leq).o 39 v_1 x_2, .cell a_3 [.int .i64 f_4]]) rfl rv_tmp [0, 1] (by decide) rfl ⟨rfl, rfl, rfl⟩
def slices_ContainsFunc_post (σ0 : FS) (v_1 : Value) (x_2 : Sl Gdiff_Leq) (a_3 : Addr) (f_4 : Int) (r : Bool) (σ : FS) (PV : List Priv) (v : Value) : Prop :=
  σ0 = σ ∧ .bool r = v ∧ PV = [.row (t_Gdiff_Leq).o 39 v_1 x_2, .cell a_3 [.int .i64 f_4]]
set_option maxRecDepth 100000 in
theorem slices_ContainsFunc_ref (s : Start) (σ : FS) (v_1 : Value) (x_2 : Sl Gdiff_Leq) (a_3 : Addr) (f_4 : Int) (hs : Pre s σ [.row (t_Gdiff_Leq).o 39 v_1 x_2, .cell a_3 [.int .i64 f_4]]) (r : Bool) (hr : slices_ContainsFunc x_2 f_4 = some r) : Does Try.prog 62 [v_1, .func (.func 70) #[] #[.pointer (some (Addr.add a_3 0))]] s σ (slices_ContainsFunc_post σ v_1 x_2 a_3 f_4 r) := by
  unfold slices_ContainsFunc at hr
  refine does_of_J Try.func62 rfl (n := 9) rfl rfl hs hr ?_
  refine J_seq ?_
  refine J_region ?_
  refine JL_op rfl (op_read rfl rfl (r_assign (v := .bool false) rfl) ?_)
  refine JL_nil ?_
  refine J_then ?_
  refine J_seq ?_
  refine J_region ?_
  refine JL_op rfl (op_read rfl rfl (r_move (v := v_1) rfl) ?_)
  refine JL_op rfl (op_read rfl rfl (r_move (v := .func (.func 70) #[] #[.pointer (some (Addr.add a_3 0))]) rfl) ?_)
  refine JL_op rfl (op_callN (f := 69) (fn := Try.f69) (args := [v_1, .func (.func 70) #[] #[.pointer (some (Addr.add a_3 0))]]) (post := slices_IndexFunc_post σ v_1 x_2 a_3 f_4) 2 rfl rfl rfl Try.func69 Try.pn69 rfl rfl (fun y st hy hpre => slices_IndexFunc_ref st σ v_1 x_2 a_3 f_4 hpre y hy) ?_)
  intro r_5 v_7 s_10 PV_8 hr_6 hle_11 hp_9
  obtain ⟨rfl, rfl, rfl⟩ := hp_9
  refine JL_op rfl (op_read rfl rfl (r_geq rfl rfl) ?_)
  refine JL_op rfl (op_read rfl rfl (r_assign (v := .bool (decide (0 ≤ r_5))) rfl) ?_)
  refine JL_nil ?_
  refine J_then ?_
  refine J_ret ?_
  exact J_returnV1 (PV' := [.row (t_Gdiff_Leq).o 39 v_1 x_2, .cell a_3 [.int .i64 f_4]]) rfl rv_tmp [0, 1] (by decide) rfl ⟨rfl, rfl, rfl⟩
def diff_fit_post (σ0 : FS) (n_1 : Int) (v_2 : Value) (x_3 : Sl Gdiff_Leq) (r : Int) (σ : FS) (PV : List Priv) (v : Value) : Prop :=
  σ0 = σ ∧ .int .i64 r = v ∧ PV = [.row (t_Gdiff_Leq).o 39 v_2 x_3]
set_option maxRecDepth 100000 in
theorem diff_fit_ref (s : Start) (σ : FS) (n_1 : Int) (v_2 : Value) (x_3 : Sl Gdiff_Leq) (hs : Pre s σ [.row (t_Gdiff_Leq).o 39 v_2 x_3]) (r : Int) (hr : diff_fit n_1 x_3 = some r) : Does Try.prog 64 [.int .i64 n_1, v_2] s σ (diff_fit_post σ n_1 v_2 x_3 r) := by
  unfold diff_fit at hr
  refine does_of_J Try.func64 rfl (n := 19) rfl rfl hs hr ?_
  refine J_seq ?_
  refine J_region ?_
  refine JL_op rfl (op_box (cs := [.int .i64 n_1]) rfl rfl ?_)
  intro c_4
  refine JL_op rfl (op_read rfl rfl (r_assign (v := .int .i64 0) rfl) ?_)
  refine JL_nil ?_
  refine J_then ?_
  refine J_seq ?_
  refine J_seq ?_
  refine J_region ?_
  refine JL_op rfl (op_read rfl rfl (r_move (v := v_2) rfl) ?_)
  refine JL_op rfl (op_read rfl rfl (r_len_row (v := v_2) 1 Try.pu22 rfl rfl) ?_)
  refine JL_op rfl (op_read rfl rfl (r_gtr rfl rfl) ?_)
  refine JL_nil ?_
  refine J_then ?_
  refine J_cond rfl (fun hc_6 => ?_) (fun hc_6 => ?_)
  · refine J_seq ?_
    refine J_region ?_
    refine JL_op rfl (op_read rfl rfl (r_assign (v := .int .i64 22) rfl) ?_)
    refine JL_nil ?_
    refine J_then ?_
    refine J_ret ?_
    refine J_then_ret ?_
    exact J_returnV1 (PV' := [.row (t_Gdiff_Leq).o 39 v_2 x_3]) rfl rv_tmp [1] (by decide) rfl ⟨rfl, rfl, rfl⟩
  · refine J_skip ?_
    refine J_then ?_
    refine J_seq ?_
    refine J_seq ?_
    refine J_region ?_
    refine JL_op rfl (op_read rfl rfl (r_load_priv (a := c_4) (off := 0) (cs' := [.int .i64 n_1]) (v := .int .i64 n_1) 0 Try.pu3 Try.pi3 rfl rfl rfl rfl (by decide) rfl) ?_)
    refine JL_op rfl (op_read rfl rfl (r_lss rfl rfl) ?_)
    refine JL_op rfl (op_read rfl rfl (r_move (v := .bool (decide (n_1 < 1))) rfl) ?_)
    refine J_forkL (e := (decide (n_1 < 1))) 3 [(1, v_2), (2, .pointer (some (Addr.add c_4 0))), (14, .bool (decide (n_1 < 1) || decide (96 < n_1)))] (fun hc_7 hk => ?_) (fun hc_7 hk => ?_) (fun b => ?_)
    · refine JL_skip rfl rfl hc_7 rfl rfl ?_
      refine JL_skip rfl rfl hc_7 rfl rfl ?_
      refine JL_op rfl (op_read rfl rfl (r_pick_t (v := .bool true) rfl hc_7 rfl) ?_)
      refine J_prune [(1, v_2), (2, .pointer (some (Addr.add c_4 0))), (14, .bool (decide (n_1 < 1) || decide (96 < n_1)))] ⟨rfl, rfl, (by show Value.bool _ = Value.bool _; rw [hc_7]; rfl), trivial⟩ hk
    · refine JL_opg rfl rfl hc_7 (op_read rfl rfl (r_load_priv (a := c_4) (off := 0) (cs' := [.int .i64 n_1]) (v := .int .i64 n_1) 0 Try.pu3 Try.pi3 rfl rfl rfl rfl (by decide) rfl) ?_)
      refine JL_opg rfl rfl hc_7 (op_read rfl rfl (r_gtr rfl rfl) ?_)
      refine JL_op rfl (op_read rfl rfl (r_pick_f (v := .bool (decide (96 < n_1))) rfl hc_7 rfl) ?_)
      refine J_prune [(1, v_2), (2, .pointer (some (Addr.add c_4 0))), (14, .bool (decide (n_1 < 1) || decide (96 < n_1)))] ⟨rfl, rfl, (by show Value.bool _ = Value.bool _; rw [hc_7]; rfl), trivial⟩ hk
    · refine JL_nil ?_
      refine J_then ?_
      refine J_cond rfl (fun hc_8 => ?_) (fun hc_8 => ?_)
      · refine J_seq ?_
        refine J_region ?_
        refine JL_op rfl (op_read rfl rfl (r_assign (v := .int .i64 2) rfl) ?_)
        refine JL_nil ?_
        refine J_then ?_
        refine J_ret ?_
        refine J_then_ret ?_
        exact J_returnV1 (PV' := [.row (t_Gdiff_Leq).o 39 v_2 x_3]) rfl rv_tmp [1] (by decide) rfl ⟨rfl, rfl, rfl⟩
      · refine J_skip ?_
        refine J_then ?_
        refine J_seq ?_
        refine J_region ?_
        refine JL_op rfl (op_read rfl rfl (r_makeFunc (fs := []) (cs := [.pointer (some (Addr.add c_4 0))]) rfl rfl) ?_)
        refine JL_op rfl (op_read rfl rfl (r_assign (v := .func (.func 70) #[] #[.pointer (some (Addr.add c_4 0))]) rfl) ?_)
        refine JL_nil ?_
        refine J_then ?_
        refine J_seq ?_
        refine J_seq ?_
        refine J_region ?_
        refine JL_op rfl (op_read rfl rfl (r_move (v := v_2) rfl) ?_)
        refine JL_op rfl (op_read rfl rfl (r_move (v := .func (.func 70) #[] #[.pointer (some (Addr.add c_4 0))]) rfl) ?_)
        refine J_front [1] ?_
        refine JL_op rfl (op_callN (f := 62) (fn := Try.f62) (args := [v_2, .func (.func 70) #[] #[.pointer (some (Addr.add c_4 0))]]) (post := slices_ContainsFunc_post σ v_2 x_3 c_4 n_1) 2 rfl rfl rfl Try.func62 Try.pn62 rfl rfl (fun y st hy hpre => slices_ContainsFunc_ref st σ v_2 x_3 c_4 n_1 hpre y hy) ?_)
        intro r_9 v_11 s_14 PV_12 hr_10 hle_15 hp_13
        obtain ⟨rfl, rfl, rfl⟩ := hp_13
        refine JL_nil ?_
        refine J_then ?_
        refine J_cond rfl (fun hc_16 => ?_) (fun hc_16 => ?_)
        · refine J_seq ?_
          refine J_region ?_
          refine JL_op rfl (op_read rfl rfl (r_assign (v := .int .i64 2) rfl) ?_)
          refine JL_nil ?_
          refine J_then ?_
          refine J_ret ?_
          refine J_then_ret ?_
          exact J_returnV1 (PV' := [.row (t_Gdiff_Leq).o 39 v_2 x_3]) rfl rv_tmp [0] (by decide) rfl ⟨rfl, rfl, rfl⟩
        · refine J_skip ?_
          refine J_then ?_
          refine J_seq ?_
          refine J_region ?_
          refine JL_op rfl (op_read rfl rfl (r_assign (v := .int .i64 0) rfl) ?_)
          refine JL_nil ?_
          refine J_then ?_
          refine J_ret ?_
          exact J_returnV1 (PV' := [.row (t_Gdiff_Leq).o 39 v_2 x_3]) rfl rv_tmp [0] (by decide) rfl ⟨rfl, rfl, rfl⟩
def diff_solve_post (σ0 : FS) (n_1 : Int) (v_2 : Value) (x_3 : Sl Gdiff_Leq) (r : (Sl Int) × (Sl Int)) (σ : FS) (PV : List Priv) (v : Value) : Prop :=
  ∃ (w0 : Value) (w1 : Value), σ0 = σ ∧ .tuple #[w0, w1] = v ∧ PV = [.row ((tInt .i64)).o 2 w0 r.1, .row ((tInt .i64)).o 3 w1 r.2, .row (t_Gdiff_Leq).o 39 v_2 x_3]
set_option maxRecDepth 100000 in
theorem diff_solve_ref (s : Start) (σ : FS) (n_1 : Int) (v_2 : Value) (x_3 : Sl Gdiff_Leq) (hs : Pre s σ [.row (t_Gdiff_Leq).o 39 v_2 x_3]) (r : (Sl Int) × (Sl Int)) (hr : diff_solve n_1 x_3 = some r) : Does Try.prog 65 [.int .i64 n_1, v_2] s σ (diff_solve_post σ n_1 v_2 x_3 r) := by
  unfold diff_solve at hr
  refine does_of_J Try.func65 rfl (n := 96) rfl rfl hs hr ?_
  refine J_seq ?_
  refine J_region ?_
  refine JL_op rfl (op_read rfl rfl (r_assign (v := .slice none 0 0) rfl) ?_)
  refine JL_op rfl (op_read rfl rfl (r_assign (v := .slice none 0 0) rfl) ?_)
  refine JL_nil ?_
  refine J_then ?_
  refine J_seq ?_
  refine J_region ?_
  refine JL_op rfl (op_read rfl rfl (r_move (v := .int .i64 n_1) rfl) ?_)
  refine JL_op rfl (op_make (ti := Try.t2) (T := ((tInt .i64)).o) (q := 0) rfl Try.pu24 Try.pi2 rfl rfl rfl rfl rfl (fun σ => rfl) ?_)
  intro s_6 v_4 hs_7
  refine JL_op rfl (op_read rfl rfl (r_assign (v := v_4) rfl) ?_)
  refine JL_nil ?_
  refine J_then ?_
  refine J_seq ?_
  refine J_region ?_
  refine JL_op rfl (op_read rfl rfl (r_move (v := .int .i64 n_1) rfl) ?_)
  refine JL_op rfl (op_known hs_7 (op_make (ti := Try.t3) (T := ((tInt .i64)).o) (q := 0) rfl Try.pu100 Try.pi3 rfl rfl rfl rfl rfl (fun σ => rfl) ?_))
  intro z_10 v_8 hz_11
  obtain rfl := Option.some.inj (hs_7.symm.trans hz_11)
  refine JL_op rfl (op_read rfl rfl (r_assign (v := v_8) rfl) ?_)
  refine JL_nil ?_
  refine J_then ?_
  refine J_seq ?_
  refine J_region ?_
  refine JL_op rfl (op_read rfl rfl (r_assign (v := .int .i64 (-1)) rfl) ?_)
  refine JL_nil ?_
  refine J_then ?_
  refine J_seq ?_
  refine J_seq ?_
  refine J_region ?_
  refine JL_op rfl (op_read rfl rfl (r_move (v := .int .i64 n_1) rfl) ?_)
  refine JL_op rfl (op_read rfl rfl (r_move (v := .int .i64 0) rfl) ?_)
  refine JL_nil ?_
  refine J_then ?_
  refine J_block ?_
  refine J_front [2, 1] ?_
  refine J_loop (fun (y : (Sl Int) × (Sl Int) × Int × Int) L τ PV => σ = τ ∧ L = [(0, .int .i64 n_1), (1, v_2), (6, v_4), (7, v_8), (8, .int .i64 y.2.2.1), (20, .int .i64 n_1), (21, .int .i64 y.2.2.2)] ∧ PV = [.row (t_Gdiff_Leq).o 39 v_2 x_3, .row ((tInt .i64)).o 2 v_4 y.1, .row ((tInt .i64)).o 3 v_8 y.2.1]) (fun (y : W2 ((Sl Int) × Int) ((Sl Int))) e L τ PV => match y, e with | .a y, e => e = .exit 0 ∧ (σ = τ ∧ L = [(0, .int .i64 n_1), (1, v_2), (7, v_8), (8, .int .i64 y.2)] ∧ PV = [.row (t_Gdiff_Leq).o 39 v_2 x_3, .row ((tInt .i64)).o 3 v_8 y.1]) | .b y, e => e = .ret ∧ (σ = τ ∧ L = [(4, v_4), (5, .slice none 0 0)] ∧ PV = [.row ((tInt .i64)).o 2 v_4 y, .row (t_Gdiff_Leq).o 39 v_2 x_3])) _ ?_ ⟨rfl, rfl, rfl⟩ ?_ ?_
  · exact ⟨rfl, rfl, rfl, rfl, rfl, rfl, rfl, trivial⟩
  · rintro x_12 _ b s_15 _ ⟨rfl, rfl, rfl⟩
    unfold diff_solve_L2
    refine J_seq ?_
    refine J_region ?_
    refine JL_op rfl (op_read rfl rfl (r_lss rfl rfl) ?_)
    refine JL_nil ?_
    refine J_then ?_
    refine J_seq ?_
    refine J_cond rfl (fun hc_16 => ?_) (fun hc_16 => ?_)
    · refine J_skip ?_
      refine J_then ?_
      refine J_seq ?_
      refine J_block ?_
      refine J_seq ?_
      refine J_region ?_
      refine JL_op rfl (op_read rfl rfl (r_assign (v := .int .i64 (-1)) rfl) ?_)
      refine JL_nil ?_
      refine J_then ?_
      refine J_seq ?_
      refine J_seq ?_
      refine J_region ?_
      refine JL_op rfl (op_read rfl rfl (r_move (v := v_2) rfl) ?_)
      refine JL_op rfl (op_read rfl rfl (r_len_row (v := v_2) 0 Try.pu22 rfl rfl) ?_)
      refine JL_op rfl (op_read rfl rfl (r_move (v := .int .i64 0) rfl) ?_)
      refine JL_nil ?_
      refine J_then ?_
      refine J_block ?_
      refine J_loop (fun (y : (Sl Int) × (Sl Int) × Int × Int) L τ PV => σ = τ ∧ L = [(0, .int .i64 n_1), (1, v_2), (6, v_4), (7, v_8), (8, .int .i64 y.2.2.1), (20, .int .i64 n_1), (21, .int .i64 x_12.2.2.2), (23, v_2), (24, .int .i64 x_3.len), (25, .int .i64 y.2.2.2)] ∧ PV = [.row (t_Gdiff_Leq).o 39 v_2 x_3, .row ((tInt .i64)).o 2 v_4 y.1, .row ((tInt .i64)).o 3 v_8 y.2.1]) (fun (y : (Sl Int) × (Sl Int) × Int) e L τ PV => e = .exit 2 ∧ (σ = τ ∧ L = [(0, .int .i64 n_1), (1, v_2), (6, v_4), (7, v_8), (8, .int .i64 y.2.2), (20, .int .i64 n_1), (21, .int .i64 x_12.2.2.2)] ∧ PV = [.row (t_Gdiff_Leq).o 39 v_2 x_3, .row ((tInt .i64)).o 2 v_4 y.1, .row ((tInt .i64)).o 3 v_8 y.2.1])) _ ?_ ⟨rfl, rfl, rfl⟩ ?_ ?_
      · exact ⟨rfl, rfl, rfl, rfl, rfl, rfl, rfl, rfl, rfl, rfl, trivial⟩
      · rintro x_17 _ b s_20 _ ⟨rfl, rfl, rfl⟩
        unfold diff_solve_L1
        refine J_seq ?_
        refine J_region ?_
        refine JL_op rfl (op_read rfl rfl (r_lss rfl rfl) ?_)
        refine JL_nil ?_
        refine J_then ?_
        refine J_seq ?_
        refine J_cond rfl (fun hc_21 => ?_) (fun hc_21 => ?_)
        · refine J_skip ?_
          refine J_then ?_
          refine J_seq ?_
          refine J_cut (fun (y : (Sl Int) × (Sl Int) × Int) e L τ PV => e = .normal ∧ (σ = τ ∧ L = [(0, .int .i64 n_1), (1, v_2), (6, v_4), (7, v_8), (8, .int .i64 y.2.2), (20, .int .i64 n_1), (21, .int .i64 x_12.2.2.2), (23, v_2), (24, .int .i64 x_3.len), (25, .int .i64 x_17.2.2.2)] ∧ PV = [.row (t_Gdiff_Leq).o 39 v_2 x_3, .row ((tInt .i64)).o 2 v_4 y.1, .row ((tInt .i64)).o 3 v_8 y.2.1])) ?_ ?_
          · refine J_block ?_
            refine J_seq ?_
            refine J_region ?_
            refine JL_op rfl (op_read rfl rfl (r_move (v := .int .i64 x_17.2.2.2) rfl) ?_)
            refine J_bind fun x_22 hx_23 => ?_
            refine JL_op rfl (op_read rfl rfl (r_index_row (v := v_2) (T := (t_Gdiff_Leq).o) (q := x_22) 0 Try.pu22 Try.pi39 rfl rfl rfl rfl hx_23) ?_)
            refine JL_op rfl (op_reads rfl rfl (l_elem_orow (v := v_2) (T := (t_Gdiff_Leq).o) (Tf := t_Gdiff_Leq) (q := x_22) (i := x_17.2.2.2) (off := 0) 0 Try.pu39 Try.pi39 rfl rfl rfl rfl hx_23 (OFieldAt.self (T := (t_Gdiff_Leq).o)) (by decide)) ?_)
            intro v_24 h_25
            obtain rfl := t_Gdiff_Leq_v.1 h_25
            refine JL_op rfl (op_alloc (cs := [.int .i64 0, .int .i64 0, .int .i64 0]) rfl Try.pi39 rfl rfl ?_)
            intro c_26
            refine JL_op rfl (op_read rfl rfl (r_assign (v := .int .i64 x_17.2.2.2) rfl) ?_)
            refine JL_op rfl (op_store_priv (a := c_26) (off := 0) (vs := [.int .i64 x_22.X, .int .i64 x_22.Y, .int .i64 x_22.C]) (cs' := [.int .i64 x_22.X, .int .i64 x_22.Y, .int .i64 x_22.C]) (PV' := [.cell c_26 [.int .i64 x_22.X, .int .i64 x_22.Y, .int .i64 x_22.C], .row (t_Gdiff_Leq).o 39 v_2 x_3, .row ((tInt .i64)).o 2 v_4 x_17.1, .row ((tInt .i64)).o 3 v_8 x_17.2.1]) 0 Try.pi39 rfl rfl rfl ⟨rfl, rfl, rfl, trivial⟩ rfl rfl rfl rfl rfl ?_)
            refine JL_nil ?_
            refine J_then ?_
            refine J_seq ?_
            refine J_region_any 9 [.cell c_26 [.int .i64 x_22.X, .int .i64 x_22.Y, .int .i64 x_22.C], .row (t_Gdiff_Leq).o 39 v_2 x_3, .row ((tInt .i64)).o 2 v_4 x_17.1, .row ((tInt .i64)).o 3 v_8 x_17.2.1] Try.mixed (by kernel_rfl) fun hns => ?_
            refine JA_takep 0 rfl hns (by kernel_rfl) (by kernel_rfl) rfl (.inr (by exact HeldOK.same [0, 1, 2, 3] (by decide) rfl)) rfl rfl rfl (r_move (v := v_4) rfl) ?_
            refine JA_takep 1 rfl hns (by kernel_rfl) (by kernel_rfl) rfl (.inr (by exact HeldOK.same [0, 1, 2, 3] (by decide) rfl)) rfl rfl rfl (r_fieldAddr (r := Addr.add c_26 1) Try.pu39 (f := Try.pf39.getD 1 default) rfl Try.pi3 (by decide) rfl (Addr.add_add _ _ _)) ?_
            refine JA_take 2 rfl hns (by kernel_rfl) (by kernel_rfl) (by kernel_rfl) rfl (by kernel_rfl) (by exact HeldOK.same [0, 1, 2, 3] (by decide) rfl) rfl rfl rfl (r_load_priv (a := c_26) (off := 1) (cs' := [.int .i64 x_22.Y]) (v := .int .i64 x_22.Y) 0 Try.pu3 Try.pi3 rfl rfl rfl rfl (by decide) rfl) ?_
            refine J_bind fun x_29 hx_30 => ?_
            refine JA_take 3 rfl hns (by kernel_rfl) (by kernel_rfl) (by kernel_rfl) rfl (by kernel_rfl) (by exact HeldOK.same [0, 1, 2, 3] (by decide) rfl) rfl rfl rfl (r_index_row (v := v_4) (T := ((tInt .i64)).o) (q := x_29) 2 Try.pu24 Try.pi2 rfl rfl rfl rfl hx_30) ?_
            refine JA_takes 4 rfl hns (by kernel_rfl) (by kernel_rfl) (by kernel_rfl) rfl (by kernel_rfl) (by exact HeldOK.same [0, 1, 2, 3] (by decide) rfl) rfl rfl rfl (l_elem_orow (v := v_4) (T := ((tInt .i64)).o) (Tf := (tInt .i64)) (q := x_29) (i := x_22.Y) (off := 0) 2 Try.pu2 Try.pi2 rfl rfl rfl rfl hx_30 (OFieldAt.self (T := ((tInt .i64)).o)) (by decide)) ?_
            intro v_31 h_32
            obtain rfl := tInt_v.1 h_32
            refine JA_takep 5 rfl hns (by kernel_rfl) (by kernel_rfl) rfl (.inr (by exact HeldOK.same [0, 1, 2, 3] (by decide) rfl)) rfl rfl rfl (r_fieldAddr (r := Addr.add c_26 2) Try.pu39 (f := Try.pf39.getD 2 default) rfl Try.pi2 (by decide) rfl (Addr.add_add _ _ _)) ?_
            refine JA_take 6 rfl hns (by kernel_rfl) (by kernel_rfl) (by kernel_rfl) rfl (by kernel_rfl) (by exact HeldOK.same [0, 1, 2, 3] (by decide) rfl) rfl rfl rfl (r_load_priv (a := c_26) (off := 2) (cs' := [.int .i64 x_22.C]) (v := .int .i64 x_22.C) 0 Try.pu2 Try.pi2 rfl rfl rfl rfl (by decide) rfl) ?_
            refine JA_takep 7 rfl hns (by kernel_rfl) (by kernel_rfl) rfl (.inr (by exact HeldOK.same [0, 1, 2, 3] (by decide) rfl)) rfl rfl rfl (r_add rfl rfl) ?_
            refine JA_takep 8 rfl hns (by kernel_rfl) (by kernel_rfl) rfl (.inr (by exact HeldOK.same [0, 1, 2, 3] (by decide) rfl)) rfl rfl rfl (r_assign (v := .int .i64 (IntKind.i64.wrap (x_29 + x_22.C))) rfl) ?_
            refine JA_done (by kernel_rfl) ?_
            refine J_then ?_
            refine J_seq ?_
            refine J_region ?_
            refine JL_op rfl (op_read rfl rfl (r_move (v := .int .i64 (IntKind.i64.wrap (x_29 + x_22.C))) rfl) ?_)
            refine JL_op rfl (op_read rfl rfl (r_move (v := v_4) rfl) ?_)
            refine JL_op rfl (op_read rfl rfl (r_fieldAddr (r := Addr.add c_26 0) Try.pu39 (f := Try.pf39.getD 0 default) rfl Try.pi3 (by decide) rfl (Addr.add_add _ _ _)) ?_)
            refine JL_op rfl (op_read rfl rfl (r_load_priv (a := c_26) (off := 0) (cs' := [.int .i64 x_22.X]) (v := .int .i64 x_22.X) 0 Try.pu3 Try.pi3 rfl rfl rfl rfl (by decide) rfl) ?_)
            refine J_bind fun x_33 hx_34 => ?_
            refine JL_op rfl (op_read rfl rfl (r_index_row (v := v_4) (T := ((tInt .i64)).o) (q := x_33) 2 Try.pu24 Try.pi2 rfl rfl rfl rfl hx_34) ?_)
            refine JL_op rfl (op_reads rfl rfl (l_elem_orow (v := v_4) (T := ((tInt .i64)).o) (Tf := (tInt .i64)) (q := x_33) (i := x_22.X) (off := 0) 2 Try.pu2 Try.pi2 rfl rfl rfl rfl hx_34 (OFieldAt.self (T := ((tInt .i64)).o)) (by decide)) ?_)
            intro v_35 h_36
            obtain rfl := tInt_v.1 h_36
            refine JL_op rfl (op_read rfl rfl (r_lss rfl rfl) ?_)
            refine JL_nil ?_
            refine J_then ?_
            refine J_cut (fun (y : (Sl Int) × (Sl Int) × Int) e L τ PV => e = .normal ∧ (σ = τ ∧ L = [(0, .int .i64 n_1), (1, v_2), (6, v_4), (7, v_8), (8, .int .i64 y.2.2), (20, .int .i64 n_1), (21, .int .i64 x_12.2.2.2), (23, v_2), (24, .int .i64 x_3.len), (25, .int .i64 x_17.2.2.2)] ∧ PV = [.row (t_Gdiff_Leq).o 39 v_2 x_3, .row ((tInt .i64)).o 2 v_4 y.1, .row ((tInt .i64)).o 3 v_8 y.2.1])) ?_ ?_
            · refine J_cond rfl (fun hc_37 => ?_) (fun hc_37 => ?_)
              · refine J_region_any 10 [.cell c_26 [.int .i64 x_22.X, .int .i64 x_22.Y, .int .i64 x_22.C], .row (t_Gdiff_Leq).o 39 v_2 x_3, .row ((tInt .i64)).o 2 v_4 x_17.1, .row ((tInt .i64)).o 3 v_8 x_17.2.1] Try.mixed (by kernel_rfl) fun hns => ?_
                refine JA_takep 0 rfl hns (by kernel_rfl) (by kernel_rfl) rfl (.inr (by exact HeldOK.same [0, 1, 2, 3] (by decide) rfl)) rfl rfl rfl (r_move (v := v_4) rfl) ?_
                refine JA_takep 1 rfl hns (by kernel_rfl) (by kernel_rfl) rfl (.inr (by exact HeldOK.same [0, 1, 2, 3] (by decide) rfl)) rfl rfl rfl (r_fieldAddr (r := Addr.add c_26 0) Try.pu39 (f := Try.pf39.getD 0 default) rfl Try.pi3 (by decide) rfl (Addr.add_add _ _ _)) ?_
                refine JA_take 2 rfl hns (by kernel_rfl) (by kernel_rfl) (by kernel_rfl) rfl (by kernel_rfl) (by exact HeldOK.same [0, 1, 2, 3] (by decide) rfl) rfl rfl rfl (r_load_priv (a := c_26) (off := 0) (cs' := [.int .i64 x_22.X]) (v := .int .i64 x_22.X) 0 Try.pu3 Try.pi3 rfl rfl rfl rfl (by decide) rfl) ?_
                refine JA_takep 3 rfl hns (by kernel_rfl) (by kernel_rfl) rfl (.inr (by exact HeldOK.same [0, 1, 2, 3] (by decide) rfl)) rfl rfl rfl (r_move (v := v_8) rfl) ?_
                refine JA_takep 4 rfl hns (by kernel_rfl) (by kernel_rfl) rfl (.inr (by exact HeldOK.same [0, 1, 2, 3] (by decide) rfl)) rfl rfl rfl (r_fieldAddr (r := Addr.add c_26 0) Try.pu39 (f := Try.pf39.getD 0 default) rfl Try.pi3 (by decide) rfl (Addr.add_add _ _ _)) ?_
                refine JA_takep 6 rfl hns (by kernel_rfl) (by kernel_rfl) rfl (.inr (by exact HeldOK.same [0, 1, 2, 3] (by decide) rfl)) rfl rfl rfl (r_move (v := .int .i64 (IntKind.i64.wrap (x_29 + x_22.C))) rfl) ?_
                refine JA_takep 7 rfl hns (by kernel_rfl) (by kernel_rfl) rfl (.inr (by exact HeldOK.same [0, 1, 2, 3] (by decide) rfl)) rfl rfl rfl (r_move (v := .int .i64 x_17.2.2.2) rfl) ?_
                refine JA_takep 8 rfl hns (by kernel_rfl) (by kernel_rfl) rfl (.inr (by exact HeldOK.same [0, 1, 2, 3] (by decide) rfl)) rfl rfl rfl (r_move (v := .int .i64 x_17.2.2.2) rfl) ?_
                refine JA_take 9 rfl hns (by kernel_rfl) (by kernel_rfl) (by kernel_rfl) rfl (by kernel_rfl) (by exact HeldOK.same [0, 1, 2, 3] (by decide) rfl) rfl rfl rfl (r_index_row (v := v_4) (T := ((tInt .i64)).o) (q := x_33) 2 Try.pu24 Try.pi2 rfl rfl rfl rfl hx_34) ?_
                refine J_bind fun k_39 hk_40 => ?_
                refine J_bind fun k_41 hk_42 => ?_
                refine J_bind fun k_43 hk_44 => ?_
                refine J_meetD (fun y => diff_solve_K1 k_39 k_43 x_17 y) 0 #[true, true, true, true, true, true, true, true, true, true, true, true, true, true] (fun (y : Unit) L τ PV => σ = τ ∧ L = [(0, .int .i64 n_1), (1, v_2), (6, v_4), (7, v_8), (8, .int .i64 x_17.2.2.2), (20, .int .i64 n_1), (21, .int .i64 x_12.2.2.2), (23, v_2), (24, .int .i64 x_3.len), (25, .int .i64 x_17.2.2.2)] ∧ PV = [.row (t_Gdiff_Leq).o 39 v_2 x_3, .row ((tInt .i64)).o 2 v_4 k_39, .row ((tInt .i64)).o 3 v_8 k_43]) (fun hk => ?_) ?_
                · refine JA_two (i := 5) (j := 10) (by kernel_rfl) ?_ ?_
                  · refine J1_op rfl rfl (op_read rfl rfl (r_load_priv (a := c_26) (off := 0) (cs' := [.int .i64 x_22.X]) (v := .int .i64 x_22.X) 0 Try.pu3 Try.pi3 rfl rfl rfl rfl (by decide) rfl) ?_)
                    refine ⟨.inr (by exact HeldOK.same [0, 1, 2, 3] (by decide) rfl), ?_⟩
                    refine J_front [2] ?_
                    refine JA_op (i := 10) (by kernel_rfl) rfl rfl (op_known hk_40 (op_store_row (v := v_4) (u := (.int .i64 (IntKind.i64.wrap (x_29 + x_22.C)))) (T := ((tInt .i64)).o) (q := (IntKind.i64.wrap (x_29 + x_22.C))) (i := x_22.X) [] [.cell c_26 [.int .i64 x_22.X, .int .i64 x_22.Y, .int .i64 x_22.C], .row (t_Gdiff_Leq).o 39 v_2 x_3, .row ((tInt .i64)).o 3 v_8 x_17.2.1] Try.pi2 rfl rfl rfl rfl (fix_vrel (T := ((tInt .i64)).o) rfl (tInt_v.2 rfl)) ?_))
                    intro z_51 hz_52
                    obtain rfl := Option.some.inj (hk_40.symm.trans hz_52)
                    refine ⟨.inl (.inl rfl), ?_⟩
                    refine JA_op (i := 11) (by kernel_rfl) rfl rfl (op_read rfl rfl (r_index_row (v := v_8) (T := ((tInt .i64)).o) (q := k_41) 3 Try.pu100 Try.pi3 rfl rfl rfl rfl hk_42) ?_)
                    refine ⟨.inl (.inr rfl), ?_⟩
                    refine J_front [3] ?_
                    refine JA_op (i := 12) (by kernel_rfl) rfl rfl (op_known hk_44 (op_store_row (v := v_8) (u := (.int .i64 x_17.2.2.2)) (T := ((tInt .i64)).o) (q := x_17.2.2.2) (i := x_22.X) [] [.row ((tInt .i64)).o 2 v_4 k_39, .cell c_26 [.int .i64 x_22.X, .int .i64 x_22.Y, .int .i64 x_22.C], .row (t_Gdiff_Leq).o 39 v_2 x_3] Try.pi3 rfl rfl rfl rfl (fix_vrel (T := ((tInt .i64)).o) rfl (tInt_v.2 rfl)) ?_))
                    intro z_54 hz_55
                    obtain rfl := Option.some.inj (hk_44.symm.trans hz_55)
                    refine ⟨.inl (.inr rfl), ?_⟩
                    refine JA_takep 13 rfl hns (by kernel_rfl) (by kernel_rfl) rfl (.inl rfl) rfl rfl rfl (r_assign (v := .int .i64 x_17.2.2.2) rfl) ?_
                    refine J_keep [true, true, false, true] ?_
                    refine J_front [2, 1] ?_
                    refine J_prune _ ?_ fun b => hk () _ b _ _ ⟨rfl, rfl, rfl⟩
                    exact ⟨rfl, rfl, rfl, rfl, rfl, rfl, rfl, rfl, rfl, rfl, trivial⟩
                  · refine J_front [2] ?_
                    refine J1_op rfl rfl (op_known hk_40 (op_store_row (v := v_4) (u := (.int .i64 (IntKind.i64.wrap (x_29 + x_22.C)))) (T := ((tInt .i64)).o) (q := (IntKind.i64.wrap (x_29 + x_22.C))) (i := x_22.X) [] [.cell c_26 [.int .i64 x_22.X, .int .i64 x_22.Y, .int .i64 x_22.C], .row (t_Gdiff_Leq).o 39 v_2 x_3, .row ((tInt .i64)).o 3 v_8 x_17.2.1] Try.pi2 rfl rfl rfl rfl (fix_vrel (T := ((tInt .i64)).o) rfl (tInt_v.2 rfl)) ?_))
                    intro z_57 hz_58
                    obtain rfl := Option.some.inj (hk_40.symm.trans hz_58)
                    refine ⟨.inl (.inl rfl), ?_⟩
                    refine JA_op (i := 5) (by kernel_rfl) rfl rfl (op_read rfl rfl (r_load_priv (a := c_26) (off := 0) (cs' := [.int .i64 x_22.X]) (v := .int .i64 x_22.X) 1 Try.pu3 Try.pi3 rfl rfl rfl rfl (by decide) rfl) ?_)
                    refine ⟨.inl (.inr rfl), ?_⟩
                    refine JA_op (i := 11) (by kernel_rfl) rfl rfl (op_read rfl rfl (r_index_row (v := v_8) (T := ((tInt .i64)).o) (q := k_41) 3 Try.pu100 Try.pi3 rfl rfl rfl rfl hk_42) ?_)
                    refine ⟨.inl (.inr rfl), ?_⟩
                    refine J_front [3] ?_
                    refine JA_op (i := 12) (by kernel_rfl) rfl rfl (op_known hk_44 (op_store_row (v := v_8) (u := (.int .i64 x_17.2.2.2)) (T := ((tInt .i64)).o) (q := x_17.2.2.2) (i := x_22.X) [] [.row ((tInt .i64)).o 2 v_4 k_39, .cell c_26 [.int .i64 x_22.X, .int .i64 x_22.Y, .int .i64 x_22.C], .row (t_Gdiff_Leq).o 39 v_2 x_3] Try.pi3 rfl rfl rfl rfl (fix_vrel (T := ((tInt .i64)).o) rfl (tInt_v.2 rfl)) ?_))
                    intro z_60 hz_61
                    obtain rfl := Option.some.inj (hk_44.symm.trans hz_61)
                    refine ⟨.inl (.inr rfl), ?_⟩
                    refine JA_takep 13 rfl hns (by kernel_rfl) (by kernel_rfl) rfl (.inl rfl) rfl rfl rfl (r_assign (v := .int .i64 x_17.2.2.2) rfl) ?_
                    refine J_keep [true, true, false, true] ?_
                    refine J_front [2, 1] ?_
                    refine J_prune _ ?_ fun b => hk () _ b _ _ ⟨rfl, rfl, rfl⟩
                    exact ⟨rfl, rfl, rfl, rfl, rfl, rfl, rfl, rfl, rfl, rfl, trivial⟩
                · rintro y_45 _ b s_48 _ ⟨rfl, rfl, rfl⟩
                  unfold diff_solve_K1
                  refine JA_done (by kernel_rfl) ?_
                  refine J_cut_end _ ?_ ⟨rfl, rfl, rfl, rfl⟩ trivial
                  exact ⟨rfl, rfl, rfl, rfl, rfl, rfl, rfl, rfl, rfl, rfl, trivial⟩
              · refine J_skip ?_
                refine J_keep [false, true, true, true] ?_
                refine J_cut_end _ ?_ ⟨rfl, rfl, rfl, rfl⟩ trivial
                exact ⟨rfl, rfl, rfl, rfl, rfl, rfl, rfl, rfl, rfl, rfl, trivial⟩
            · rintro y_62 _ _ b s_65 _ ⟨rfl, ⟨rfl, rfl, rfl⟩⟩
              refine J_in_normal ?_
              refine J_cut_end _ ?_ ⟨rfl, rfl, rfl, rfl⟩ trivial
              exact ⟨rfl, rfl, rfl, rfl, rfl, rfl, rfl, rfl, rfl, rfl, trivial⟩
          · rintro y_66 _ _ b s_69 _ ⟨rfl, ⟨rfl, rfl, rfl⟩⟩
            refine J_then ?_
            refine J_region ?_
            refine JL_op rfl (op_read rfl rfl (r_add rfl rfl) ?_)
            refine JL_op rfl (op_read rfl rfl (r_move (v := .int .i64 (IntKind.i64.wrap (x_17.2.2.2 + 1))) rfl) ?_)
            refine JL_nil ?_
            refine J_next _ ?_ ⟨rfl, rfl, rfl⟩
            exact ⟨rfl, rfl, rfl, rfl, rfl, rfl, rfl, rfl, rfl, rfl, trivial⟩
        · refine J_exit ?_
          refine J_then_exit ?_
          refine J_done trivial _ ?_ ⟨rfl, rfl, rfl, rfl⟩
          exact ⟨rfl, rfl, rfl, rfl, rfl, rfl, rfl, trivial⟩
      · rintro y_70 _ _ b s_73 _ ⟨rfl, ⟨rfl, rfl, rfl⟩⟩
        refine J_in_exit ?_
        refine J_then ?_
        refine J_seq ?_
        refine J_region ?_
        refine JL_op rfl (op_read rfl rfl (r_move (v := .int .i64 y_70.2.2) rfl) ?_)
        refine JL_op rfl (op_read rfl rfl (r_lss rfl rfl) ?_)
        refine JL_nil ?_
        refine J_then ?_
        refine J_cond rfl (fun hc_74 => ?_) (fun hc_74 => ?_)
        · refine J_seq ?_
          refine J_region ?_
          refine JL_op rfl (op_read rfl rfl (r_move (v := v_4) rfl) ?_)
          refine JL_op rfl (op_read rfl rfl (r_assign (v := v_4) rfl) ?_)
          refine JL_op rfl (op_read rfl rfl (r_assign (v := .slice none 0 0) rfl) ?_)
          refine JL_nil ?_
          refine J_then ?_
          refine J_ret ?_
          refine J_in_ret ?_
          refine J_then_ret ?_
          refine J_keep [true, true, false] ?_
          refine J_front [1] ?_
          refine J_done trivial _ ?_ ⟨rfl, rfl, rfl, rfl⟩
          exact ⟨rfl, rfl, trivial⟩
        · refine J_skip ?_
          refine J_in_normal ?_
          refine J_then ?_
          refine J_region ?_
          refine JL_op rfl (op_read rfl rfl (r_add rfl rfl) ?_)
          refine JL_op rfl (op_read rfl rfl (r_move (v := .int .i64 (IntKind.i64.wrap (x_12.2.2.2 + 1))) rfl) ?_)
          refine JL_nil ?_
          refine J_next _ ?_ ⟨rfl, rfl, rfl⟩
          exact ⟨rfl, rfl, rfl, rfl, rfl, rfl, rfl, trivial⟩
    · refine J_exit ?_
      refine J_then_exit ?_
      refine J_keep [true, false, true] ?_
      refine J_done trivial _ ?_ ⟨rfl, rfl, rfl, rfl⟩
      exact ⟨rfl, rfl, rfl, rfl, trivial⟩
  · rintro (y_76 | y_129) e L b τ PV ht
    · obtain ⟨rfl, ht⟩ := ht
      revert ht; revert PV; revert τ; revert b; revert L
      rintro _ b s_79 _ ⟨rfl, rfl, rfl⟩
      refine J_in_exit ?_
      refine J_then ?_
      refine J_seq ?_
      refine J_region ?_
      refine JL_op rfl (op_read rfl rfl (r_move (v := v_2) rfl) ?_)
      refine JL_op rfl (op_read rfl rfl (r_move (v := .int .i64 y_76.2) rfl) ?_)
      refine J_bind fun x_80 hx_81 => ?_
      refine JL_op rfl (op_read rfl rfl (r_index_row (v := v_2) (T := (t_Gdiff_Leq).o) (q := x_80) 0 Try.pu22 Try.pi39 rfl rfl rfl rfl hx_81) ?_)
      refine JL_op rfl (op_read rfl rfl (r_fieldAddr (r := elemAddr v_2 ((y_76.2).toNat * ((t_Gdiff_Leq).o).size + 0)) Try.pu39 (f := Try.pf39.getD 0 default) rfl Try.pi3 (by decide) rfl (elemAddr_add _ _ _)) ?_)
      refine JL_op rfl (op_reads rfl rfl (l_elem_orow (v := v_2) (T := (t_Gdiff_Leq).o) (Tf := (tInt .i64)) (q := x_80) (i := y_76.2) (off := 0) 0 Try.pu3 Try.pi3 rfl rfl rfl rfl hx_81 (OFieldAt.of f_Gdiff_Leq_X) (by decide)) ?_)
      intro v_82 h_83
      obtain rfl := tInt_v.1 h_83
      refine JL_op rfl (op_read rfl rfl (r_assign (v := .int .i64 x_80.X) rfl) ?_)
      refine JL_nil ?_
      refine J_then ?_
      refine J_seq ?_
      refine J_seq ?_
      refine J_region ?_
      refine JL_op rfl (op_read rfl rfl (r_move (v := .int .i64 n_1) rfl) ?_)
      refine JL_op rfl (op_read rfl rfl (r_move (v := .int .i64 0) rfl) ?_)
      refine JL_nil ?_
      refine J_then ?_
      refine J_block ?_
      refine J_loop (fun (y : Int × Int) L τ PV => σ = τ ∧ L = [(1, v_2), (7, v_8), (12, .int .i64 y.1), (66, .int .i64 n_1), (67, .int .i64 y.2)] ∧ PV = [.row (t_Gdiff_Leq).o 39 v_2 x_3, .row ((tInt .i64)).o 3 v_8 y_76.1]) (fun (y : Int) e L τ PV => e = .exit 4 ∧ (σ = τ ∧ L = [(1, v_2), (7, v_8), (12, .int .i64 y)] ∧ PV = [.row (t_Gdiff_Leq).o 39 v_2 x_3, .row ((tInt .i64)).o 3 v_8 y_76.1])) _ ?_ ⟨rfl, rfl, rfl⟩ ?_ ?_
      · exact ⟨rfl, rfl, rfl, rfl, rfl, trivial⟩
      · rintro x_84 _ b s_87 _ ⟨rfl, rfl, rfl⟩
        unfold diff_solve_L3
        refine J_seq ?_
        refine J_region ?_
        refine JL_op rfl (op_read rfl rfl (r_lss rfl rfl) ?_)
        refine JL_nil ?_
        refine J_then ?_
        refine J_seq ?_
        refine J_cond rfl (fun hc_88 => ?_) (fun hc_88 => ?_)
        · refine J_skip ?_
          refine J_then ?_
          refine J_seq ?_
          refine J_block ?_
          refine J_region ?_
          refine JL_op rfl (op_read rfl rfl (r_move (v := v_2) rfl) ?_)
          refine JL_op rfl (op_read rfl rfl (r_move (v := v_8) rfl) ?_)
          refine JL_op rfl (op_read rfl rfl (r_move (v := .int .i64 x_84.1) rfl) ?_)
          refine J_bind fun x_89 hx_90 => ?_
          refine JL_op rfl (op_read rfl rfl (r_index_row (v := v_8) (T := ((tInt .i64)).o) (q := x_89) 1 Try.pu100 Try.pi3 rfl rfl rfl rfl hx_90) ?_)
          refine JL_op rfl (op_reads rfl rfl (l_elem_orow (v := v_8) (T := ((tInt .i64)).o) (Tf := (tInt .i64)) (q := x_89) (i := x_84.1) (off := 0) 1 Try.pu3 Try.pi3 rfl rfl rfl rfl hx_90 (OFieldAt.self (T := ((tInt .i64)).o)) (by decide)) ?_)
          intro v_91 h_92
          obtain rfl := tInt_v.1 h_92
          refine J_bind fun x_93 hx_94 => ?_
          refine JL_op rfl (op_read rfl rfl (r_index_row (v := v_2) (T := (t_Gdiff_Leq).o) (q := x_93) 0 Try.pu22 Try.pi39 rfl rfl rfl rfl hx_94) ?_)
          refine JL_op rfl (op_read rfl rfl (r_fieldAddr (r := elemAddr v_2 ((x_89).toNat * ((t_Gdiff_Leq).o).size + 1)) Try.pu39 (f := Try.pf39.getD 1 default) rfl Try.pi3 (by decide) rfl (elemAddr_add _ _ _)) ?_)
          refine JL_op rfl (op_reads rfl rfl (l_elem_orow (v := v_2) (T := (t_Gdiff_Leq).o) (Tf := (tInt .i64)) (q := x_93) (i := x_89) (off := 1) 0 Try.pu3 Try.pi3 rfl rfl rfl rfl hx_94 (OFieldAt.of f_Gdiff_Leq_Y) (by decide)) ?_)
          intro v_95 h_96
          obtain rfl := tInt_v.1 h_96
          refine JL_op rfl (op_read rfl rfl (r_assign (v := .int .i64 x_93.Y) rfl) ?_)
          refine JL_nil ?_
          refine J_in_normal ?_
          refine J_then ?_
          refine J_region ?_
          refine JL_op rfl (op_read rfl rfl (r_add rfl rfl) ?_)
          refine JL_op rfl (op_read rfl rfl (r_move (v := .int .i64 (IntKind.i64.wrap (x_84.2 + 1))) rfl) ?_)
          refine JL_nil ?_
          refine J_next _ ?_ ⟨rfl, rfl, rfl⟩
          exact ⟨rfl, rfl, rfl, rfl, rfl, trivial⟩
        · refine J_exit ?_
          refine J_then_exit ?_
          refine J_done trivial _ ?_ ⟨rfl, rfl, rfl, rfl⟩
          exact ⟨rfl, rfl, rfl, trivial⟩
      · rintro y_97 _ _ b s_100 _ ⟨rfl, ⟨rfl, rfl, rfl⟩⟩
        refine J_in_exit ?_
        refine J_then ?_
        refine J_seq ?_
        refine J_region ?_
        refine JL_op rfl (op_read rfl rfl (r_assign (v := .slice none 0 0) rfl) ?_)
        refine JL_nil ?_
        refine J_then ?_
        refine J_seq ?_
        refine J_region ?_
        refine JL_op rfl (op_read rfl rfl (r_move (v := .int .i64 y_97) rfl) ?_)
        refine JL_op rfl (op_read rfl rfl (r_assign (v := .int .i64 y_97) rfl) ?_)
        refine JL_nil ?_
        refine J_then ?_
        refine J_block ?_
        refine J_nil_row ((tInt .i64)).o 3 ?_
        refine J_front [1, 1] ?_
        refine J_loop (fun (y : (Sl Int) × Int) L τ PV => ∃ (w0 : Value), σ = τ ∧ L = [(1, v_2), (7, v_8), (12, .int .i64 y_97), (13, w0), (14, .int .i64 y.2)] ∧ PV = [.row (t_Gdiff_Leq).o 39 v_2 x_3, .row ((tInt .i64)).o 3 v_8 y_76.1, .row ((tInt .i64)).o 3 w0 y.1]) (fun (y : (Sl Int)) e L τ PV => e = .ret ∧ (∃ (w0 : Value), σ = τ ∧ L = [(4, .slice none 0 0), (5, w0)] ∧ PV = [.row ((tInt .i64)).o 3 w0 y, .row (t_Gdiff_Leq).o 39 v_2 x_3])) _ ?_ ⟨(.slice none 0 0), rfl, rfl, rfl⟩ ?_ ?_
        · exact ⟨rfl, rfl, rfl, rfl, rfl, trivial⟩
        · rintro x_102 _ b s_107 _ ⟨v_106, rfl, rfl, rfl⟩
          unfold diff_solve_L4
          refine J_block ?_
          refine J_seq ?_
          refine J_region ?_
          refine JL_op rfl (op_read rfl rfl (r_move (v := v_8) rfl) ?_)
          refine JL_op rfl (op_read rfl rfl (r_move (v := .int .i64 x_102.2) rfl) ?_)
          refine J_bind fun x_108 hx_109 => ?_
          refine JL_op rfl (op_read rfl rfl (r_index_row (v := v_8) (T := ((tInt .i64)).o) (q := x_108) 1 Try.pu100 Try.pi3 rfl rfl rfl rfl hx_109) ?_)
          refine JL_op rfl (op_reads rfl rfl (l_elem_orow (v := v_8) (T := ((tInt .i64)).o) (Tf := (tInt .i64)) (q := x_108) (i := x_102.2) (off := 0) 1 Try.pu3 Try.pi3 rfl rfl rfl rfl hx_109 (OFieldAt.self (T := ((tInt .i64)).o)) (by decide)) ?_)
          intro v_110 h_111
          obtain rfl := tInt_v.1 h_111
          refine JL_op rfl (op_read rfl rfl (r_assign (v := .int .i64 x_108) rfl) ?_)
          refine JL_nil ?_
          refine J_then ?_
          refine J_seq ?_
          refine J_region ?_
          refine JL_op rfl (op_read rfl rfl (r_move (v := v_106) rfl) ?_)
          refine JL_op rfl (op_read rfl rfl (r_move (v := .int .i64 x_108) rfl) ?_)
          refine JL_op rfl (op_buildSlice (T := ((tInt .i64)).o) (vs := [.int .i64 x_108]) (xs := [x_108]) [] [.row (t_Gdiff_Leq).o 39 v_2 x_3, .row ((tInt .i64)).o 3 v_8 y_76.1, .row ((tInt .i64)).o 3 v_106 x_102.1] rfl Try.pu100 Try.pi3 rfl rfl rfl rfl rfl rfl (relsO_cons (A := []) (B := []) (u := .int .i64 x_108) (x := x_108) (fix_vrel (T := ((tInt .i64)).o) rfl (tInt_v.2 rfl)) relsO_nil) ?_)
          intro v_112
          refine J_front [3] ?_
          refine JL_op rfl (op_append (v := v_106) (u := v_112) (T := ((tInt .i64)).o) (ts := [x_108]) [] [.row ((tInt .i64)).o 3 v_112 (⟨[x_108], true⟩ : Sl Int), .row (t_Gdiff_Leq).o 39 v_2 x_3, .row ((tInt .i64)).o 3 v_8 y_76.1] rfl Try.pu100 Try.pi3 rfl rfl rfl rfl rfl rfl (source_copy (s := (⟨[x_108], true⟩ : Sl Int)) 1 rfl) ?_)
          intro s_115 v_114 hs_116
          refine JL_op rfl (op_read rfl rfl (r_assign (v := v_114) rfl) ?_)
          refine JL_nil ?_
          refine J_then ?_
          refine J_seq ?_
          refine J_region ?_
          refine JL_op rfl (op_read rfl rfl (r_move (v := v_2) rfl) ?_)
          refine JL_op rfl (op_read rfl rfl (r_move (v := .int .i64 x_108) rfl) ?_)
          refine J_bind fun x_117 hx_118 => ?_
          refine JL_op rfl (op_read rfl rfl (r_index_row (v := v_2) (T := (t_Gdiff_Leq).o) (q := x_117) 2 Try.pu22 Try.pi39 rfl rfl rfl rfl hx_118) ?_)
          refine JL_op rfl (op_read rfl rfl (r_fieldAddr (r := elemAddr v_2 ((x_108).toNat * ((t_Gdiff_Leq).o).size + 1)) Try.pu39 (f := Try.pf39.getD 1 default) rfl Try.pi3 (by decide) rfl (elemAddr_add _ _ _)) ?_)
          refine JL_op rfl (op_reads rfl rfl (l_elem_orow (v := v_2) (T := (t_Gdiff_Leq).o) (Tf := (tInt .i64)) (q := x_117) (i := x_108) (off := 1) 2 Try.pu3 Try.pi3 rfl rfl rfl rfl hx_118 (OFieldAt.of f_Gdiff_Leq_Y) (by decide)) ?_)
          intro v_119 h_120
          obtain rfl := tInt_v.1 h_120
          refine JL_op rfl (op_read rfl rfl (r_assign (v := .int .i64 x_117.Y) rfl) ?_)
          refine JL_nil ?_
          refine J_then ?_
          refine J_seq ?_
          refine J_region ?_
          refine JL_op rfl (op_read rfl rfl (r_move (v := .int .i64 x_117.Y) rfl) ?_)
          refine JL_op rfl (op_read rfl rfl (r_move (v := .int .i64 y_97) rfl) ?_)
          refine JL_op rfl (op_read rfl rfl (r_eql rfl rfl) ?_)
          refine JL_nil ?_
          refine J_then ?_
          refine J_cond rfl (fun hc_121 => ?_) (fun hc_121 => ?_)
          · refine J_seq ?_
            refine J_region ?_
            refine JL_op rfl (op_read rfl rfl (r_move (v := v_114) rfl) ?_)
            refine JL_op rfl (op_read rfl rfl (r_assign (v := .slice none 0 0) rfl) ?_)
            refine JL_op rfl (op_read rfl rfl (r_assign (v := v_114) rfl) ?_)
            refine JL_nil ?_
            refine J_then ?_
            refine J_ret ?_
            refine J_in_ret ?_
            refine J_keep [true, false, true, false] ?_
            refine J_done trivial _ ?_ ⟨rfl, v_114, rfl, rfl, rfl⟩
            exact ⟨rfl, rfl, trivial⟩
          · refine J_skip ?_
            refine J_in_normal ?_
            refine J_keep [true, false, true, true] ?_
            refine J_front [1, 1] ?_
            refine J_next _ ?_ ⟨v_114, rfl, rfl, rfl⟩
            exact ⟨rfl, rfl, rfl, rfl, rfl, trivial⟩
        · rintro y_122 _ _ b s_127 _ ⟨rfl, ⟨v_126, rfl, rfl, rfl⟩⟩
          refine J_in_ret ?_
          refine J_nil_row ((tInt .i64)).o 2 ?_
          exact J_returnV2 (PV' := [.row ((tInt .i64)).o 2 (.slice none 0 0) (⟨[], false⟩ : Sl Int), .row ((tInt .i64)).o 3 v_126 y_122, .row (t_Gdiff_Leq).o 39 v_2 x_3]) rfl rv_tmp rv_tmp [0, 1, 2] (by decide) rfl ⟨(.slice none 0 0), v_126, rfl, rfl, rfl⟩
    · obtain ⟨rfl, ht⟩ := ht
      revert ht; revert PV; revert τ; revert b; revert L
      rintro _ b s_132 _ ⟨rfl, rfl, rfl⟩
      refine J_in_ret ?_
      refine J_then_ret ?_
      refine J_nil_row ((tInt .i64)).o 3 ?_
      exact J_returnV2 (PV' := [.row ((tInt .i64)).o 2 v_4 y_129, .row ((tInt .i64)).o 3 (.slice none 0 0) (⟨[], false⟩ : Sl Int), .row (t_Gdiff_Leq).o 39 v_2 x_3]) rfl rv_tmp rv_tmp [1, 0, 2] (by decide) rfl ⟨v_4, (.slice none 0 0), rfl, rfl, rfl⟩
def diff_Entails_post (σ0 : FS) (n_1 : Int) (v_2 : Value) (goal_3 : Gdiff_Leq) (v_5 : Value) (x_6 : Sl Gdiff_Leq) (r : Bool × Int) (σ : FS) (PV : List Priv) (v : Value) : Prop :=
  σ0 = σ ∧ .tuple #[.bool r.1, .int .i64 r.2] = v ∧ PV = [.row (t_Gdiff_Leq).o 39 v_5 x_6]
set_option maxRecDepth 100000 in
theorem diff_Entails_ref (s : Start) (σ : FS) (n_1 : Int) (v_2 : Value) (goal_3 : Gdiff_Leq) (h_4 : t_Gdiff_Leq.vrel σ v_2 goal_3) (v_5 : Value) (x_6 : Sl Gdiff_Leq) (hs : Pre s σ [.row (t_Gdiff_Leq).o 39 v_5 x_6]) (r : Bool × Int) (hr : diff_Entails n_1 goal_3 x_6 = some r) : Does Try.prog 45 [.int .i64 n_1, v_2, v_5] s σ (diff_Entails_post σ n_1 v_2 goal_3 v_5 x_6 r) := by
  unfold diff_Entails at hr
  obtain rfl := t_Gdiff_Leq_v.1 h_4
  refine does_of_J Try.func45 rfl (n := 47) rfl rfl hs hr ?_
  refine J_seq ?_
  refine J_region ?_
  refine JL_op rfl (op_box (cs := [.int .i64 goal_3.X, .int .i64 goal_3.Y, .int .i64 goal_3.C]) rfl rfl ?_)
  intro c_7
  refine JL_op rfl (op_read rfl rfl (r_assign (v := .bool false) rfl) ?_)
  refine JL_op rfl (op_read rfl rfl (r_assign (v := .int .i64 0) rfl) ?_)
  refine JL_nil ?_
  refine J_then ?_
  refine J_seq ?_
  refine J_region_any 6 [.cell c_7 [.int .i64 goal_3.X, .int .i64 goal_3.Y, .int .i64 goal_3.C], .row (t_Gdiff_Leq).o 39 v_5 x_6] Try.mixed (by kernel_rfl) fun hns => ?_
  refine JA_takep 0 rfl hns (by kernel_rfl) (by kernel_rfl) rfl (.inr (by exact HeldOK.same [0, 1] (by decide) rfl)) rfl rfl rfl (r_move (v := v_5) rfl) ?_
  refine JA_take 2 rfl hns (by kernel_rfl) (by kernel_rfl) (by kernel_rfl) rfl (by kernel_rfl) (by exact HeldOK.same [0, 1] (by decide) rfl) rfl rfl rfl (r_load_priv (a := c_7) (off := 0) (cs' := [.int .i64 goal_3.X, .int .i64 goal_3.Y, .int .i64 goal_3.C]) (v := .agg #[.int .i64 goal_3.X, .int .i64 goal_3.Y, .int .i64 goal_3.C]) 0 Try.pu39 Try.pi39 rfl rfl rfl rfl (by decide) rfl) ?_
  refine J_bind fun k_10 hk_11 => ?_
  refine J_bind fun k_12 hk_13 => ?_
  refine J_meetD (fun y => diff_Entails_K1 goal_3 k_12 n_1 x_6 y) 0 #[true, true, true, true, true, true] (fun (y : Unit) L τ PV => ∃ (w0 : Value), σ = τ ∧ L = [(0, .int .i64 n_1), (2, v_5), (4, .pointer (some (Addr.add c_7 0))), (8, w0)] ∧ PV = [.row (t_Gdiff_Leq).o 39 v_5 x_6, .cell c_7 [.int .i64 goal_3.X, .int .i64 goal_3.Y, .int .i64 goal_3.C], .row (t_Gdiff_Leq).o 39 w0 k_12]) (fun hk => ?_) ?_
  · refine JA_two (i := 1) (j := 3) (by kernel_rfl) ?_ ?_
    · refine J_front [1] ?_
      refine J1_op rfl rfl (op_known hk_11 (op_callN (f := 48) (fn := Try.f48) (args := [v_5]) (post := slices_Clone_v2_post σ v_5 x_6) 1 rfl rfl rfl Try.func48 Try.pn48 rfl rfl (fun y st hy hpre => slices_Clone_v2_ref st σ v_5 x_6 hpre y hy) ?_))
      intro z_52 v_44 s_47 PV_45 hz_53 hle_48 hp_46
      obtain rfl := Option.some.inj (hk_11.symm.trans hz_53)
      obtain ⟨v_51, rfl, rfl, rfl⟩ := hp_46
      refine ⟨.inr (by exact HeldOK.same [2, 1] (by decide) rfl), ?_⟩
      refine JA_op (i := 3) (by kernel_rfl) rfl rfl (op_buildSlice (T := (t_Gdiff_Leq).o) (vs := [.agg #[.int .i64 goal_3.X, .int .i64 goal_3.Y, .int .i64 goal_3.C]]) (xs := [goal_3]) [] [.row (t_Gdiff_Leq).o 39 v_51 k_10, .row (t_Gdiff_Leq).o 39 v_5 x_6, .cell c_7 [.int .i64 goal_3.X, .int .i64 goal_3.Y, .int .i64 goal_3.C]] rfl Try.pu22 Try.pi39 rfl rfl rfl rfl rfl rfl (relsO_cons (A := []) (B := []) (u := .agg #[.int .i64 goal_3.X, .int .i64 goal_3.Y, .int .i64 goal_3.C]) (x := goal_3) (fix_vrel (T := (t_Gdiff_Leq).o) rfl (t_Gdiff_Leq_v.2 rfl)) relsO_nil) ?_)
      intro v_55
      refine ⟨.inr (by exact HeldOK.same [3, 2] (by decide) rfl), ?_⟩
      refine J_front [1] ?_
      refine JA_op (i := 4) (by kernel_rfl) rfl rfl (op_known hk_13 (op_append (v := v_51) (u := v_55) (T := (t_Gdiff_Leq).o) (ts := [goal_3]) [] [.row (t_Gdiff_Leq).o 39 v_55 (⟨[goal_3], true⟩ : Sl Gdiff_Leq), .row (t_Gdiff_Leq).o 39 v_5 x_6, .cell c_7 [.int .i64 goal_3.X, .int .i64 goal_3.Y, .int .i64 goal_3.C]] rfl Try.pu22 Try.pi39 rfl rfl rfl rfl rfl rfl (source_copy (s := (⟨[goal_3], true⟩ : Sl Gdiff_Leq)) 1 rfl) ?_))
      intro z_60 v_58 hz_61
      obtain rfl := Option.some.inj (hk_13.symm.trans hz_61)
      refine ⟨.inr (by exact HeldOK.same [3, 2] (by decide) rfl), ?_⟩
      refine JA_takep 5 rfl hns (by kernel_rfl) (by kernel_rfl) rfl (.inr (by exact HeldOK.same [3, 2] (by decide) rfl)) rfl rfl rfl (r_assign (v := v_58) rfl) ?_
      refine J_keep [true, false, true, true] ?_
      refine J_front [1, 1] ?_
      refine J_prune _ ?_ fun b => hk () _ b _ _ ⟨v_58, rfl, rfl, rfl⟩
      exact ⟨rfl, rfl, rfl, rfl, trivial⟩
    · refine J1_op rfl rfl (op_buildSlice (T := (t_Gdiff_Leq).o) (vs := [.agg #[.int .i64 goal_3.X, .int .i64 goal_3.Y, .int .i64 goal_3.C]]) (xs := [goal_3]) [] [.cell c_7 [.int .i64 goal_3.X, .int .i64 goal_3.Y, .int .i64 goal_3.C], .row (t_Gdiff_Leq).o 39 v_5 x_6] rfl Try.pu22 Try.pi39 rfl rfl rfl rfl rfl rfl (relsO_cons (A := []) (B := []) (u := .agg #[.int .i64 goal_3.X, .int .i64 goal_3.Y, .int .i64 goal_3.C]) (x := goal_3) (fix_vrel (T := (t_Gdiff_Leq).o) rfl (t_Gdiff_Leq_v.2 rfl)) relsO_nil) ?_)
      intro v_63
      refine ⟨.inr (by exact HeldOK.same [1, 2] (by decide) rfl), ?_⟩
      refine J_front [2] ?_
      refine JA_op (i := 1) (by kernel_rfl) rfl rfl (op_known hk_11 (op_callN (f := 48) (fn := Try.f48) (args := [v_5]) (post := slices_Clone_v2_post σ v_5 x_6) 1 rfl rfl rfl Try.func48 Try.pn48 rfl rfl (fun y st hy hpre => slices_Clone_v2_ref st σ v_5 x_6 hpre y hy) ?_))
      intro z_74 v_66 s_69 PV_67 hz_75 hle_70 hp_68
      obtain rfl := Option.some.inj (hk_11.symm.trans hz_75)
      obtain ⟨v_73, rfl, rfl, rfl⟩ := hp_68
      refine ⟨.inr (by exact HeldOK.same [3, 1] (by decide) rfl), ?_⟩
      refine JA_op (i := 4) (by kernel_rfl) rfl rfl (op_known hk_13 (op_append (v := v_73) (u := v_63) (T := (t_Gdiff_Leq).o) (ts := [goal_3]) [] [.row (t_Gdiff_Leq).o 39 v_5 x_6, .row (t_Gdiff_Leq).o 39 v_63 (⟨[goal_3], true⟩ : Sl Gdiff_Leq), .cell c_7 [.int .i64 goal_3.X, .int .i64 goal_3.Y, .int .i64 goal_3.C]] rfl Try.pu22 Try.pi39 rfl rfl rfl rfl rfl rfl (source_copy (s := (⟨[goal_3], true⟩ : Sl Gdiff_Leq)) 2 rfl) ?_))
      intro z_78 v_77 hz_79
      obtain rfl := Option.some.inj (hk_13.symm.trans hz_79)
      refine ⟨.inr (by exact HeldOK.same [3, 1] (by decide) rfl), ?_⟩
      refine JA_takep 5 rfl hns (by kernel_rfl) (by kernel_rfl) rfl (.inr (by exact HeldOK.same [3, 1] (by decide) rfl)) rfl rfl rfl (r_assign (v := v_77) rfl) ?_
      refine J_keep [true, true, false, true] ?_
      refine J_front [1, 1] ?_
      refine J_prune _ ?_ fun b => hk () _ b _ _ ⟨v_77, rfl, rfl, rfl⟩
      exact ⟨rfl, rfl, rfl, rfl, trivial⟩
  · rintro y_14 _ b s_19 _ ⟨v_18, rfl, rfl, rfl⟩
    unfold diff_Entails_K1
    refine JA_done (by kernel_rfl) ?_
    refine J_then ?_
    refine J_seq ?_
    refine J_seq ?_
    refine J_region ?_
    refine JL_op rfl (op_read rfl rfl (r_move (v := .int .i64 n_1) rfl) ?_)
    refine JL_op rfl (op_read rfl rfl (r_move (v := v_18) rfl) ?_)
    refine J_front [2] ?_
    refine JL_op rfl (op_callN (f := 64) (fn := Try.f64) (args := [.int .i64 n_1, v_18]) (post := diff_fit_post σ n_1 v_18 k_12) 1 rfl rfl rfl Try.func64 Try.pn64 rfl rfl (fun y st hy hpre => diff_fit_ref st σ n_1 v_18 k_12 hpre y hy) ?_)
    intro r_20 v_22 s_25 PV_23 hr_21 hle_26 hp_24
    obtain ⟨rfl, rfl, rfl⟩ := hp_24
    refine JL_op rfl (op_read rfl rfl (r_assign (v := .int .i64 r_20) rfl) ?_)
    refine JL_nil ?_
    refine J_then ?_
    refine J_seq ?_
    refine J_region ?_
    refine JL_op rfl (op_read rfl rfl (r_move (v := .int .i64 r_20) rfl) ?_)
    refine JL_op rfl (op_read rfl rfl (r_neq rfl rfl) ?_)
    refine JL_nil ?_
    refine J_then ?_
    refine J_cond rfl (fun hc_27 => ?_) (fun hc_27 => ?_)
    · refine J_seq ?_
      refine J_region ?_
      refine JL_op rfl (op_read rfl rfl (r_move (v := .int .i64 r_20) rfl) ?_)
      refine JL_op rfl (op_read rfl rfl (r_assign (v := .bool false) rfl) ?_)
      refine JL_op rfl (op_read rfl rfl (r_assign (v := .int .i64 r_20) rfl) ?_)
      refine JL_nil ?_
      refine J_then ?_
      refine J_ret ?_
      refine J_then_ret ?_
      exact J_returnV2 (PV' := [.row (t_Gdiff_Leq).o 39 v_5 x_6]) rfl rv_tmp rv_tmp [1] (by decide) rfl ⟨rfl, rfl, rfl⟩
    · refine J_skip ?_
      refine J_then ?_
      refine J_seq ?_
      refine J_seq ?_
      refine J_region ?_
      refine JL_op rfl (op_read rfl rfl (r_fieldAddr (r := Addr.add c_7 2) Try.pu39 (f := Try.pf39.getD 2 default) rfl Try.pi2 (by decide) rfl (Addr.add_add _ _ _)) ?_)
      refine JL_op rfl (op_read rfl rfl (r_load_priv (a := c_7) (off := 2) (cs' := [.int .i64 goal_3.C]) (v := .int .i64 goal_3.C) 2 Try.pu2 Try.pi2 rfl rfl rfl rfl (by decide) rfl) ?_)
      refine JL_op rfl (op_read rfl rfl (r_eql rfl rfl) ?_)
      refine JL_nil ?_
      refine J_then ?_
      refine J_cond rfl (fun hc_28 => ?_) (fun hc_28 => ?_)
      · refine J_seq ?_
        refine J_region ?_
        refine JL_op rfl (op_read rfl rfl (r_assign (v := .bool false) rfl) ?_)
        refine JL_op rfl (op_read rfl rfl (r_assign (v := .int .i64 2) rfl) ?_)
        refine JL_nil ?_
        refine J_then ?_
        refine J_ret ?_
        refine J_then_ret ?_
        exact J_returnV2 (PV' := [.row (t_Gdiff_Leq).o 39 v_5 x_6]) rfl rv_tmp rv_tmp [1] (by decide) rfl ⟨rfl, rfl, rfl⟩
      · refine J_skip ?_
        refine J_then ?_
        refine J_seq ?_
        refine J_region ?_
        refine JL_op rfl (op_read rfl rfl (r_move (v := v_18) rfl) ?_)
        refine JL_op rfl (op_read rfl rfl (r_move (v := v_5) rfl) ?_)
        refine JL_op rfl (op_read rfl rfl (r_len_row (v := v_5) 1 Try.pu22 rfl rfl) ?_)
        refine JL_op rfl (op_read rfl rfl (r_fieldAddr (r := Addr.add c_7 1) Try.pu39 (f := Try.pf39.getD 1 default) rfl Try.pi3 (by decide) rfl (Addr.add_add _ _ _)) ?_)
        refine JL_op rfl (op_read rfl rfl (r_load_priv (a := c_7) (off := 1) (cs' := [.int .i64 goal_3.Y]) (v := .int .i64 goal_3.Y) 2 Try.pu3 Try.pi3 rfl rfl rfl rfl (by decide) rfl) ?_)
        refine JL_op rfl (op_read rfl rfl (r_fieldAddr (r := Addr.add c_7 0) Try.pu39 (f := Try.pf39.getD 0 default) rfl Try.pi3 (by decide) rfl (Addr.add_add _ _ _)) ?_)
        refine JL_op rfl (op_read rfl rfl (r_load_priv (a := c_7) (off := 0) (cs' := [.int .i64 goal_3.X]) (v := .int .i64 goal_3.X) 2 Try.pu3 Try.pi3 rfl rfl rfl rfl (by decide) rfl) ?_)
        refine JL_op rfl (op_read rfl rfl (r_fieldAddr (r := Addr.add c_7 2) Try.pu39 (f := Try.pf39.getD 2 default) rfl Try.pi2 (by decide) rfl (Addr.add_add _ _ _)) ?_)
        refine JL_op rfl (op_read rfl rfl (r_load_priv (a := c_7) (off := 2) (cs' := [.int .i64 goal_3.C]) (v := .int .i64 goal_3.C) 2 Try.pu2 Try.pi2 rfl rfl rfl rfl (by decide) rfl) ?_)
        refine JL_op rfl (op_read rfl rfl (r_neg rfl) ?_)
        refine JL_op rfl (op_read rfl rfl (r_sub rfl rfl) ?_)
        refine JL_op rfl (op_read rfl rfl (r_build (cs := [.int .i64 goal_3.Y, .int .i64 goal_3.X, .int .i64 (IntKind.i64.wrap ((IntKind.i64.wrap (0 - goal_3.C)) - 1))]) (vs := [(0, .int .i64 goal_3.Y), (1, .int .i64 goal_3.X), (2, .int .i64 (IntKind.i64.wrap ((IntKind.i64.wrap (0 - goal_3.C)) - 1)))]) (pcs := [(0, [.int .i64 goal_3.Y]), (1, [.int .i64 goal_3.X]), (2, [.int .i64 (IntKind.i64.wrap ((IntKind.i64.wrap (0 - goal_3.C)) - 1))])]) (pls := [(0, 1), (1, 1), (2, 1)]) Try.pu39 Try.pi39 rfl (by kernel_rfl) rfl ⟨rfl, rfl, ⟨rfl, rfl, ⟨rfl, rfl, trivial⟩⟩⟩ rfl) ?_)
        refine J_bind fun x_29 hx_30 => ?_
        refine JL_op rfl (op_read rfl rfl (r_index_row (v := v_18) (T := (t_Gdiff_Leq).o) (q := x_29) 0 Try.pu22 Try.pi39 rfl rfl rfl rfl hx_30) ?_)
        refine JL_op rfl (op_store_row (v := v_18) (u := (.agg #[.int .i64 goal_3.Y, .int .i64 goal_3.X, .int .i64 (IntKind.i64.wrap ((IntKind.i64.wrap (0 - goal_3.C)) - 1))])) (T := (t_Gdiff_Leq).o) (q := (⟨goal_3.Y, goal_3.X, IntKind.i64.wrap ((IntKind.i64.wrap (0 - goal_3.C)) - 1)⟩ : Gdiff_Leq)) (i := x_6.len) [] [.row (t_Gdiff_Leq).o 39 v_5 x_6, .cell c_7 [.int .i64 goal_3.X, .int .i64 goal_3.Y, .int .i64 goal_3.C]] Try.pi39 rfl rfl rfl rfl (fix_vrel (T := (t_Gdiff_Leq).o) rfl (t_Gdiff_Leq_v.2 rfl)) ?_)
        intro s_31 hs_32
        refine JL_nil ?_
        refine J_then ?_
        refine J_seq ?_
        refine J_region ?_
        refine JL_op rfl (op_read rfl rfl (r_move (v := .int .i64 n_1) rfl) ?_)
        refine JL_op rfl (op_read rfl rfl (r_move (v := v_18) rfl) ?_)
        refine JL_op rfl (op_callN (f := 65) (fn := Try.f65) (args := [.int .i64 n_1, v_18]) (post := diff_solve_post σ n_1 v_18 s_31) 1 rfl rfl rfl Try.func65 Try.pn65 rfl rfl (fun y st hy hpre => diff_solve_ref st σ n_1 v_18 s_31 hpre y hy) ?_)
        intro r_33 v_35 s_38 PV_36 hr_34 hle_39 hp_37
        obtain ⟨v_41, v_43, rfl, rfl, rfl⟩ := hp_37
        refine JL_op rfl (op_read rfl rfl (r_move (v := .tuple #[v_41, v_43]) rfl) ?_)
        refine JL_op rfl (op_read rfl rfl (r_extract (v := v_41) rfl rfl) ?_)
        refine JL_op rfl (op_read rfl rfl (r_extract (v := v_43) rfl rfl) ?_)
        refine JL_op rfl (op_read rfl rfl (r_assign (v := v_41) rfl) ?_)
        refine JL_op rfl (op_read rfl rfl (r_assign (v := v_43) rfl) ?_)
        refine JL_nil ?_
        refine J_then ?_
        refine J_seq ?_
        refine J_region ?_
        refine JL_op rfl (op_read rfl rfl (r_move (v := v_43) rfl) ?_)
        refine JL_op rfl (op_read rfl rfl (r_nenil_row (v := v_43) 1 Try.pu100 rfl rfl rfl) ?_)
        refine JL_op rfl (op_read rfl rfl (r_assign (v := .bool r_33.2.nn) rfl) ?_)
        refine JL_op rfl (op_read rfl rfl (r_assign (v := .int .i64 0) rfl) ?_)
        refine JL_nil ?_
        refine J_then ?_
        refine J_ret ?_
        exact J_returnV2 (PV' := [.row (t_Gdiff_Leq).o 39 v_5 x_6]) rfl rv_tmp rv_tmp [3] (by decide) rfl ⟨rfl, rfl, rfl⟩
def heap_Heap_Entails_post (σ0 : FS) (a_1 : Addr) (v_2 : Value) (x_3 : Sl Gheap_Chunk) (Vars_4 : Int) (v_5 : Value) (x_6 : Sl Gdiff_Leq) (v_7 : Value) (f_8 : Gdiff_Leq) (r : Bool) (σ : FS) (PV : List Priv) (v : Value) : Prop :=
  σ0 = σ ∧ .bool r = v ∧ PV = [.cell a_1 [v_2, .int .i64 Vars_4, v_5], .row o_Gheap_Chunk 49 v_2 x_3, .row (t_Gdiff_Leq).o 39 v_5 x_6]
set_option maxRecDepth 100000 in
theorem heap_Heap_Entails_ref (s : Start) (σ : FS) (a_1 : Addr) (v_2 : Value) (x_3 : Sl Gheap_Chunk) (Vars_4 : Int) (v_5 : Value) (x_6 : Sl Gdiff_Leq) (v_7 : Value) (f_8 : Gdiff_Leq) (h_9 : t_Gdiff_Leq.vrel σ v_7 f_8) (hs : Pre s σ [.cell a_1 [v_2, .int .i64 Vars_4, v_5], .row o_Gheap_Chunk 49 v_2 x_3, .row (t_Gdiff_Leq).o 39 v_5 x_6]) (r : Bool) (hr : heap_Heap_Entails x_3 Vars_4 x_6 f_8 = some r) : Does Try.prog 15 [.pointer (some (Addr.add a_1 0)), v_7] s σ (heap_Heap_Entails_post σ a_1 v_2 x_3 Vars_4 v_5 x_6 v_7 f_8 r) := by
  unfold heap_Heap_Entails at hr
  obtain rfl := t_Gdiff_Leq_v.1 h_9
  refine does_of_J Try.func15 rfl (n := 25) rfl rfl hs hr ?_
  refine J_seq ?_
  refine J_region ?_
  refine JL_op rfl (op_box (cs := [.int .i64 f_8.X, .int .i64 f_8.Y, .int .i64 f_8.C]) rfl rfl ?_)
  intro c_10
  refine JL_op rfl (op_read rfl rfl (r_assign (v := .bool false) rfl) ?_)
  refine JL_nil ?_
  refine J_then ?_
  refine J_seq ?_
  refine J_region_any 15 [.cell c_10 [.int .i64 f_8.X, .int .i64 f_8.Y, .int .i64 f_8.C], .cell a_1 [v_2, .int .i64 Vars_4, v_5], .row o_Gheap_Chunk 49 v_2 x_3, .row (t_Gdiff_Leq).o 39 v_5 x_6] Try.mixed (by kernel_rfl) fun hns => ?_
  refine JA_takep 0 rfl hns (by kernel_rfl) (by kernel_rfl) rfl (.inr (by exact HeldOK.same [0, 1, 2, 3] (by decide) rfl)) rfl rfl rfl (r_move (v := .pointer (some (Addr.add a_1 0))) rfl) ?_
  refine JA_takep 1 rfl hns (by kernel_rfl) (by kernel_rfl) rfl (.inr (by exact HeldOK.same [0, 1, 2, 3] (by decide) rfl)) rfl rfl rfl (r_nilCheck (a := (Addr.add a_1 0)) rfl) ?_
  refine JA_takep 2 rfl hns (by kernel_rfl) (by kernel_rfl) rfl (.inr (by exact HeldOK.same [0, 1, 2, 3] (by decide) rfl)) rfl rfl rfl (r_fieldAddr (r := Addr.add a_1 1) Try.pu28 (f := Try.pf28.getD 1 default) rfl Try.pi3 (by decide) rfl (Addr.add_add _ _ _)) ?_
  refine JA_take 3 rfl hns (by kernel_rfl) (by kernel_rfl) (by kernel_rfl) rfl (by kernel_rfl) (by exact HeldOK.same [0, 1, 2, 3] (by decide) rfl) rfl rfl rfl (r_load_priv (a := a_1) (off := 1) (cs' := [.int .i64 Vars_4]) (v := .int .i64 Vars_4) 1 Try.pu3 Try.pi3 rfl rfl rfl rfl (by decide) rfl) ?_
  refine JA_take 4 rfl hns (by kernel_rfl) (by kernel_rfl) (by kernel_rfl) rfl (by kernel_rfl) (by exact HeldOK.same [0, 1, 2, 3] (by decide) rfl) rfl rfl rfl (r_load_priv (a := c_10) (off := 0) (cs' := [.int .i64 f_8.X, .int .i64 f_8.Y, .int .i64 f_8.C]) (v := .agg #[.int .i64 f_8.X, .int .i64 f_8.Y, .int .i64 f_8.C]) 0 Try.pu39 Try.pi39 rfl rfl rfl rfl (by decide) rfl) ?_
  refine JA_takep 5 rfl hns (by kernel_rfl) (by kernel_rfl) rfl (.inr (by exact HeldOK.same [0, 1, 2, 3] (by decide) rfl)) rfl rfl rfl (r_move (v := .pointer (some (Addr.add a_1 0))) rfl) ?_
  refine JA_takep 6 rfl hns (by kernel_rfl) (by kernel_rfl) rfl (.inr (by exact HeldOK.same [0, 1, 2, 3] (by decide) rfl)) rfl rfl rfl (r_nilCheck (a := (Addr.add a_1 0)) rfl) ?_
  refine JA_takep 7 rfl hns (by kernel_rfl) (by kernel_rfl) rfl (.inr (by exact HeldOK.same [0, 1, 2, 3] (by decide) rfl)) rfl rfl rfl (r_fieldAddr (r := Addr.add a_1 2) Try.pu28 (f := Try.pf28.getD 2 default) rfl Try.pi22 (by decide) rfl (Addr.add_add _ _ _)) ?_
  refine JA_take 8 rfl hns (by kernel_rfl) (by kernel_rfl) (by kernel_rfl) rfl (by kernel_rfl) (by exact HeldOK.same [0, 1, 2, 3] (by decide) rfl) rfl rfl rfl (r_load_priv (a := a_1) (off := 2) (cs' := [v_5]) (v := v_5) 1 Try.pu22 Try.pi22 rfl rfl rfl rfl (by decide) rfl) ?_
  refine J_front [3] ?_
  refine JA_op (i := 9) (by kernel_rfl) rfl rfl (op_callN (f := 45) (fn := Try.f45) (args := [.int .i64 Vars_4, .agg #[.int .i64 f_8.X, .int .i64 f_8.Y, .int .i64 f_8.C], v_5]) (post := diff_Entails_post σ Vars_4 (.agg #[.int .i64 f_8.X, .int .i64 f_8.Y, .int .i64 f_8.C]) f_8 v_5 x_6) 1 rfl rfl rfl Try.func45 Try.pn45 rfl rfl (fun y st hy hpre => diff_Entails_ref st σ Vars_4 (.agg #[.int .i64 f_8.X, .int .i64 f_8.Y, .int .i64 f_8.C]) f_8 (t_Gdiff_Leq_v.2 rfl) v_5 x_6 hpre y hy) ?_)
  intro r_13 v_15 s_18 PV_16 hr_14 hle_19 hp_17
  obtain ⟨rfl, rfl, rfl⟩ := hp_17
  refine ⟨.inr (by exact HeldOK.same [1, 2, 3, 0] (by decide) rfl), ?_⟩
  refine JA_takep 10 rfl hns (by kernel_rfl) (by kernel_rfl) rfl (.inr (by exact HeldOK.same [1, 2, 3, 0] (by decide) rfl)) rfl rfl rfl (r_move (v := .tuple #[.bool r_13.1, .int .i64 r_13.2]) rfl) ?_
  refine JA_takep 11 rfl hns (by kernel_rfl) (by kernel_rfl) rfl (.inr (by exact HeldOK.same [1, 2, 3, 0] (by decide) rfl)) rfl rfl rfl (r_extract (v := .bool r_13.1) rfl rfl) ?_
  refine JA_takep 12 rfl hns (by kernel_rfl) (by kernel_rfl) rfl (.inr (by exact HeldOK.same [1, 2, 3, 0] (by decide) rfl)) rfl rfl rfl (r_extract (v := .int .i64 r_13.2) rfl rfl) ?_
  refine JA_takep 13 rfl hns (by kernel_rfl) (by kernel_rfl) rfl (.inr (by exact HeldOK.same [1, 2, 3, 0] (by decide) rfl)) rfl rfl rfl (r_assign (v := .bool r_13.1) rfl) ?_
  refine JA_takep 14 rfl hns (by kernel_rfl) (by kernel_rfl) rfl (.inr (by exact HeldOK.same [1, 2, 3, 0] (by decide) rfl)) rfl rfl rfl (r_assign (v := .int .i64 r_13.2) rfl) ?_
  refine JA_done (by kernel_rfl) ?_
  refine J_then ?_
  refine J_seq ?_
  refine J_region ?_
  refine JL_op rfl (op_read rfl rfl (r_move (v := .bool r_13.1) rfl) ?_)
  refine JL_op rfl (op_read rfl rfl (r_move (v := .bool r_13.1) rfl) ?_)
  refine J_forkL (e := r_13.1) 3 [(24, .bool (r_13.1 && decide (r_13.2 = 0)))] (fun hc_22 hk => ?_) (fun hc_22 hk => ?_) (fun b => ?_)
  · refine JL_opg rfl rfl hc_22 (op_read rfl rfl (r_move (v := .int .i64 r_13.2) rfl) ?_)
    refine JL_opg rfl rfl hc_22 (op_read rfl rfl (r_eql rfl rfl) ?_)
    refine JL_op rfl (op_read rfl rfl (r_pick_t (v := .bool (decide (r_13.2 = 0))) rfl hc_22 rfl) ?_)
    refine J_prune [(24, .bool (r_13.1 && decide (r_13.2 = 0)))] ⟨(by show Value.bool _ = Value.bool _; rw [hc_22]; rfl), trivial⟩ hk
  · refine JL_skip rfl rfl hc_22 rfl rfl ?_
    refine JL_skip rfl rfl hc_22 rfl rfl ?_
    refine JL_op rfl (op_read rfl rfl (r_pick_f (v := .bool false) rfl hc_22 rfl) ?_)
    refine J_prune [(24, .bool (r_13.1 && decide (r_13.2 = 0)))] ⟨(by show Value.bool _ = Value.bool _; rw [hc_22]; rfl), trivial⟩ hk
  · refine JL_op rfl (op_read rfl rfl (r_assign (v := .bool (r_13.1 && decide (r_13.2 = 0))) rfl) ?_)
    refine JL_nil ?_
    refine J_then ?_
    refine J_ret ?_
    exact J_returnV1 (PV' := [.cell a_1 [v_2, .int .i64 Vars_4, v_5], .row o_Gheap_Chunk 49 v_2 x_3, .row (t_Gdiff_Leq).o 39 v_5 x_6]) rfl rv_tmp [2, 3, 0] (by decide) rfl ⟨rfl, rfl, rfl⟩
def heap_Heap_within_post (σ0 : FS) (a_1 : Addr) (v_2 : Value) (x_3 : Sl Gheap_Chunk) (Vars_4 : Int) (v_5 : Value) (x_6 : Sl Gdiff_Leq) (v_7 : Value) (index_8 : Gheap_Sym) (v_10 : Value) (size_11 : Gheap_Sym) (r : Bool) (σ : FS) (PV : List Priv) (v : Value) : Prop :=
  σ0 = σ ∧ .bool r = v ∧ PV = [.cell a_1 [v_2, .int .i64 Vars_4, v_5], .row o_Gheap_Chunk 49 v_2 x_3, .row (t_Gdiff_Leq).o 39 v_5 x_6]
set_option maxRecDepth 100000 in
theorem heap_Heap_within_ref (s : Start) (σ : FS) (a_1 : Addr) (v_2 : Value) (x_3 : Sl Gheap_Chunk) (Vars_4 : Int) (v_5 : Value) (x_6 : Sl Gdiff_Leq) (v_7 : Value) (index_8 : Gheap_Sym) (h_9 : t_Gheap_Sym.vrel σ v_7 index_8) (v_10 : Value) (size_11 : Gheap_Sym) (h_12 : t_Gheap_Sym.vrel σ v_10 size_11) (hs : Pre s σ [.cell a_1 [v_2, .int .i64 Vars_4, v_5], .row o_Gheap_Chunk 49 v_2 x_3, .row (t_Gdiff_Leq).o 39 v_5 x_6]) (r : Bool) (hr : heap_Heap_within x_3 Vars_4 x_6 index_8 size_11 = some r) : Does Try.prog 67 [.pointer (some (Addr.add a_1 0)), v_7, v_10] s σ (heap_Heap_within_post σ a_1 v_2 x_3 Vars_4 v_5 x_6 v_7 index_8 v_10 size_11 r) := by
  unfold heap_Heap_within at hr
  obtain rfl := t_Gheap_Sym_v.1 h_9
  obtain rfl := t_Gheap_Sym_v.1 h_12
  refine does_of_J Try.func67 rfl (n := 29) rfl rfl hs hr ?_
  refine J_seq ?_
  refine J_region ?_
  refine JL_op rfl (op_box (cs := [.int .i64 index_8.Kind, .int .i64 index_8.Var, .int .i64 index_8.K, .int .i64 index_8.Block]) rfl rfl ?_)
  intro c_13
  refine JL_op rfl (op_box (cs := [.int .i64 size_11.Kind, .int .i64 size_11.Var, .int .i64 size_11.K, .int .i64 size_11.Block]) rfl rfl ?_)
  intro c_15
  refine JL_op rfl (op_read rfl rfl (r_assign (v := .bool false) rfl) ?_)
  refine JL_nil ?_
  refine J_then ?_
  refine J_seq ?_
  refine J_region ?_
  refine JL_op rfl (op_read rfl rfl (r_move (v := .pointer (some (Addr.add a_1 0))) rfl) ?_)
  refine JL_op rfl (op_read rfl rfl (r_fieldAddr (r := Addr.add c_13 1) Try.pu33 (f := Try.pf33.getD 1 default) rfl Try.pi3 (by decide) rfl (Addr.add_add _ _ _)) ?_)
  refine JL_op rfl (op_read rfl rfl (r_load_priv (a := c_13) (off := 1) (cs' := [.int .i64 index_8.Var]) (v := .int .i64 index_8.Var) 1 Try.pu3 Try.pi3 rfl rfl rfl rfl (by decide) rfl) ?_)
  refine JL_op rfl (op_read rfl rfl (r_fieldAddr (r := Addr.add c_13 2) Try.pu33 (f := Try.pf33.getD 2 default) rfl Try.pi2 (by decide) rfl (Addr.add_add _ _ _)) ?_)
  refine JL_op rfl (op_read rfl rfl (r_load_priv (a := c_13) (off := 2) (cs' := [.int .i64 index_8.K]) (v := .int .i64 index_8.K) 1 Try.pu2 Try.pi2 rfl rfl rfl rfl (by decide) rfl) ?_)
  refine JL_op rfl (op_read rfl rfl (r_build (cs := [.int .i64 0, .int .i64 index_8.Var, .int .i64 index_8.K]) (vs := [(1, .int .i64 index_8.Var), (2, .int .i64 index_8.K)]) (pcs := [(1, [.int .i64 index_8.Var]), (2, [.int .i64 index_8.K])]) (pls := [(0, 1), (1, 1), (2, 1)]) Try.pu39 Try.pi39 rfl (by kernel_rfl) rfl ⟨rfl, rfl, ⟨rfl, rfl, trivial⟩⟩ rfl) ?_)
  refine J_front [2, 2, 2] ?_
  refine JL_op rfl (op_callN (f := 15) (fn := Try.f15) (args := [.pointer (some (Addr.add a_1 0)), .agg #[.int .i64 0, .int .i64 index_8.Var, .int .i64 index_8.K]]) (post := heap_Heap_Entails_post σ a_1 v_2 x_3 Vars_4 v_5 x_6 (.agg #[.int .i64 0, .int .i64 index_8.Var, .int .i64 index_8.K]) (⟨0, index_8.Var, index_8.K⟩ : Gdiff_Leq)) 3 rfl rfl rfl Try.func15 Try.pn15 rfl rfl (fun y st hy hpre => heap_Heap_Entails_ref st σ a_1 v_2 x_3 Vars_4 v_5 x_6 (.agg #[.int .i64 0, .int .i64 index_8.Var, .int .i64 index_8.K]) (⟨0, index_8.Var, index_8.K⟩ : Gdiff_Leq) (t_Gdiff_Leq_v.2 rfl) hpre y hy) ?_)
  intro r_17 v_19 s_22 PV_20 hr_18 hle_23 hp_21
  obtain ⟨rfl, rfl, rfl⟩ := hp_21
  refine JL_op rfl (op_read rfl rfl (r_move (v := .bool r_17) rfl) ?_)
  refine J_forkLB (e := r_17) 14 (fun (y : Bool) L τ PV => σ = τ ∧ L = [(28, .bool y)] ∧ PV = [.cell a_1 [v_2, .int .i64 Vars_4, v_5], .row o_Gheap_Chunk 49 v_2 x_3, .row (t_Gdiff_Leq).o 39 v_5 x_6]) (fun hc_24 hk => ?_) (fun hc_24 hk => ?_) ?_
  · refine JL_opg rfl rfl hc_24 (op_read rfl rfl (r_move (v := .pointer (some (Addr.add a_1 0))) rfl) ?_)
    refine JL_opg rfl rfl hc_24 (op_read rfl rfl (r_fieldAddr (r := Addr.add c_13 1) Try.pu33 (f := Try.pf33.getD 1 default) rfl Try.pi3 (by decide) rfl (Addr.add_add _ _ _)) ?_)
    refine JL_opg rfl rfl hc_24 (op_read rfl rfl (r_load_priv (a := c_13) (off := 1) (cs' := [.int .i64 index_8.Var]) (v := .int .i64 index_8.Var) 4 Try.pu3 Try.pi3 rfl rfl rfl rfl (by decide) rfl) ?_)
    refine JL_opg rfl rfl hc_24 (op_read rfl rfl (r_fieldAddr (r := Addr.add c_15 1) Try.pu33 (f := Try.pf33.getD 1 default) rfl Try.pi3 (by decide) rfl (Addr.add_add _ _ _)) ?_)
    refine JL_opg rfl rfl hc_24 (op_read rfl rfl (r_load_priv (a := c_15) (off := 1) (cs' := [.int .i64 size_11.Var]) (v := .int .i64 size_11.Var) 3 Try.pu3 Try.pi3 rfl rfl rfl rfl (by decide) rfl) ?_)
    refine JL_opg rfl rfl hc_24 (op_read rfl rfl (r_fieldAddr (r := Addr.add c_15 2) Try.pu33 (f := Try.pf33.getD 2 default) rfl Try.pi2 (by decide) rfl (Addr.add_add _ _ _)) ?_)
    refine JL_opg rfl rfl hc_24 (op_read rfl rfl (r_load_priv (a := c_15) (off := 2) (cs' := [.int .i64 size_11.K]) (v := .int .i64 size_11.K) 3 Try.pu2 Try.pi2 rfl rfl rfl rfl (by decide) rfl) ?_)
    refine JL_opg rfl rfl hc_24 (op_read rfl rfl (r_fieldAddr (r := Addr.add c_13 2) Try.pu33 (f := Try.pf33.getD 2 default) rfl Try.pi2 (by decide) rfl (Addr.add_add _ _ _)) ?_)
    refine JL_opg rfl rfl hc_24 (op_read rfl rfl (r_load_priv (a := c_13) (off := 2) (cs' := [.int .i64 index_8.K]) (v := .int .i64 index_8.K) 4 Try.pu2 Try.pi2 rfl rfl rfl rfl (by decide) rfl) ?_)
    refine JL_opg rfl rfl hc_24 (op_read rfl rfl (r_sub rfl rfl) ?_)
    refine JL_opg rfl rfl hc_24 (op_read rfl rfl (r_sub rfl rfl) ?_)
    refine JL_opg rfl rfl hc_24 (op_read rfl rfl (r_build (cs := [.int .i64 index_8.Var, .int .i64 size_11.Var, .int .i64 (IntKind.i64.wrap ((IntKind.i64.wrap (size_11.K - index_8.K)) - 1))]) (vs := [(0, .int .i64 index_8.Var), (1, .int .i64 size_11.Var), (2, .int .i64 (IntKind.i64.wrap ((IntKind.i64.wrap (size_11.K - index_8.K)) - 1)))]) (pcs := [(0, [.int .i64 index_8.Var]), (1, [.int .i64 size_11.Var]), (2, [.int .i64 (IntKind.i64.wrap ((IntKind.i64.wrap (size_11.K - index_8.K)) - 1))])]) (pls := [(0, 1), (1, 1), (2, 1)]) Try.pu39 Try.pi39 rfl (by kernel_rfl) rfl ⟨rfl, rfl, ⟨rfl, rfl, ⟨rfl, rfl, trivial⟩⟩⟩ rfl) ?_)
    refine J_assoc ?_
    refine JL_opg rfl rfl hc_24 (op_callN (f := 15) (fn := Try.f15) (args := [.pointer (some (Addr.add a_1 0)), .agg #[.int .i64 index_8.Var, .int .i64 size_11.Var, .int .i64 (IntKind.i64.wrap ((IntKind.i64.wrap (size_11.K - index_8.K)) - 1))]]) (post := heap_Heap_Entails_post σ a_1 v_2 x_3 Vars_4 v_5 x_6 (.agg #[.int .i64 index_8.Var, .int .i64 size_11.Var, .int .i64 (IntKind.i64.wrap ((IntKind.i64.wrap (size_11.K - index_8.K)) - 1))]) (⟨index_8.Var, size_11.Var, IntKind.i64.wrap ((IntKind.i64.wrap (size_11.K - index_8.K)) - 1)⟩ : Gdiff_Leq)) 3 rfl rfl rfl Try.func15 Try.pn15 rfl rfl (fun y st hy hpre => heap_Heap_Entails_ref st σ a_1 v_2 x_3 Vars_4 v_5 x_6 (.agg #[.int .i64 index_8.Var, .int .i64 size_11.Var, .int .i64 (IntKind.i64.wrap ((IntKind.i64.wrap (size_11.K - index_8.K)) - 1))]) (⟨index_8.Var, size_11.Var, IntKind.i64.wrap ((IntKind.i64.wrap (size_11.K - index_8.K)) - 1)⟩ : Gdiff_Leq) (t_Gdiff_Leq_v.2 rfl) hpre y hy) ?_)
    intro r_26 v_28 s_31 PV_29 hr_27 hle_32 hp_30
    obtain ⟨rfl, rfl, rfl⟩ := hp_30
    refine JL_op rfl (op_read rfl rfl (r_pick_t (v := .bool r_26) rfl hc_24 rfl) ?_)
    refine J_keep [true, true, true, false, false] ?_
    refine J_prune _ ?_ fun b => hk r_26 _ b _ _ ⟨rfl, rfl, rfl⟩
    exact ⟨rfl, trivial⟩
  · refine JL_skip rfl rfl hc_24 rfl rfl ?_
    refine JL_skip rfl rfl hc_24 rfl rfl ?_
    refine JL_skip rfl rfl hc_24 rfl rfl ?_
    refine JL_skip rfl rfl hc_24 rfl rfl ?_
    refine JL_skip rfl rfl hc_24 rfl rfl ?_
    refine JL_skip rfl rfl hc_24 rfl rfl ?_
    refine JL_skip rfl rfl hc_24 rfl rfl ?_
    refine JL_skip rfl rfl hc_24 rfl rfl ?_
    refine JL_skip rfl rfl hc_24 rfl rfl ?_
    refine JL_skip rfl rfl hc_24 rfl rfl ?_
    refine JL_skip rfl rfl hc_24 rfl rfl ?_
    refine JL_skip rfl rfl hc_24 rfl rfl ?_
    refine JL_skip rfl rfl hc_24 rfl rfl ?_
    refine JL_op rfl (op_read rfl rfl (r_pick_f (v := .bool false) rfl hc_24 rfl) ?_)
    refine J_keep [true, true, true, false, false] ?_
    refine J_prune _ ?_ fun b => hk false _ b _ _ ⟨rfl, rfl, rfl⟩
    exact ⟨rfl, trivial⟩
  · rintro y_25 _ b s_35 _ ⟨rfl, rfl, rfl⟩
    refine JL_op rfl (op_read rfl rfl (r_assign (v := .bool y_25) rfl) ?_)
    refine JL_nil ?_
    refine J_then ?_
    refine J_ret ?_
    exact J_returnV1 (PV' := [.cell a_1 [v_2, .int .i64 Vars_4, v_5], .row o_Gheap_Chunk 49 v_2 x_3, .row (t_Gdiff_Leq).o 39 v_5 x_6]) rfl rv_tmp [0, 1, 2] (by decide) rfl ⟨rfl, rfl, rfl⟩
end Go.Px
