/- The calls do what the models say, part 3. -/
import Derived.Test.YtdgfgjdoahoadaaMd
import Derived.Test.YtdgfgjdoahoadaaRf1
import Derived.Test.YtdgfgjdoahoadaaRf2
namespace Go.Px
open Go.Proofs
set_option linter.unusedVariables false
def heap_Over_post (σ0 : FS) (v_1 : Value) (facts_2 : Sl Gdiff_Leq) (v_4 : Value) (x_5 : Sl Gheap_Sym) (r : (Sl Gdiff_Leq)) (σ : FS) (PV : List Priv) (v : Value) : Prop :=
  ∃ (w0 : Value), σ0 = σ ∧ w0 = v ∧ PV = [.row (t_Gdiff_Leq).o 39 w0 r, .row (t_Gheap_Sym).o 33 v_4 x_5]
set_option maxRecDepth 100000 in
theorem heap_Over_ref (s : Start) (σ : FS) (v_1 : Value) (facts_2 : Sl Gdiff_Leq) (h_3 : (tSl t_Gdiff_Leq).vrel σ v_1 facts_2) (v_4 : Value) (x_5 : Sl Gheap_Sym) (hs : Pre s σ [.row (t_Gheap_Sym).o 33 v_4 x_5]) (r : (Sl Gdiff_Leq)) (hr : heap_Over facts_2 x_5 = some r) : Does Try.prog 12 [v_1, v_4] s σ (heap_Over_post σ v_1 facts_2 v_4 x_5 r) := by
  unfold heap_Over at hr
  refine does_of_J Try.func12 rfl (n := 48) rfl rfl hs hr ?_
  refine J_seq ?_
  refine J_region ?_
  refine J_row_one 0 rfl fun h_6 => ?_
  refine JL_op rfl (op_box (cs := [v_4]) rfl (one_cells h_6) ?_)
  intro c_7
  refine JL_op rfl (op_read rfl rfl (r_assign (v := .slice none 0 0) rfl) ?_)
  refine JL_nil ?_
  refine J_then ?_
  refine J_seq ?_
  refine J_region ?_
  refine JL_op rfl (op_read rfl rfl (r_makeFunc (fs := []) (cs := [.pointer (some (Addr.add c_7 0))]) rfl rfl) ?_)
  refine JL_op rfl (op_read rfl rfl (r_assign (v := .func (.func 27) #[] #[.pointer (some (Addr.add c_7 0))]) rfl) ?_)
  refine JL_nil ?_
  refine J_then ?_
  refine J_seq ?_
  refine J_region ?_
  refine JL_op rfl (op_read rfl rfl (r_assign (v := .slice none 0 0) rfl) ?_)
  refine JL_nil ?_
  refine J_then ?_
  refine J_seq ?_
  refine J_seq ?_
  refine J_region ?_
  refine JL_op rfl (op_read rfl rfl (r_move (v := v_1) rfl) ?_)
  refine JL_op rfl (op_read rfl rfl (r_len_frozen (v := v_1) Try.pu22 rfl h_3) ?_)
  refine JL_op rfl (op_read rfl rfl (r_move (v := .int .i64 0) rfl) ?_)
  refine JL_nil ?_
  refine J_then ?_
  refine J_block ?_
  refine J_nil_row (t_Gdiff_Leq).o 39 ?_
  refine J_front [1, 1] ?_
  refine J_loop (fun (y : (Sl Gdiff_Leq) × Int) L τ PV => ∃ (w0 : Value), σ = τ ∧ L = [(5, .func (.func 27) #[] #[.pointer (some (Addr.add c_7 0))]), (6, w0), (14, v_1), (15, .int .i64 facts_2.len), (16, .int .i64 y.2)] ∧ PV = [.cell c_7 [v_4], .row (t_Gheap_Sym).o 33 v_4 x_5, .row (t_Gdiff_Leq).o 39 w0 y.1]) (fun (y : (Sl Gdiff_Leq)) e L τ PV => e = .exit 0 ∧ (∃ (w0 : Value), σ = τ ∧ L = [(6, w0)] ∧ PV = [.row (t_Gdiff_Leq).o 39 w0 y, .row (t_Gheap_Sym).o 33 v_4 x_5])) _ ?_ ⟨(.slice none 0 0), rfl, rfl, rfl⟩ ?_ ?_
  · exact ⟨rfl, rfl, rfl, rfl, rfl, trivial⟩
  · rintro x_10 _ b s_15 _ ⟨v_14, rfl, rfl, rfl⟩
    unfold heap_Over_L1
    refine J_seq ?_
    refine J_region ?_
    refine JL_op rfl (op_read rfl rfl (r_lss rfl rfl) ?_)
    refine JL_nil ?_
    refine J_then ?_
    refine J_seq ?_
    refine J_cond rfl (fun hc_16 => ?_) (fun hc_16 => ?_)
    · refine J_skip ?_
      refine J_then ?_
      refine J_seq ?_
      refine J_block ?_
      refine J_seq ?_
      refine J_region ?_
      refine J_bind fun x_17 hx_18 => ?_
      refine JL_op rfl (op_read rfl rfl (r_index_frozen (v := v_1) (T := t_Gdiff_Leq) (q := x_17) Try.pu22 Try.pi39 rfl rfl rfl h_3 hx_18) ?_)
      refine JL_op rfl (op_reads rfl rfl (l_elem_frozen (v := v_1) (T := t_Gdiff_Leq) (Tf := t_Gdiff_Leq) (q := x_17) (i := x_10.2) (off := 0) Try.pu39 Try.pi39 rfl rfl rfl h_3 hx_18 (FieldAt.self _) (by decide)) ?_)
      intro v_19 h_20
      obtain rfl := t_Gdiff_Leq_v.1 h_20
      refine JL_op rfl (op_alloc (cs := [.int .i64 0, .int .i64 0, .int .i64 0]) rfl Try.pi39 rfl rfl ?_)
      intro c_21
      refine JL_op rfl (op_store_priv (a := c_21) (off := 0) (vs := [.int .i64 x_17.X, .int .i64 x_17.Y, .int .i64 x_17.C]) (cs' := [.int .i64 x_17.X, .int .i64 x_17.Y, .int .i64 x_17.C]) (PV' := [.cell c_21 [.int .i64 x_17.X, .int .i64 x_17.Y, .int .i64 x_17.C], .cell c_7 [v_4], .row (t_Gheap_Sym).o 33 v_4 x_5, .row (t_Gdiff_Leq).o 39 v_14 x_10.1]) 0 Try.pi39 rfl rfl rfl ⟨rfl, rfl, rfl, trivial⟩ rfl rfl rfl rfl rfl ?_)
      refine JL_nil ?_
      refine J_then ?_
      refine J_seq ?_
      refine J_region ?_
      refine JL_op rfl (op_read rfl rfl (r_move (v := .func (.func 27) #[] #[.pointer (some (Addr.add c_7 0))]) rfl) ?_)
      refine JL_op rfl (op_read rfl rfl (r_fieldAddr (r := Addr.add c_21 0) Try.pu39 (f := Try.pf39.getD 0 default) rfl Try.pi3 (by decide) rfl (Addr.add_add _ _ _)) ?_)
      refine JL_op rfl (op_read rfl rfl (r_load_priv (a := c_21) (off := 0) (cs' := [.int .i64 x_17.X]) (v := .int .i64 x_17.X) 0 Try.pu3 Try.pi3 rfl rfl rfl rfl (by decide) rfl) ?_)
      refine J_front [1, 1] ?_
      refine JL_op rfl (op_callN (f := 27) (fn := Try.f27) (args := [.int .i64 x_17.X, .pointer (some (Addr.add c_7 0))]) (post := heap_Over_1_post σ x_17.X c_7 v_4 x_5) 2 rfl rfl rfl Try.func27 Try.pn27 rfl rfl (fun y st hy hpre => heap_Over_1_ref st σ x_17.X c_7 v_4 x_5 hpre y hy) ?_)
      intro r_23 v_25 s_28 PV_26 hr_24 hle_29 hp_27
      obtain ⟨rfl, rfl, rfl⟩ := hp_27
      refine JL_op rfl (op_read rfl rfl (r_move (v := .tuple #[.int .i64 r_23.1, .int .i64 r_23.2]) rfl) ?_)
      refine JL_op rfl (op_read rfl rfl (r_extract (v := .int .i64 r_23.1) rfl rfl) ?_)
      refine JL_op rfl (op_read rfl rfl (r_extract (v := .int .i64 r_23.2) rfl rfl) ?_)
      refine JL_op rfl (op_read rfl rfl (r_assign (v := .int .i64 r_23.1) rfl) ?_)
      refine JL_op rfl (op_read rfl rfl (r_assign (v := .int .i64 r_23.2) rfl) ?_)
      refine JL_nil ?_
      refine J_then ?_
      refine J_seq ?_
      refine J_region ?_
      refine JL_op rfl (op_read rfl rfl (r_move (v := .func (.func 27) #[] #[.pointer (some (Addr.add c_7 0))]) rfl) ?_)
      refine JL_op rfl (op_read rfl rfl (r_fieldAddr (r := Addr.add c_21 1) Try.pu39 (f := Try.pf39.getD 1 default) rfl Try.pi3 (by decide) rfl (Addr.add_add _ _ _)) ?_)
      refine JL_op rfl (op_read rfl rfl (r_load_priv (a := c_21) (off := 1) (cs' := [.int .i64 x_17.Y]) (v := .int .i64 x_17.Y) 2 Try.pu3 Try.pi3 rfl rfl rfl rfl (by decide) rfl) ?_)
      refine JL_op rfl (op_callN (f := 27) (fn := Try.f27) (args := [.int .i64 x_17.Y, .pointer (some (Addr.add c_7 0))]) (post := heap_Over_1_post σ x_17.Y c_7 v_4 x_5) 2 rfl rfl rfl Try.func27 Try.pn27 rfl rfl (fun y st hy hpre => heap_Over_1_ref st σ x_17.Y c_7 v_4 x_5 hpre y hy) ?_)
      intro r_30 v_32 s_35 PV_33 hr_31 hle_36 hp_34
      obtain ⟨rfl, rfl, rfl⟩ := hp_34
      refine JL_op rfl (op_read rfl rfl (r_move (v := .tuple #[.int .i64 r_30.1, .int .i64 r_30.2]) rfl) ?_)
      refine JL_op rfl (op_read rfl rfl (r_extract (v := .int .i64 r_30.1) rfl rfl) ?_)
      refine JL_op rfl (op_read rfl rfl (r_extract (v := .int .i64 r_30.2) rfl rfl) ?_)
      refine JL_op rfl (op_read rfl rfl (r_assign (v := .int .i64 r_30.1) rfl) ?_)
      refine JL_op rfl (op_read rfl rfl (r_assign (v := .int .i64 r_30.2) rfl) ?_)
      refine JL_nil ?_
      refine J_then ?_
      refine J_region ?_
      refine JL_op rfl (op_read rfl rfl (r_move (v := v_14) rfl) ?_)
      refine JL_op rfl (op_read rfl rfl (r_move (v := .int .i64 r_23.1) rfl) ?_)
      refine JL_op rfl (op_read rfl rfl (r_move (v := .int .i64 r_30.1) rfl) ?_)
      refine JL_op rfl (op_read rfl rfl (r_fieldAddr (r := Addr.add c_21 2) Try.pu39 (f := Try.pf39.getD 2 default) rfl Try.pi2 (by decide) rfl (Addr.add_add _ _ _)) ?_)
      refine JL_op rfl (op_read rfl rfl (r_load_priv (a := c_21) (off := 2) (cs' := [.int .i64 x_17.C]) (v := .int .i64 x_17.C) 2 Try.pu2 Try.pi2 rfl rfl rfl rfl (by decide) rfl) ?_)
      refine JL_op rfl (op_read rfl rfl (r_move (v := .int .i64 r_23.2) rfl) ?_)
      refine JL_op rfl (op_read rfl rfl (r_sub rfl rfl) ?_)
      refine JL_op rfl (op_read rfl rfl (r_move (v := .int .i64 r_30.2) rfl) ?_)
      refine JL_op rfl (op_read rfl rfl (r_add rfl rfl) ?_)
      refine JL_op rfl (op_read rfl rfl (r_build (cs := [.int .i64 r_23.1, .int .i64 r_30.1, .int .i64 (IntKind.i64.wrap ((IntKind.i64.wrap (x_17.C - r_23.2)) + r_30.2))]) (vs := [(0, .int .i64 r_23.1), (1, .int .i64 r_30.1), (2, .int .i64 (IntKind.i64.wrap ((IntKind.i64.wrap (x_17.C - r_23.2)) + r_30.2)))]) (pcs := [(0, [.int .i64 r_23.1]), (1, [.int .i64 r_30.1]), (2, [.int .i64 (IntKind.i64.wrap ((IntKind.i64.wrap (x_17.C - r_23.2)) + r_30.2))])]) (pls := [(0, 1), (1, 1), (2, 1)]) Try.pu39 Try.pi39 rfl (by kernel_rfl) rfl ⟨rfl, rfl, ⟨rfl, rfl, ⟨rfl, rfl, trivial⟩⟩⟩ rfl) ?_)
      refine JL_op rfl (op_buildSlice (T := (t_Gdiff_Leq).o) (vs := [.agg #[.int .i64 r_23.1, .int .i64 r_30.1, .int .i64 (IntKind.i64.wrap ((IntKind.i64.wrap (x_17.C - r_23.2)) + r_30.2))]]) (xs := [(⟨r_23.1, r_30.1, IntKind.i64.wrap ((IntKind.i64.wrap (x_17.C - r_23.2)) + r_30.2)⟩ : Gdiff_Leq)]) [] [.cell c_7 [v_4], .row (t_Gheap_Sym).o 33 v_4 x_5, .cell c_21 [.int .i64 x_17.X, .int .i64 x_17.Y, .int .i64 x_17.C], .row (t_Gdiff_Leq).o 39 v_14 x_10.1] rfl Try.pu22 Try.pi39 rfl rfl rfl rfl rfl rfl (relsO_cons (A := []) (B := []) (u := .agg #[.int .i64 r_23.1, .int .i64 r_30.1, .int .i64 (IntKind.i64.wrap ((IntKind.i64.wrap (x_17.C - r_23.2)) + r_30.2))]) (x := (⟨r_23.1, r_30.1, IntKind.i64.wrap ((IntKind.i64.wrap (x_17.C - r_23.2)) + r_30.2)⟩ : Gdiff_Leq)) (fix_vrel (T := (t_Gdiff_Leq).o) rfl (t_Gdiff_Leq_v.2 rfl)) relsO_nil) ?_)
      intro v_37
      refine J_front [4] ?_
      refine JL_op rfl (op_append (v := v_14) (u := v_37) (T := (t_Gdiff_Leq).o) (ts := [(⟨r_23.1, r_30.1, IntKind.i64.wrap ((IntKind.i64.wrap (x_17.C - r_23.2)) + r_30.2)⟩ : Gdiff_Leq)]) [] [.row (t_Gdiff_Leq).o 39 v_37 (⟨[(⟨r_23.1, r_30.1, IntKind.i64.wrap ((IntKind.i64.wrap (x_17.C - r_23.2)) + r_30.2)⟩ : Gdiff_Leq)], true⟩ : Sl Gdiff_Leq), .cell c_7 [v_4], .row (t_Gheap_Sym).o 33 v_4 x_5, .cell c_21 [.int .i64 x_17.X, .int .i64 x_17.Y, .int .i64 x_17.C]] rfl Try.pu22 Try.pi39 rfl rfl rfl rfl rfl rfl (source_copy (s := (⟨[(⟨r_23.1, r_30.1, IntKind.i64.wrap ((IntKind.i64.wrap (x_17.C - r_23.2)) + r_30.2)⟩ : Gdiff_Leq)], true⟩ : Sl Gdiff_Leq)) 1 rfl) ?_)
      intro s_40 v_39 hs_41
      refine JL_op rfl (op_read rfl rfl (r_assign (v := v_39) rfl) ?_)
      refine JL_nil ?_
      refine J_in_normal ?_
      refine J_then ?_
      refine J_region ?_
      refine JL_op rfl (op_read rfl rfl (r_add rfl rfl) ?_)
      refine JL_op rfl (op_read rfl rfl (r_move (v := .int .i64 (IntKind.i64.wrap (x_10.2 + 1))) rfl) ?_)
      refine JL_nil ?_
      refine J_keep [true, false, true, true, false] ?_
      refine J_front [1, 1] ?_
      refine J_next _ ?_ ⟨v_39, rfl, rfl, rfl⟩
      exact ⟨rfl, rfl, rfl, rfl, rfl, trivial⟩
    · refine J_exit ?_
      refine J_then_exit ?_
      refine J_keep [false, true, true] ?_
      refine J_front [1] ?_
      refine J_done trivial _ ?_ ⟨rfl, v_14, rfl, rfl, rfl⟩
      exact ⟨rfl, trivial⟩
  · rintro y_42 _ _ b s_47 _ ⟨rfl, ⟨v_46, rfl, rfl, rfl⟩⟩
    refine J_in_exit ?_
    refine J_then ?_
    refine J_seq ?_
    refine J_region ?_
    refine JL_op rfl (op_read rfl rfl (r_move (v := v_46) rfl) ?_)
    refine JL_op rfl (op_read rfl rfl (r_assign (v := v_46) rfl) ?_)
    refine JL_nil ?_
    refine J_then ?_
    refine J_ret ?_
    exact J_returnV1 (PV' := [.row (t_Gdiff_Leq).o 39 v_46 y_42, .row (t_Gheap_Sym).o 33 v_4 x_5]) rfl rv_tmp [0, 1] (by decide) rfl ⟨v_46, rfl, rfl, rfl⟩
def heap_Heap_Lock_post (σ0 : FS) (a_1 : Addr) (v_2 : Value) (x_3 : Sl Gheap_Chunk) (Vars_4 : Int) (v_5 : Value) (x_6 : Sl Gdiff_Leq) (v_7 : Value) (p_8 : Gheap_Sym) (n_10 : Int) (v_11 : Value) (facts_12 : Sl Gdiff_Leq) (r : Int × (Sl Gheap_Chunk) × Int × (Sl Gdiff_Leq)) (σ : FS) (PV : List Priv) (v : Value) : Prop :=
  ∃ (w0 : Value) (w1 : Value), σ0 = σ ∧ .int .i64 r.1 = v ∧ PV = [.cell a_1 [w0, .int .i64 r.2.2.1, w1], .row o_Gheap_Chunk 49 w0 r.2.1, .row (t_Gdiff_Leq).o 39 w1 r.2.2.2]
set_option maxRecDepth 100000 in
theorem heap_Heap_Lock_ref (s : Start) (σ : FS) (a_1 : Addr) (v_2 : Value) (x_3 : Sl Gheap_Chunk) (Vars_4 : Int) (v_5 : Value) (x_6 : Sl Gdiff_Leq) (v_7 : Value) (p_8 : Gheap_Sym) (h_9 : t_Gheap_Sym.vrel σ v_7 p_8) (n_10 : Int) (v_11 : Value) (facts_12 : Sl Gdiff_Leq) (h_13 : (tSl t_Gdiff_Leq).vrel σ v_11 facts_12) (hs : Pre s σ [.cell a_1 [v_2, .int .i64 Vars_4, v_5], .row o_Gheap_Chunk 49 v_2 x_3, .row (t_Gdiff_Leq).o 39 v_5 x_6]) (r : Int × (Sl Gheap_Chunk) × Int × (Sl Gdiff_Leq)) (hr : heap_Heap_Lock x_3 Vars_4 x_6 p_8 n_10 facts_12 = some r) : Does Try.prog 26 [.pointer (some (Addr.add a_1 0)), v_7, .int .i64 n_10, v_11] s σ (heap_Heap_Lock_post σ a_1 v_2 x_3 Vars_4 v_5 x_6 v_7 p_8 n_10 v_11 facts_12 r) := by
  unfold heap_Heap_Lock at hr
  obtain rfl := t_Gheap_Sym_v.1 h_9
  refine does_of_J Try.func26 rfl (n := 85) rfl rfl hs hr ?_
  refine J_seq ?_
  refine J_region ?_
  refine JL_op rfl (op_box (cs := [.int .i64 p_8.Kind, .int .i64 p_8.Var, .int .i64 p_8.K, .int .i64 p_8.Block]) rfl rfl ?_)
  intro c_14
  refine JL_op rfl (op_read rfl rfl (r_assign (v := .int .i64 0) rfl) ?_)
  refine JL_nil ?_
  refine J_then ?_
  refine J_seq ?_
  refine J_seq ?_
  refine J_region ?_
  refine JL_op rfl (op_read rfl rfl (r_move (v := .pointer (some (Addr.add a_1 0))) rfl) ?_)
  refine JL_op rfl (op_read rfl rfl (r_load_priv (a := c_14) (off := 0) (cs' := [.int .i64 p_8.Kind, .int .i64 p_8.Var, .int .i64 p_8.K, .int .i64 p_8.Block]) (v := .agg #[.int .i64 p_8.Kind, .int .i64 p_8.Var, .int .i64 p_8.K, .int .i64 p_8.Block]) 0 Try.pu33 Try.pi33 rfl rfl rfl rfl (by decide) rfl) ?_)
  refine JL_op rfl (op_read rfl rfl (r_move (v := .int .i64 n_10) rfl) ?_)
  refine J_front [1, 1, 1] ?_
  refine JL_op rfl (op_callN (f := 54) (fn := Try.f54) (args := [.pointer (some (Addr.add a_1 0)), .agg #[.int .i64 p_8.Kind, .int .i64 p_8.Var, .int .i64 p_8.K, .int .i64 p_8.Block], .int .i64 n_10, .bool false]) (post := heap_Heap_lock_post σ a_1 v_2 x_3 Vars_4 v_5 x_6 (.agg #[.int .i64 p_8.Kind, .int .i64 p_8.Var, .int .i64 p_8.K, .int .i64 p_8.Block]) p_8 n_10 false) 3 rfl rfl rfl Try.func54 Try.pn54 rfl rfl (fun y st hy hpre => heap_Heap_lock_ref st σ a_1 v_2 x_3 Vars_4 v_5 x_6 (.agg #[.int .i64 p_8.Kind, .int .i64 p_8.Var, .int .i64 p_8.K, .int .i64 p_8.Block]) p_8 (t_Gheap_Sym_v.2 rfl) n_10 false hpre y hy) ?_)
  intro r_16 v_18 s_21 PV_19 hr_17 hle_22 hp_20
  obtain ⟨rfl, rfl, rfl⟩ := hp_20
  refine JL_op rfl (op_read rfl rfl (r_move (v := .tuple #[peOpt v_2 (o_Gheap_Chunk).size r_16.1, .int .i64 r_16.2]) rfl) ?_)
  refine JL_op rfl (op_read rfl rfl (r_extract (v := peOpt v_2 (o_Gheap_Chunk).size r_16.1) rfl rfl) ?_)
  refine JL_op rfl (op_read rfl rfl (r_extract (v := .int .i64 r_16.2) rfl rfl) ?_)
  refine JL_op rfl (op_read rfl rfl (r_assign (v := peOpt v_2 (o_Gheap_Chunk).size r_16.1) rfl) ?_)
  refine JL_op rfl (op_read rfl rfl (r_assign (v := .int .i64 r_16.2) rfl) ?_)
  refine JL_nil ?_
  refine J_then ?_
  refine J_seq ?_
  refine J_region ?_
  refine JL_op rfl (op_read rfl rfl (r_move (v := .int .i64 r_16.2) rfl) ?_)
  refine JL_op rfl (op_read rfl rfl (r_neq rfl rfl) ?_)
  refine JL_nil ?_
  refine J_then ?_
  refine J_cond rfl (fun hc_23 => ?_) (fun hc_23 => ?_)
  · refine J_seq ?_
    refine J_region ?_
    refine JL_op rfl (op_read rfl rfl (r_move (v := .int .i64 r_16.2) rfl) ?_)
    refine JL_op rfl (op_read rfl rfl (r_assign (v := .int .i64 r_16.2) rfl) ?_)
    refine JL_nil ?_
    refine J_then ?_
    refine J_ret ?_
    refine J_then_ret ?_
    exact J_returnV1 (PV' := [.cell a_1 [v_2, .int .i64 Vars_4, v_5], .row o_Gheap_Chunk 49 v_2 x_3, .row (t_Gdiff_Leq).o 39 v_5 x_6]) rfl rv_tmp [1, 0, 2] (by decide) rfl ⟨v_2, v_5, rfl, rfl, rfl⟩
  · refine J_skip ?_
    refine J_then ?_
    refine J_seq ?_
    refine J_region ?_
    refine JL_op rfl (op_read rfl rfl (r_move (v := .pointer (some (Addr.add a_1 0))) rfl) ?_)
    refine J_front [1] ?_
    refine JL_op rfl (op_lentN (f := 17) (fn := Try.f17) (args := [.pointer (some (Addr.add a_1 0))]) (F := fun τ => (tSl t_Gheap_Chunk).vrel τ v_2 x_3 ∧ (tSl t_Gdiff_Leq).vrel τ v_5 x_6 ∧ True) (post := fun τ => heap_Heap_Copy_post τ a_1 v_2 x_3 Vars_4 v_5 x_6) 1 rfl rfl rfl Try.func17 Try.pn17 rfl rfl (fun h hl hs => ⟨view_row hl hs 0 rfl, view_row hl hs 1 rfl, trivial⟩) (fun y st τ hy hF_24 hl hpre => heap_Heap_Copy_ref st τ a_1 v_2 x_3 hF_24.1 Vars_4 v_5 x_6 hF_24.2.1 hpre y hy) (fun y v τ σ2 A2 hy hF hl hl2 hp => by obtain ⟨c_35, v_37, v_39, rfl, rfl, rfl⟩ := hp; infer_instance) ?_)
    intro r_26 v_28 t_33 s_31 PV_29 hr_27 hF_24 hl_25 hp_30
    obtain ⟨c_35, v_37, v_39, rfl, rfl, rfl⟩ := hp_30
    refine JL_op rfl (op_read rfl rfl (r_assign (v := .pointer (some (Addr.add c_35 0))) rfl) ?_)
    refine JL_nil ?_
    refine J_then ?_
    refine J_seq ?_
    refine J_region_any 8 [.cell c_35 [v_37, .int .i64 Vars_4, v_39], .row o_Gheap_Chunk 49 v_37 r_26.1, .row (t_Gdiff_Leq).o 39 v_39 r_26.2, .cell a_1 [v_2, .int .i64 Vars_4, v_5], .row o_Gheap_Chunk 49 v_2 x_3, .row (t_Gdiff_Leq).o 39 v_5 x_6, .cell c_14 [.int .i64 p_8.Kind, .int .i64 p_8.Var, .int .i64 p_8.K, .int .i64 p_8.Block]] Try.mixed (by kernel_rfl) fun hns => ?_
    refine JA_takep 0 rfl hns (by kernel_rfl) (by kernel_rfl) rfl (.inr (by exact HeldOK.same [0, 1, 2, 3, 4, 5, 6] (by decide) rfl)) rfl rfl rfl (r_move (v := .pointer (some (Addr.add c_35 0))) rfl) ?_
    refine JA_takep 1 rfl hns (by kernel_rfl) (by kernel_rfl) rfl (.inr (by exact HeldOK.same [0, 1, 2, 3, 4, 5, 6] (by decide) rfl)) rfl rfl rfl (r_nilCheck (a := (Addr.add c_35 0)) rfl) ?_
    refine JA_takep 2 rfl hns (by kernel_rfl) (by kernel_rfl) rfl (.inr (by exact HeldOK.same [0, 1, 2, 3, 4, 5, 6] (by decide) rfl)) rfl rfl rfl (r_fieldAddr (r := Addr.add c_35 0) Try.pu28 (f := Try.pf28.getD 0 default) rfl Try.pi26 (by decide) rfl (Addr.add_add _ _ _)) ?_
    refine JA_take 3 rfl hns (by kernel_rfl) (by kernel_rfl) (by kernel_rfl) rfl (by kernel_rfl) (by exact HeldOK.same [0, 1, 2, 3, 4, 5, 6] (by decide) rfl) rfl rfl rfl (r_load_priv (a := c_35) (off := 0) (cs' := [v_37]) (v := v_37) 0 Try.pu26 Try.pi26 rfl rfl rfl rfl (by decide) rfl) ?_
    refine JA_takep 4 rfl hns (by kernel_rfl) (by kernel_rfl) rfl (.inr (by exact HeldOK.same [0, 1, 2, 3, 4, 5, 6] (by decide) rfl)) rfl rfl rfl (r_fieldAddr (r := Addr.add c_14 3) Try.pu33 (f := Try.pf33.getD 3 default) rfl Try.pi3 (by decide) rfl (Addr.add_add _ _ _)) ?_
    refine JA_take 5 rfl hns (by kernel_rfl) (by kernel_rfl) (by kernel_rfl) rfl (by kernel_rfl) (by exact HeldOK.same [0, 1, 2, 3, 4, 5, 6] (by decide) rfl) rfl rfl rfl (r_load_priv (a := c_14) (off := 3) (cs' := [.int .i64 p_8.Block]) (v := .int .i64 p_8.Block) 6 Try.pu3 Try.pi3 rfl rfl rfl rfl (by decide) rfl) ?_
    refine J_bind fun x_41 hx_42 => ?_
    refine JA_take 6 rfl hns (by kernel_rfl) (by kernel_rfl) (by kernel_rfl) rfl (by kernel_rfl) (by exact HeldOK.same [0, 1, 2, 3, 4, 5, 6] (by decide) rfl) rfl rfl rfl (r_index_row (v := v_37) (T := o_Gheap_Chunk) (q := x_41) 1 Try.pu26 Try.pi49 rfl rfl rfl rfl hx_42) ?_
    refine JA_takep 7 rfl hns (by kernel_rfl) (by kernel_rfl) rfl (.inr (by exact HeldOK.same [0, 1, 2, 3, 4, 5, 6] (by decide) rfl)) rfl rfl rfl (r_assign (v := .pointer (some (elemAddr v_37 ((p_8.Block).toNat * (o_Gheap_Chunk).size + 0)))) rfl) ?_
    refine JA_done (by kernel_rfl) ?_
    refine J_then ?_
    refine J_seq ?_
    refine J_seq ?_
    refine J_region ?_
    refine JL_op rfl (op_read rfl rfl (r_move (v := .pointer (some (elemAddr v_37 ((p_8.Block).toNat * (o_Gheap_Chunk).size + 0)))) rfl) ?_)
    refine JL_op rfl (op_read rfl rfl (r_nilCheck (a := (elemAddr v_37 ((p_8.Block).toNat * (o_Gheap_Chunk).size + 0))) rfl) ?_)
    refine JL_op rfl (op_read rfl rfl (r_fieldAddr (r := elemAddr v_37 ((p_8.Block).toNat * (o_Gheap_Chunk).size + 10)) Try.pu49 (f := Try.pf49.getD 7 default) rfl Try.pi23 (by decide) rfl (elemAddr_add _ _ _)) ?_)
    refine J_front [1] ?_
    refine J_take (T := o_Gheap_Chunk) (i := p_8.Block) hx_42 fun u_44 hu_43 => ?_
    obtain ⟨_, _, _, _, _, _, _, v_45⟩ := u_44
    change J _ _ _ _ _ _ _ _ [.hole (fun x => .elem o_Gheap_Chunk (elemAddr v_37 ((p_8.Block).toNat * (o_Gheap_Chunk).size)) x) (fun x => .row o_Gheap_Chunk 49 v_37 (Sl.set r_26.1 p_8.Block x)), .cell (elemAddr v_37 ((p_8.Block).toNat * (o_Gheap_Chunk).size)) [.int .i64 x_41.Origin, .int .i64 x_41.Type_, .int .i64 x_41.At, .bool x_41.Live, .bool x_41.Held, .bool x_41.Array, .int .i64 x_41.Size.Kind, .int .i64 x_41.Size.Var, .int .i64 x_41.Size.K, .int .i64 x_41.Size.Block, v_45], .row (t_Gheap_Sym).o 33 v_45 x_41.Cells, .cell c_35 [v_37, .int .i64 Vars_4, v_39], .row (t_Gdiff_Leq).o 39 v_39 r_26.2, .cell a_1 [v_2, .int .i64 Vars_4, v_5], .row o_Gheap_Chunk 49 v_2 x_3, .row (t_Gdiff_Leq).o 39 v_5 x_6, .cell c_14 [.int .i64 p_8.Kind, .int .i64 p_8.Var, .int .i64 p_8.K, .int .i64 p_8.Block]]
    refine JL_op rfl (op_read rfl rfl (r_load_priv (a := (elemAddr v_37 ((p_8.Block).toNat * (o_Gheap_Chunk).size))) (off := 10) (cs' := [v_45]) (v := v_45) 1 Try.pu23 Try.pi23 (pe_add v_37 ((p_8.Block).toNat * (o_Gheap_Chunk).size) 10) rfl rfl rfl (by decide) rfl) ?_)
    refine JL_op rfl (op_read rfl rfl (r_len_row (v := v_45) 2 Try.pu23 rfl rfl) ?_)
    refine JL_op rfl (op_read rfl rfl (r_move (v := .int .i64 0) rfl) ?_)
    refine JL_nil ?_
    refine J_then ?_
    refine J_block ?_
    refine J_put (T := o_Gheap_Chunk) (i := p_8.Block) (s := r_26.1) (s' := r_26.1) (A := [.row (t_Gheap_Sym).o 33 v_45 x_41.Cells]) (C := [.cell c_35 [v_37, .int .i64 Vars_4, v_39], .row (t_Gdiff_Leq).o 39 v_39 r_26.2, .cell a_1 [v_2, .int .i64 Vars_4, v_5], .row o_Gheap_Chunk 49 v_2 x_3, .row (t_Gdiff_Leq).o 39 v_5 x_6, .cell c_14 [.int .i64 p_8.Kind, .int .i64 p_8.Var, .int .i64 p_8.K, .int .i64 p_8.Block]]) x_41 ((), (), (), (), (), (), (), v_45) ⟨trivial, trivial, trivial, trivial, trivial, trivial, trivial, trivial⟩ rfl rfl (Sl.set_same hx_42) ?_
    refine J_keep [true, true, true, true, true, true, false] ?_
    refine J_front [3, 3, 3, 1] ?_
    refine J_loop (fun (y : (Sl Gheap_Chunk) × Int × (Sl Gdiff_Leq) × Int) L τ PV => ∃ (w0 : Value), σ = τ ∧ L = [(0, .pointer (some (Addr.add a_1 0))), (3, v_11), (11, .pointer (some (Addr.add c_35 0))), (12, .pointer (some (elemAddr v_37 ((p_8.Block).toNat * (o_Gheap_Chunk).size + 0)))), (40, .int .i64 x_41.Cells.len), (41, .int .i64 y.2.2.2)] ∧ PV = [.cell a_1 [v_2, .int .i64 Vars_4, v_5], .row o_Gheap_Chunk 49 v_2 x_3, .row (t_Gdiff_Leq).o 39 v_5 x_6, .cell c_35 [v_37, .int .i64 y.2.1, w0], .row o_Gheap_Chunk 49 v_37 y.1, .row (t_Gdiff_Leq).o 39 w0 y.2.2.1]) (fun (y : W2 ((Sl Gheap_Chunk) × Int × (Sl Gdiff_Leq)) Int) e L τ PV => match y, e with | .a y, e => e = .exit 0 ∧ (∃ (w0 : Value), σ = τ ∧ L = [(0, .pointer (some (Addr.add a_1 0))), (3, v_11), (11, .pointer (some (Addr.add c_35 0))), (12, .pointer (some (elemAddr v_37 ((p_8.Block).toNat * (o_Gheap_Chunk).size + 0))))] ∧ PV = [.cell a_1 [v_2, .int .i64 Vars_4, v_5], .row o_Gheap_Chunk 49 v_2 x_3, .row (t_Gdiff_Leq).o 39 v_5 x_6, .cell c_35 [v_37, .int .i64 y.2.1, w0], .row o_Gheap_Chunk 49 v_37 y.1, .row (t_Gdiff_Leq).o 39 w0 y.2.2]) | .b y, e => e = .ret ∧ (σ = τ ∧ L = [(8, .int .i64 y)] ∧ PV = [.cell a_1 [v_2, .int .i64 Vars_4, v_5], .row o_Gheap_Chunk 49 v_2 x_3, .row (t_Gdiff_Leq).o 39 v_5 x_6])) _ ?_ ⟨v_39, rfl, rfl, rfl⟩ ?_ ?_
    · exact ⟨rfl, rfl, rfl, rfl, rfl, rfl, trivial⟩
    · rintro x_46 _ b s_50 _ ⟨v_49, rfl, rfl, rfl⟩
      unfold heap_Heap_Lock_L1
      refine J_seq ?_
      refine J_region ?_
      refine JL_op rfl (op_read rfl rfl (r_lss rfl rfl) ?_)
      refine JL_nil ?_
      refine J_then ?_
      refine J_seq ?_
      refine J_cond rfl (fun hc_51 => ?_) (fun hc_51 => ?_)
      · refine J_skip ?_
        refine J_then ?_
        refine J_seq ?_
        refine J_cut (fun (y : W2 ((Sl Gheap_Chunk) × Int × (Sl Gdiff_Leq)) Int) e L τ PV => match y, e with | .a y, e => e = .normal ∧ (∃ (w0 : Value), σ = τ ∧ L = [(0, .pointer (some (Addr.add a_1 0))), (3, v_11), (11, .pointer (some (Addr.add c_35 0))), (12, .pointer (some (elemAddr v_37 ((p_8.Block).toNat * (o_Gheap_Chunk).size + 0)))), (40, .int .i64 x_41.Cells.len), (41, .int .i64 x_46.2.2.2)] ∧ PV = [.cell a_1 [v_2, .int .i64 Vars_4, v_5], .row o_Gheap_Chunk 49 v_2 x_3, .row (t_Gdiff_Leq).o 39 v_5 x_6, .cell c_35 [v_37, .int .i64 y.2.1, w0], .row o_Gheap_Chunk 49 v_37 y.1, .row (t_Gdiff_Leq).o 39 w0 y.2.2]) | .b y, e => e = .ret ∧ (σ = τ ∧ L = [(8, .int .i64 y)] ∧ PV = [.cell a_1 [v_2, .int .i64 Vars_4, v_5], .row o_Gheap_Chunk 49 v_2 x_3, .row (t_Gdiff_Leq).o 39 v_5 x_6])) ?_ ?_
        · refine J_block ?_
          refine J_seq ?_
          refine J_region ?_
          refine JL_op rfl (op_read rfl rfl (r_move (v := .int .i64 x_46.2.2.2) rfl) ?_)
          refine JL_op rfl (op_read rfl rfl (r_assign (v := .int .i64 x_46.2.2.2) rfl) ?_)
          refine JL_nil ?_
          refine J_then ?_
          refine J_seq ?_
          refine J_seq ?_
          refine J_region ?_
          refine JL_op rfl (op_read rfl rfl (r_move (v := .int .i64 x_46.2.2.2) rfl) ?_)
          refine JL_op rfl (op_read rfl rfl (r_move (v := .pointer (some (elemAddr v_37 ((p_8.Block).toNat * (o_Gheap_Chunk).size + 0)))) rfl) ?_)
          refine JL_op rfl (op_read rfl rfl (r_nilCheck (a := (elemAddr v_37 ((p_8.Block).toNat * (o_Gheap_Chunk).size + 0))) rfl) ?_)
          refine JL_op rfl (op_read rfl rfl (r_fieldAddr (r := elemAddr v_37 ((p_8.Block).toNat * (o_Gheap_Chunk).size + 2)) Try.pu49 (f := Try.pf49.getD 2 default) rfl Try.pi3 (by decide) rfl (elemAddr_add _ _ _)) ?_)
          refine J_bind fun x_52 hx_53 => ?_
          refine JL_op rfl (op_reads rfl rfl (l_elem_orow (v := v_37) (T := o_Gheap_Chunk) (Tf := (tInt .i64)) (q := x_52) (i := p_8.Block) (off := 2) 4 Try.pu3 Try.pi3 rfl rfl rfl rfl hx_53 of_Gheap_Chunk_At (by decide)) ?_)
          intro v_54 h_55
          obtain rfl := tInt_v.1 h_55
          refine JL_op rfl (op_read rfl rfl (r_eql rfl rfl) ?_)
          refine JL_nil ?_
          refine J_then ?_
          refine J_cond rfl (fun hc_56 => ?_) (fun hc_56 => ?_)
          · refine J_exit ?_
            refine J_then_exit ?_
            refine J_in_exit ?_
            refine J_cut_end _ ?_ ⟨rfl, v_49, rfl, rfl, rfl⟩ trivial
            exact ⟨rfl, rfl, rfl, rfl, rfl, rfl, trivial⟩
          · refine J_skip ?_
            refine J_then ?_
            refine J_seq ?_
            refine J_region ?_
            refine JL_op rfl (op_read rfl rfl (r_move (v := .pointer (some (Addr.add c_35 0))) rfl) ?_)
            refine J_front [3, 3, 3] ?_
            refine JL_op rfl (op_callN (f := 21) (fn := Try.f21) (args := [.pointer (some (Addr.add c_35 0))]) (post := heap_Heap_Fresh_post σ c_35 v_37 x_46.1 x_46.2.1 v_49 x_46.2.2.1) 3 rfl rfl rfl Try.func21 Try.pn21 rfl rfl (fun y st hy hpre => heap_Heap_Fresh_ref st σ c_35 v_37 x_46.1 x_46.2.1 v_49 x_46.2.2.1 hpre y hy) ?_)
            intro r_57 v_59 s_62 PV_60 hr_58 hle_63 hp_61
            obtain ⟨v_64, rfl, rfl, rfl⟩ := hp_61
            refine JL_op rfl (op_read rfl rfl (r_move (v := .tuple #[.agg #[.int .i64 r_57.1.Kind, .int .i64 r_57.1.Var, .int .i64 r_57.1.K, .int .i64 r_57.1.Block], .int .i64 r_57.2.1]) rfl) ?_)
            refine JL_op rfl (op_read rfl rfl (r_extract (v := .agg #[.int .i64 r_57.1.Kind, .int .i64 r_57.1.Var, .int .i64 r_57.1.K, .int .i64 r_57.1.Block]) rfl rfl) ?_)
            refine JL_op rfl (op_read rfl rfl (r_extract (v := .int .i64 r_57.2.1) rfl rfl) ?_)
            refine JL_op rfl (op_alloc (cs := [.int .i64 0, .int .i64 0, .int .i64 0, .int .i64 0]) rfl Try.pi33 rfl rfl ?_)
            intro c_65
            refine JL_op rfl (op_store_priv (a := c_65) (off := 0) (vs := [.int .i64 r_57.1.Kind, .int .i64 r_57.1.Var, .int .i64 r_57.1.K, .int .i64 r_57.1.Block]) (cs' := [.int .i64 r_57.1.Kind, .int .i64 r_57.1.Var, .int .i64 r_57.1.K, .int .i64 r_57.1.Block]) (PV' := [.cell c_65 [.int .i64 r_57.1.Kind, .int .i64 r_57.1.Var, .int .i64 r_57.1.K, .int .i64 r_57.1.Block], .cell c_35 [v_37, .int .i64 r_57.2.2.1, v_64], .row o_Gheap_Chunk 49 v_37 x_46.1, .row (t_Gdiff_Leq).o 39 v_64 r_57.2.2.2, .cell a_1 [v_2, .int .i64 Vars_4, v_5], .row o_Gheap_Chunk 49 v_2 x_3, .row (t_Gdiff_Leq).o 39 v_5 x_6]) 0 Try.pi33 rfl rfl rfl ⟨rfl, rfl, rfl, rfl, trivial⟩ rfl rfl rfl rfl rfl ?_)
            refine JL_op rfl (op_read rfl rfl (r_assign (v := .int .i64 r_57.2.1) rfl) ?_)
            refine JL_nil ?_
            refine J_then ?_
            refine J_seq ?_
            refine J_seq ?_
            refine J_region ?_
            refine JL_op rfl (op_read rfl rfl (r_move (v := .int .i64 r_57.2.1) rfl) ?_)
            refine JL_op rfl (op_read rfl rfl (r_neq rfl rfl) ?_)
            refine JL_nil ?_
            refine J_then ?_
            refine J_cond rfl (fun hc_67 => ?_) (fun hc_67 => ?_)
            · refine J_seq ?_
              refine J_region ?_
              refine JL_op rfl (op_read rfl rfl (r_move (v := .int .i64 r_57.2.1) rfl) ?_)
              refine JL_op rfl (op_read rfl rfl (r_assign (v := .int .i64 r_57.2.1) rfl) ?_)
              refine JL_nil ?_
              refine J_then ?_
              refine J_ret ?_
              refine J_then_ret ?_
              refine J_in_ret ?_
              refine J_keep [false, false, false, false, true, true, true] ?_
              refine J_cut_end _ ?_ ⟨rfl, rfl, rfl, rfl⟩ trivial
              exact ⟨rfl, trivial⟩
            · refine J_skip ?_
              refine J_then ?_
              refine J_region_any 7 [.cell c_65 [.int .i64 r_57.1.Kind, .int .i64 r_57.1.Var, .int .i64 r_57.1.K, .int .i64 r_57.1.Block], .cell c_35 [v_37, .int .i64 r_57.2.2.1, v_64], .row o_Gheap_Chunk 49 v_37 x_46.1, .row (t_Gdiff_Leq).o 39 v_64 r_57.2.2.2, .cell a_1 [v_2, .int .i64 Vars_4, v_5], .row o_Gheap_Chunk 49 v_2 x_3, .row (t_Gdiff_Leq).o 39 v_5 x_6] Try.mixed (by kernel_rfl) fun hns => ?_
              refine JA_takep 0 rfl hns (by kernel_rfl) (by kernel_rfl) rfl (.inr (by exact HeldOK.same [0, 1, 2, 3, 4, 5, 6] (by decide) rfl)) rfl rfl rfl (r_move (v := .pointer (some (elemAddr v_37 ((p_8.Block).toNat * (o_Gheap_Chunk).size + 0)))) rfl) ?_
              refine JA_takep 1 rfl hns (by kernel_rfl) (by kernel_rfl) rfl (.inr (by exact HeldOK.same [0, 1, 2, 3, 4, 5, 6] (by decide) rfl)) rfl rfl rfl (r_nilCheck (a := (elemAddr v_37 ((p_8.Block).toNat * (o_Gheap_Chunk).size + 0))) rfl) ?_
              refine JA_takep 2 rfl hns (by kernel_rfl) (by kernel_rfl) rfl (.inr (by exact HeldOK.same [0, 1, 2, 3, 4, 5, 6] (by decide) rfl)) rfl rfl rfl (r_fieldAddr (r := elemAddr v_37 ((p_8.Block).toNat * (o_Gheap_Chunk).size + 10)) Try.pu49 (f := Try.pf49.getD 7 default) rfl Try.pi23 (by decide) rfl (elemAddr_add _ _ _)) ?_
              refine JA_takep 4 rfl hns (by kernel_rfl) (by kernel_rfl) rfl (.inr (by exact HeldOK.same [0, 1, 2, 3, 4, 5, 6] (by decide) rfl)) rfl rfl rfl (r_move (v := .int .i64 x_46.2.2.2) rfl) ?_
              refine JA_take 5 rfl hns (by kernel_rfl) (by kernel_rfl) (by kernel_rfl) rfl (by kernel_rfl) (by exact HeldOK.same [0, 1, 2, 3, 4, 5, 6] (by decide) rfl) rfl rfl rfl (r_load_priv (a := c_65) (off := 0) (cs' := [.int .i64 r_57.1.Kind, .int .i64 r_57.1.Var, .int .i64 r_57.1.K, .int .i64 r_57.1.Block]) (v := .agg #[.int .i64 r_57.1.Kind, .int .i64 r_57.1.Var, .int .i64 r_57.1.K, .int .i64 r_57.1.Block]) 0 Try.pu33 Try.pi33 rfl rfl rfl rfl (by decide) rfl) ?_
              refine J_front [2] ?_
              refine J_take (T := o_Gheap_Chunk) (i := p_8.Block) hx_53 fun u_70 hu_69 => ?_
              obtain ⟨_, _, _, _, _, _, _, v_71⟩ := u_70
              change J _ _ _ _ _ _ _ _ [.hole (fun x => .elem o_Gheap_Chunk (elemAddr v_37 ((p_8.Block).toNat * (o_Gheap_Chunk).size)) x) (fun x => .row o_Gheap_Chunk 49 v_37 (Sl.set x_46.1 p_8.Block x)), .cell (elemAddr v_37 ((p_8.Block).toNat * (o_Gheap_Chunk).size)) [.int .i64 x_52.Origin, .int .i64 x_52.Type_, .int .i64 x_52.At, .bool x_52.Live, .bool x_52.Held, .bool x_52.Array, .int .i64 x_52.Size.Kind, .int .i64 x_52.Size.Var, .int .i64 x_52.Size.K, .int .i64 x_52.Size.Block, v_71], .row (t_Gheap_Sym).o 33 v_71 x_52.Cells, .cell c_65 [.int .i64 r_57.1.Kind, .int .i64 r_57.1.Var, .int .i64 r_57.1.K, .int .i64 r_57.1.Block], .cell c_35 [v_37, .int .i64 r_57.2.2.1, v_64], .row (t_Gdiff_Leq).o 39 v_64 r_57.2.2.2, .cell a_1 [v_2, .int .i64 Vars_4, v_5], .row o_Gheap_Chunk 49 v_2 x_3, .row (t_Gdiff_Leq).o 39 v_5 x_6]
              have hS_72 : HeldOK σ [.cell c_65 [.int .i64 r_57.1.Kind, .int .i64 r_57.1.Var, .int .i64 r_57.1.K, .int .i64 r_57.1.Block], .cell c_35 [v_37, .int .i64 r_57.2.2.1, v_64], .row o_Gheap_Chunk 49 v_37 x_46.1, .row (t_Gdiff_Leq).o 39 v_64 r_57.2.2.2, .cell a_1 [v_2, .int .i64 Vars_4, v_5], .row o_Gheap_Chunk 49 v_2 x_3, .row (t_Gdiff_Leq).o 39 v_5 x_6] σ [.hole (fun x => .elem o_Gheap_Chunk (elemAddr v_37 ((p_8.Block).toNat * (o_Gheap_Chunk).size)) x) (fun x => .row o_Gheap_Chunk 49 v_37 (Sl.set x_46.1 p_8.Block x)), .cell (elemAddr v_37 ((p_8.Block).toNat * (o_Gheap_Chunk).size)) [.int .i64 x_52.Origin, .int .i64 x_52.Type_, .int .i64 x_52.At, .bool x_52.Live, .bool x_52.Held, .bool x_52.Array, .int .i64 x_52.Size.Kind, .int .i64 x_52.Size.Var, .int .i64 x_52.Size.K, .int .i64 x_52.Size.Block, v_71], .row (t_Gheap_Sym).o 33 v_71 x_52.Cells, .cell c_65 [.int .i64 r_57.1.Kind, .int .i64 r_57.1.Var, .int .i64 r_57.1.K, .int .i64 r_57.1.Block], .cell c_35 [v_37, .int .i64 r_57.2.2.1, v_64], .row (t_Gdiff_Leq).o 39 v_64 r_57.2.2.2, .cell a_1 [v_2, .int .i64 Vars_4, v_5], .row o_Gheap_Chunk 49 v_2 x_3, .row (t_Gdiff_Leq).o 39 v_5 x_6] := HeldOK.view (PV := [.row o_Gheap_Chunk 49 v_37 x_46.1, .cell c_65 [.int .i64 r_57.1.Kind, .int .i64 r_57.1.Var, .int .i64 r_57.1.K, .int .i64 r_57.1.Block], .cell c_35 [v_37, .int .i64 r_57.2.2.1, v_64], .row (t_Gdiff_Leq).o 39 v_64 r_57.2.2.2, .cell a_1 [v_2, .int .i64 Vars_4, v_5], .row o_Gheap_Chunk 49 v_2 x_3, .row (t_Gdiff_Leq).o 39 v_5 x_6]) (HeldOK.same [1, 2, 0, 3, 4, 5, 6] (by decide) rfl) (fun _ k => (take_back (T := o_Gheap_Chunk) (i := p_8.Block) (s := x_46.1) (e := 49) (v := v_37) (q := x_52) (C := [.cell c_65 [.int .i64 r_57.1.Kind, .int .i64 r_57.1.Var, .int .i64 r_57.1.K, .int .i64 r_57.1.Block], .cell c_35 [v_37, .int .i64 r_57.2.2.1, v_64], .row (t_Gdiff_Leq).o 39 v_64 r_57.2.2.2, .cell a_1 [v_2, .int .i64 Vars_4, v_5], .row o_Gheap_Chunk 49 v_2 x_3, .row (t_Gdiff_Leq).o 39 v_5 x_6]) ((), (), (), (), (), (), (), v_71) ⟨trivial, trivial, trivial, trivial, trivial, trivial, trivial, trivial⟩ hx_53 (Sep.select (PV' := [.hole (fun x => .elem o_Gheap_Chunk (elemAddr v_37 ((p_8.Block).toNat * (o_Gheap_Chunk).size)) x) (fun x => .row o_Gheap_Chunk 49 v_37 (Sl.set x_46.1 p_8.Block x)), .cell (elemAddr v_37 ((p_8.Block).toNat * (o_Gheap_Chunk).size)) [.int .i64 x_52.Origin, .int .i64 x_52.Type_, .int .i64 x_52.At, .bool x_52.Live, .bool x_52.Held, .bool x_52.Array, .int .i64 x_52.Size.Kind, .int .i64 x_52.Size.Var, .int .i64 x_52.Size.K, .int .i64 x_52.Size.Block, v_71], .row (t_Gheap_Sym).o 33 v_71 x_52.Cells, .cell c_65 [.int .i64 r_57.1.Kind, .int .i64 r_57.1.Var, .int .i64 r_57.1.K, .int .i64 r_57.1.Block], .cell c_35 [v_37, .int .i64 r_57.2.2.1, v_64], .row (t_Gdiff_Leq).o 39 v_64 r_57.2.2.2, .cell a_1 [v_2, .int .i64 Vars_4, v_5], .row o_Gheap_Chunk 49 v_2 x_3, .row (t_Gdiff_Leq).o 39 v_5 x_6]) k [0, 1, 2, 3, 4, 5, 6, 7, 8] (by decide) rfl)))
              refine JA_op (i := 3) (by kernel_rfl) rfl rfl (op_read rfl rfl (r_load_priv (a := (elemAddr v_37 ((p_8.Block).toNat * (o_Gheap_Chunk).size))) (off := 10) (cs' := [v_71]) (v := v_71) 1 Try.pu23 Try.pi23 (pe_add v_37 ((p_8.Block).toNat * (o_Gheap_Chunk).size) 10) rfl rfl rfl (by decide) rfl) ?_)
              have hS_73 : HeldOK σ [.cell c_65 [.int .i64 r_57.1.Kind, .int .i64 r_57.1.Var, .int .i64 r_57.1.K, .int .i64 r_57.1.Block], .cell c_35 [v_37, .int .i64 r_57.2.2.1, v_64], .row o_Gheap_Chunk 49 v_37 x_46.1, .row (t_Gdiff_Leq).o 39 v_64 r_57.2.2.2, .cell a_1 [v_2, .int .i64 Vars_4, v_5], .row o_Gheap_Chunk 49 v_2 x_3, .row (t_Gdiff_Leq).o 39 v_5 x_6] σ [.hole (fun x => .elem o_Gheap_Chunk (elemAddr v_37 ((p_8.Block).toNat * (o_Gheap_Chunk).size)) x) (fun x => .row o_Gheap_Chunk 49 v_37 (Sl.set x_46.1 p_8.Block x)), .cell (elemAddr v_37 ((p_8.Block).toNat * (o_Gheap_Chunk).size)) [.int .i64 x_52.Origin, .int .i64 x_52.Type_, .int .i64 x_52.At, .bool x_52.Live, .bool x_52.Held, .bool x_52.Array, .int .i64 x_52.Size.Kind, .int .i64 x_52.Size.Var, .int .i64 x_52.Size.K, .int .i64 x_52.Size.Block, v_71], .row (t_Gheap_Sym).o 33 v_71 x_52.Cells, .cell c_65 [.int .i64 r_57.1.Kind, .int .i64 r_57.1.Var, .int .i64 r_57.1.K, .int .i64 r_57.1.Block], .cell c_35 [v_37, .int .i64 r_57.2.2.1, v_64], .row (t_Gdiff_Leq).o 39 v_64 r_57.2.2.2, .cell a_1 [v_2, .int .i64 Vars_4, v_5], .row o_Gheap_Chunk 49 v_2 x_3, .row (t_Gdiff_Leq).o 39 v_5 x_6] := HeldOK.view (PV := [.row o_Gheap_Chunk 49 v_37 x_46.1, .cell c_65 [.int .i64 r_57.1.Kind, .int .i64 r_57.1.Var, .int .i64 r_57.1.K, .int .i64 r_57.1.Block], .cell c_35 [v_37, .int .i64 r_57.2.2.1, v_64], .row (t_Gdiff_Leq).o 39 v_64 r_57.2.2.2, .cell a_1 [v_2, .int .i64 Vars_4, v_5], .row o_Gheap_Chunk 49 v_2 x_3, .row (t_Gdiff_Leq).o 39 v_5 x_6]) (HeldOK.same [1, 2, 0, 3, 4, 5, 6] (by decide) rfl) (fun _ k => (take_back (T := o_Gheap_Chunk) (i := p_8.Block) (s := x_46.1) (e := 49) (v := v_37) (q := x_52) (C := [.cell c_65 [.int .i64 r_57.1.Kind, .int .i64 r_57.1.Var, .int .i64 r_57.1.K, .int .i64 r_57.1.Block], .cell c_35 [v_37, .int .i64 r_57.2.2.1, v_64], .row (t_Gdiff_Leq).o 39 v_64 r_57.2.2.2, .cell a_1 [v_2, .int .i64 Vars_4, v_5], .row o_Gheap_Chunk 49 v_2 x_3, .row (t_Gdiff_Leq).o 39 v_5 x_6]) ((), (), (), (), (), (), (), v_71) ⟨trivial, trivial, trivial, trivial, trivial, trivial, trivial, trivial⟩ hx_53 (Sep.select (PV' := [.hole (fun x => .elem o_Gheap_Chunk (elemAddr v_37 ((p_8.Block).toNat * (o_Gheap_Chunk).size)) x) (fun x => .row o_Gheap_Chunk 49 v_37 (Sl.set x_46.1 p_8.Block x)), .cell (elemAddr v_37 ((p_8.Block).toNat * (o_Gheap_Chunk).size)) [.int .i64 x_52.Origin, .int .i64 x_52.Type_, .int .i64 x_52.At, .bool x_52.Live, .bool x_52.Held, .bool x_52.Array, .int .i64 x_52.Size.Kind, .int .i64 x_52.Size.Var, .int .i64 x_52.Size.K, .int .i64 x_52.Size.Block, v_71], .row (t_Gheap_Sym).o 33 v_71 x_52.Cells, .cell c_65 [.int .i64 r_57.1.Kind, .int .i64 r_57.1.Var, .int .i64 r_57.1.K, .int .i64 r_57.1.Block], .cell c_35 [v_37, .int .i64 r_57.2.2.1, v_64], .row (t_Gdiff_Leq).o 39 v_64 r_57.2.2.2, .cell a_1 [v_2, .int .i64 Vars_4, v_5], .row o_Gheap_Chunk 49 v_2 x_3, .row (t_Gdiff_Leq).o 39 v_5 x_6]) k [0, 1, 2, 3, 4, 5, 6, 7, 8] (by decide) rfl)))
              refine ⟨.inr hS_73, ?_⟩
              refine J_bind fun x_74 hx_75 => ?_
              refine JA_op (i := 6) (by kernel_rfl) rfl rfl (op_read rfl rfl (r_index_row (v := v_71) (T := (t_Gheap_Sym).o) (q := x_74) 2 Try.pu23 Try.pi33 rfl rfl rfl rfl hx_75) ?_)
              have hS_76 : HeldOK σ [.cell c_65 [.int .i64 r_57.1.Kind, .int .i64 r_57.1.Var, .int .i64 r_57.1.K, .int .i64 r_57.1.Block], .cell c_35 [v_37, .int .i64 r_57.2.2.1, v_64], .row o_Gheap_Chunk 49 v_37 x_46.1, .row (t_Gdiff_Leq).o 39 v_64 r_57.2.2.2, .cell a_1 [v_2, .int .i64 Vars_4, v_5], .row o_Gheap_Chunk 49 v_2 x_3, .row (t_Gdiff_Leq).o 39 v_5 x_6] σ [.hole (fun x => .elem o_Gheap_Chunk (elemAddr v_37 ((p_8.Block).toNat * (o_Gheap_Chunk).size)) x) (fun x => .row o_Gheap_Chunk 49 v_37 (Sl.set x_46.1 p_8.Block x)), .cell (elemAddr v_37 ((p_8.Block).toNat * (o_Gheap_Chunk).size)) [.int .i64 x_52.Origin, .int .i64 x_52.Type_, .int .i64 x_52.At, .bool x_52.Live, .bool x_52.Held, .bool x_52.Array, .int .i64 x_52.Size.Kind, .int .i64 x_52.Size.Var, .int .i64 x_52.Size.K, .int .i64 x_52.Size.Block, v_71], .row (t_Gheap_Sym).o 33 v_71 x_52.Cells, .cell c_65 [.int .i64 r_57.1.Kind, .int .i64 r_57.1.Var, .int .i64 r_57.1.K, .int .i64 r_57.1.Block], .cell c_35 [v_37, .int .i64 r_57.2.2.1, v_64], .row (t_Gdiff_Leq).o 39 v_64 r_57.2.2.2, .cell a_1 [v_2, .int .i64 Vars_4, v_5], .row o_Gheap_Chunk 49 v_2 x_3, .row (t_Gdiff_Leq).o 39 v_5 x_6] := HeldOK.view (PV := [.row o_Gheap_Chunk 49 v_37 x_46.1, .cell c_65 [.int .i64 r_57.1.Kind, .int .i64 r_57.1.Var, .int .i64 r_57.1.K, .int .i64 r_57.1.Block], .cell c_35 [v_37, .int .i64 r_57.2.2.1, v_64], .row (t_Gdiff_Leq).o 39 v_64 r_57.2.2.2, .cell a_1 [v_2, .int .i64 Vars_4, v_5], .row o_Gheap_Chunk 49 v_2 x_3, .row (t_Gdiff_Leq).o 39 v_5 x_6]) (HeldOK.same [1, 2, 0, 3, 4, 5, 6] (by decide) rfl) (fun _ k => (take_back (T := o_Gheap_Chunk) (i := p_8.Block) (s := x_46.1) (e := 49) (v := v_37) (q := x_52) (C := [.cell c_65 [.int .i64 r_57.1.Kind, .int .i64 r_57.1.Var, .int .i64 r_57.1.K, .int .i64 r_57.1.Block], .cell c_35 [v_37, .int .i64 r_57.2.2.1, v_64], .row (t_Gdiff_Leq).o 39 v_64 r_57.2.2.2, .cell a_1 [v_2, .int .i64 Vars_4, v_5], .row o_Gheap_Chunk 49 v_2 x_3, .row (t_Gdiff_Leq).o 39 v_5 x_6]) ((), (), (), (), (), (), (), v_71) ⟨trivial, trivial, trivial, trivial, trivial, trivial, trivial, trivial⟩ hx_53 (Sep.select (PV' := [.hole (fun x => .elem o_Gheap_Chunk (elemAddr v_37 ((p_8.Block).toNat * (o_Gheap_Chunk).size)) x) (fun x => .row o_Gheap_Chunk 49 v_37 (Sl.set x_46.1 p_8.Block x)), .cell (elemAddr v_37 ((p_8.Block).toNat * (o_Gheap_Chunk).size)) [.int .i64 x_52.Origin, .int .i64 x_52.Type_, .int .i64 x_52.At, .bool x_52.Live, .bool x_52.Held, .bool x_52.Array, .int .i64 x_52.Size.Kind, .int .i64 x_52.Size.Var, .int .i64 x_52.Size.K, .int .i64 x_52.Size.Block, v_71], .row (t_Gheap_Sym).o 33 v_71 x_52.Cells, .cell c_65 [.int .i64 r_57.1.Kind, .int .i64 r_57.1.Var, .int .i64 r_57.1.K, .int .i64 r_57.1.Block], .cell c_35 [v_37, .int .i64 r_57.2.2.1, v_64], .row (t_Gdiff_Leq).o 39 v_64 r_57.2.2.2, .cell a_1 [v_2, .int .i64 Vars_4, v_5], .row o_Gheap_Chunk 49 v_2 x_3, .row (t_Gdiff_Leq).o 39 v_5 x_6]) k [0, 1, 2, 3, 4, 5, 6, 7, 8] (by decide) rfl)))
              refine ⟨.inr hS_76, ?_⟩
              refine J_front [2] ?_
              have hS_79 : HeldOK σ [.cell c_65 [.int .i64 r_57.1.Kind, .int .i64 r_57.1.Var, .int .i64 r_57.1.K, .int .i64 r_57.1.Block], .cell c_35 [v_37, .int .i64 r_57.2.2.1, v_64], .row o_Gheap_Chunk 49 v_37 x_46.1, .row (t_Gdiff_Leq).o 39 v_64 r_57.2.2.2, .cell a_1 [v_2, .int .i64 Vars_4, v_5], .row o_Gheap_Chunk 49 v_2 x_3, .row (t_Gdiff_Leq).o 39 v_5 x_6] σ [.row (t_Gheap_Sym).o 33 v_71 x_52.Cells, .hole (fun x => .elem o_Gheap_Chunk (elemAddr v_37 ((p_8.Block).toNat * (o_Gheap_Chunk).size)) x) (fun x => .row o_Gheap_Chunk 49 v_37 (Sl.set x_46.1 p_8.Block x)), .cell (elemAddr v_37 ((p_8.Block).toNat * (o_Gheap_Chunk).size)) [.int .i64 x_52.Origin, .int .i64 x_52.Type_, .int .i64 x_52.At, .bool x_52.Live, .bool x_52.Held, .bool x_52.Array, .int .i64 x_52.Size.Kind, .int .i64 x_52.Size.Var, .int .i64 x_52.Size.K, .int .i64 x_52.Size.Block, v_71], .cell c_65 [.int .i64 r_57.1.Kind, .int .i64 r_57.1.Var, .int .i64 r_57.1.K, .int .i64 r_57.1.Block], .cell c_35 [v_37, .int .i64 r_57.2.2.1, v_64], .row (t_Gdiff_Leq).o 39 v_64 r_57.2.2.2, .cell a_1 [v_2, .int .i64 Vars_4, v_5], .row o_Gheap_Chunk 49 v_2 x_3, .row (t_Gdiff_Leq).o 39 v_5 x_6] := HeldOK.view (PV := [.row o_Gheap_Chunk 49 v_37 x_46.1, .cell c_65 [.int .i64 r_57.1.Kind, .int .i64 r_57.1.Var, .int .i64 r_57.1.K, .int .i64 r_57.1.Block], .cell c_35 [v_37, .int .i64 r_57.2.2.1, v_64], .row (t_Gdiff_Leq).o 39 v_64 r_57.2.2.2, .cell a_1 [v_2, .int .i64 Vars_4, v_5], .row o_Gheap_Chunk 49 v_2 x_3, .row (t_Gdiff_Leq).o 39 v_5 x_6]) (HeldOK.same [1, 2, 0, 3, 4, 5, 6] (by decide) rfl) (fun _ k => (take_back (T := o_Gheap_Chunk) (i := p_8.Block) (s := x_46.1) (e := 49) (v := v_37) (q := x_52) (C := [.cell c_65 [.int .i64 r_57.1.Kind, .int .i64 r_57.1.Var, .int .i64 r_57.1.K, .int .i64 r_57.1.Block], .cell c_35 [v_37, .int .i64 r_57.2.2.1, v_64], .row (t_Gdiff_Leq).o 39 v_64 r_57.2.2.2, .cell a_1 [v_2, .int .i64 Vars_4, v_5], .row o_Gheap_Chunk 49 v_2 x_3, .row (t_Gdiff_Leq).o 39 v_5 x_6]) ((), (), (), (), (), (), (), v_71) ⟨trivial, trivial, trivial, trivial, trivial, trivial, trivial, trivial⟩ hx_53 (Sep.select (PV' := [.hole (fun x => .elem o_Gheap_Chunk (elemAddr v_37 ((p_8.Block).toNat * (o_Gheap_Chunk).size)) x) (fun x => .row o_Gheap_Chunk 49 v_37 (Sl.set x_46.1 p_8.Block x)), .cell (elemAddr v_37 ((p_8.Block).toNat * (o_Gheap_Chunk).size)) [.int .i64 x_52.Origin, .int .i64 x_52.Type_, .int .i64 x_52.At, .bool x_52.Live, .bool x_52.Held, .bool x_52.Array, .int .i64 x_52.Size.Kind, .int .i64 x_52.Size.Var, .int .i64 x_52.Size.K, .int .i64 x_52.Size.Block, v_71], .row (t_Gheap_Sym).o 33 v_71 x_52.Cells, .cell c_65 [.int .i64 r_57.1.Kind, .int .i64 r_57.1.Var, .int .i64 r_57.1.K, .int .i64 r_57.1.Block], .cell c_35 [v_37, .int .i64 r_57.2.2.1, v_64], .row (t_Gdiff_Leq).o 39 v_64 r_57.2.2.2, .cell a_1 [v_2, .int .i64 Vars_4, v_5], .row o_Gheap_Chunk 49 v_2 x_3, .row (t_Gdiff_Leq).o 39 v_5 x_6]) k [1, 2, 0, 3, 4, 5, 6, 7, 8] (by decide) rfl)))
              refine JA_op (i := 7) (by kernel_rfl) rfl rfl (op_store_row (v := v_71) (u := (.agg #[.int .i64 r_57.1.Kind, .int .i64 r_57.1.Var, .int .i64 r_57.1.K, .int .i64 r_57.1.Block])) (T := (t_Gheap_Sym).o) (q := r_57.1) (i := x_46.2.2.2) [] [.hole (fun x => .elem o_Gheap_Chunk (elemAddr v_37 ((p_8.Block).toNat * (o_Gheap_Chunk).size)) x) (fun x => .row o_Gheap_Chunk 49 v_37 (Sl.set x_46.1 p_8.Block x)), .cell (elemAddr v_37 ((p_8.Block).toNat * (o_Gheap_Chunk).size)) [.int .i64 x_52.Origin, .int .i64 x_52.Type_, .int .i64 x_52.At, .bool x_52.Live, .bool x_52.Held, .bool x_52.Array, .int .i64 x_52.Size.Kind, .int .i64 x_52.Size.Var, .int .i64 x_52.Size.K, .int .i64 x_52.Size.Block, v_71], .cell c_65 [.int .i64 r_57.1.Kind, .int .i64 r_57.1.Var, .int .i64 r_57.1.K, .int .i64 r_57.1.Block], .cell c_35 [v_37, .int .i64 r_57.2.2.1, v_64], .row (t_Gdiff_Leq).o 39 v_64 r_57.2.2.2, .cell a_1 [v_2, .int .i64 Vars_4, v_5], .row o_Gheap_Chunk 49 v_2 x_3, .row (t_Gdiff_Leq).o 39 v_5 x_6] Try.pi33 rfl rfl rfl rfl (fix_vrel (T := (t_Gheap_Sym).o) rfl (t_Gheap_Sym_v.2 rfl)) ?_)
              intro s_77 hs_78
              refine ⟨.inl (.inl rfl), ?_⟩
              refine JA_done (by kernel_rfl) ?_
              refine J_in_normal ?_
              refine J_front [1, 1] ?_
              refine J_put (T := o_Gheap_Chunk) (i := p_8.Block) (s := x_46.1) (s' := (Sl.set x_46.1 p_8.Block (⟨x_52.Origin, x_52.Type_, x_52.At, x_52.Live, x_52.Held, x_52.Array, x_52.Size, s_77⟩ : Gheap_Chunk))) (A := [.row (t_Gheap_Sym).o 33 v_71 s_77]) (C := [.cell c_65 [.int .i64 r_57.1.Kind, .int .i64 r_57.1.Var, .int .i64 r_57.1.K, .int .i64 r_57.1.Block], .cell c_35 [v_37, .int .i64 r_57.2.2.1, v_64], .row (t_Gdiff_Leq).o 39 v_64 r_57.2.2.2, .cell a_1 [v_2, .int .i64 Vars_4, v_5], .row o_Gheap_Chunk 49 v_2 x_3, .row (t_Gdiff_Leq).o 39 v_5 x_6]) (⟨x_52.Origin, x_52.Type_, x_52.At, x_52.Live, x_52.Held, x_52.Array, x_52.Size, s_77⟩ : Gheap_Chunk) ((), (), (), (), (), (), (), v_71) ⟨trivial, trivial, trivial, trivial, trivial, trivial, trivial, trivial⟩ rfl rfl rfl ?_
              refine J_keep [true, false, true, true, true, true, true] ?_
              refine J_front [3, 3, 3, 1] ?_
              refine J_cut_end _ ?_ ⟨rfl, v_64, rfl, rfl, rfl⟩ trivial
              exact ⟨rfl, rfl, rfl, rfl, rfl, rfl, trivial⟩
        · rintro (y_81 | y_86) e L b τ PV ht
          · obtain ⟨rfl, ht⟩ := ht
            revert ht; revert PV; revert τ; revert b; revert L
            rintro _ b s_85 _ ⟨v_84, rfl, rfl, rfl⟩
            refine J_then ?_
            refine J_region ?_
            refine JL_op rfl (op_read rfl rfl (r_add rfl rfl) ?_)
            refine JL_op rfl (op_read rfl rfl (r_move (v := .int .i64 (IntKind.i64.wrap (x_46.2.2.2 + 1))) rfl) ?_)
            refine JL_nil ?_
            refine J_next _ ?_ ⟨v_84, rfl, rfl, rfl⟩
            exact ⟨rfl, rfl, rfl, rfl, rfl, rfl, trivial⟩
          · obtain ⟨rfl, ht⟩ := ht
            revert ht; revert PV; revert τ; revert b; revert L
            rintro _ b s_89 _ ⟨rfl, rfl, rfl⟩
            refine J_then_ret ?_
            refine J_done trivial _ ?_ ⟨rfl, rfl, rfl, rfl⟩
            exact ⟨rfl, trivial⟩
      · refine J_exit ?_
        refine J_then_exit ?_
        refine J_done trivial _ ?_ ⟨rfl, v_49, rfl, rfl, rfl⟩
        exact ⟨rfl, rfl, rfl, rfl, trivial⟩
    · rintro (y_91 | y_121) e L b τ PV ht
      · obtain ⟨rfl, ht⟩ := ht
        revert ht; revert PV; revert τ; revert b; revert L
        rintro _ b s_95 _ ⟨v_94, rfl, rfl, rfl⟩
        refine J_in_exit ?_
        refine J_then ?_
        refine J_seq ?_
        refine J_seq ?_
        refine J_region ?_
        refine JL_op rfl (op_read rfl rfl (r_move (v := .pointer (some (Addr.add c_35 0))) rfl) ?_)
        refine JL_op rfl (op_read rfl rfl (r_move (v := v_11) rfl) ?_)
        refine JL_op rfl (op_read rfl rfl (r_move (v := .pointer (some (elemAddr v_37 ((p_8.Block).toNat * (o_Gheap_Chunk).size + 0)))) rfl) ?_)
        refine JL_op rfl (op_read rfl rfl (r_nilCheck (a := (elemAddr v_37 ((p_8.Block).toNat * (o_Gheap_Chunk).size + 0))) rfl) ?_)
        refine JL_op rfl (op_read rfl rfl (r_fieldAddr (r := elemAddr v_37 ((p_8.Block).toNat * (o_Gheap_Chunk).size + 10)) Try.pu49 (f := Try.pf49.getD 7 default) rfl Try.pi23 (by decide) rfl (elemAddr_add _ _ _)) ?_)
        refine J_bind fun x_96 hx_97 => ?_
        refine J_front [4] ?_
        refine J_take (T := o_Gheap_Chunk) (i := p_8.Block) hx_97 fun u_99 hu_98 => ?_
        obtain ⟨_, _, _, _, _, _, _, v_100⟩ := u_99
        change J _ _ _ _ _ _ _ _ [.hole (fun x => .elem o_Gheap_Chunk (elemAddr v_37 ((p_8.Block).toNat * (o_Gheap_Chunk).size)) x) (fun x => .row o_Gheap_Chunk 49 v_37 (Sl.set y_91.1 p_8.Block x)), .cell (elemAddr v_37 ((p_8.Block).toNat * (o_Gheap_Chunk).size)) [.int .i64 x_96.Origin, .int .i64 x_96.Type_, .int .i64 x_96.At, .bool x_96.Live, .bool x_96.Held, .bool x_96.Array, .int .i64 x_96.Size.Kind, .int .i64 x_96.Size.Var, .int .i64 x_96.Size.K, .int .i64 x_96.Size.Block, v_100], .row (t_Gheap_Sym).o 33 v_100 x_96.Cells, .cell a_1 [v_2, .int .i64 Vars_4, v_5], .row o_Gheap_Chunk 49 v_2 x_3, .row (t_Gdiff_Leq).o 39 v_5 x_6, .cell c_35 [v_37, .int .i64 y_91.2.1, v_94], .row (t_Gdiff_Leq).o 39 v_94 y_91.2.2]
        refine JL_op rfl (op_read rfl rfl (r_load_priv (a := (elemAddr v_37 ((p_8.Block).toNat * (o_Gheap_Chunk).size))) (off := 10) (cs' := [v_100]) (v := v_100) 1 Try.pu23 Try.pi23 (pe_add v_37 ((p_8.Block).toNat * (o_Gheap_Chunk).size) 10) rfl rfl rfl (by decide) rfl) ?_)
        refine J_front [2] ?_
        refine JL_op rfl (op_callN (f := 12) (fn := Try.f12) (args := [v_11, v_100]) (post := heap_Over_post σ v_11 facts_12 v_100 x_96.Cells) 1 rfl rfl rfl Try.func12 Try.pn12 rfl rfl (fun y st hy hpre => heap_Over_ref st σ v_11 facts_12 h_13 v_100 x_96.Cells hpre y hy) ?_)
        intro r_101 v_103 s_106 PV_104 hr_102 hle_107 hp_105
        obtain ⟨v_109, rfl, rfl, rfl⟩ := hp_105
        refine J_front [7, 7] ?_
        refine JL_op rfl (op_callN (f := 22) (fn := Try.f22) (args := [.pointer (some (Addr.add c_35 0)), v_109]) (post := heap_Heap_Assume_v2_post σ c_35 v_37 y_91.2.1 v_94 y_91.2.2 v_109 r_101) 3 rfl rfl rfl Try.func22 Try.pn22 rfl rfl (fun y st hy hpre => heap_Heap_Assume_v2_ref st σ c_35 v_37 y_91.2.1 v_94 y_91.2.2 v_109 r_101 hpre y hy) ?_)
        intro r_110 v_112 s_115 PV_113 hr_111 hle_116 hp_114
        obtain ⟨v_117, rfl, rfl, rfl⟩ := hp_114
        refine JL_op rfl (op_read rfl rfl (r_assign (v := .int .i64 r_110.1) rfl) ?_)
        refine JL_nil ?_
        refine J_then ?_
        refine J_seq ?_
        refine J_region ?_
        refine JL_op rfl (op_read rfl rfl (r_move (v := .int .i64 r_110.1) rfl) ?_)
        refine JL_op rfl (op_read rfl rfl (r_neq rfl rfl) ?_)
        refine JL_nil ?_
        refine J_then ?_
        refine J_cond rfl (fun hc_118 => ?_) (fun hc_118 => ?_)
        · refine J_seq ?_
          refine J_region ?_
          refine JL_op rfl (op_read rfl rfl (r_move (v := .int .i64 r_110.1) rfl) ?_)
          refine JL_op rfl (op_read rfl rfl (r_assign (v := .int .i64 r_110.1) rfl) ?_)
          refine JL_nil ?_
          refine J_then ?_
          refine J_ret ?_
          refine J_then_ret ?_
          refine J_front [4, 4, 3] ?_
          refine J_put (T := o_Gheap_Chunk) (i := p_8.Block) (s := y_91.1) (s' := y_91.1) (A := [.row (t_Gheap_Sym).o 33 v_100 x_96.Cells]) (C := [.cell c_35 [v_37, .int .i64 y_91.2.1, v_117], .row (t_Gdiff_Leq).o 39 v_117 r_110.2, .row (t_Gdiff_Leq).o 39 v_109 r_101, .cell a_1 [v_2, .int .i64 Vars_4, v_5], .row o_Gheap_Chunk 49 v_2 x_3, .row (t_Gdiff_Leq).o 39 v_5 x_6]) x_96 ((), (), (), (), (), (), (), v_100) ⟨trivial, trivial, trivial, trivial, trivial, trivial, trivial, trivial⟩ rfl rfl (Sl.set_same hx_97) ?_
          exact J_returnV1 (PV' := [.cell a_1 [v_2, .int .i64 Vars_4, v_5], .row o_Gheap_Chunk 49 v_2 x_3, .row (t_Gdiff_Leq).o 39 v_5 x_6]) rfl rv_tmp [4, 5, 6] (by decide) rfl ⟨v_2, v_5, rfl, rfl, rfl⟩
        · refine J_skip ?_
          refine J_then ?_
          refine J_seq ?_
          refine J_region ?_
          refine JL_op rfl (op_read rfl rfl (r_move (v := .pointer (some (elemAddr v_37 ((p_8.Block).toNat * (o_Gheap_Chunk).size + 0)))) rfl) ?_)
          refine JL_op rfl (op_read rfl rfl (r_nilCheck (a := (elemAddr v_37 ((p_8.Block).toNat * (o_Gheap_Chunk).size + 0))) rfl) ?_)
          refine JL_op rfl (op_read rfl rfl (r_fieldAddr (r := elemAddr v_37 ((p_8.Block).toNat * (o_Gheap_Chunk).size + 4)) Try.pu49 (f := Try.pf49.getD 4 default) rfl Try.pi4 (by decide) rfl (elemAddr_add _ _ _)) ?_)
          refine JL_op rfl (op_store_priv (a := (elemAddr v_37 ((p_8.Block).toNat * (o_Gheap_Chunk).size))) (off := 4) (vs := [.bool true]) (cs' := [.int .i64 x_96.Origin, .int .i64 x_96.Type_, .int .i64 x_96.At, .bool x_96.Live, .bool true, .bool x_96.Array, .int .i64 x_96.Size.Kind, .int .i64 x_96.Size.Var, .int .i64 x_96.Size.K, .int .i64 x_96.Size.Block, v_100]) (PV' := [.cell c_35 [v_37, .int .i64 y_91.2.1, v_117], .row (t_Gdiff_Leq).o 39 v_117 r_110.2, .row (t_Gdiff_Leq).o 39 v_109 r_101, .row (t_Gheap_Sym).o 33 v_100 x_96.Cells, .hole (fun x => .elem o_Gheap_Chunk (elemAddr v_37 ((p_8.Block).toNat * (o_Gheap_Chunk).size)) x) (fun x => .row o_Gheap_Chunk 49 v_37 (Sl.set y_91.1 p_8.Block x)), .cell (elemAddr v_37 ((p_8.Block).toNat * (o_Gheap_Chunk).size)) [.int .i64 x_96.Origin, .int .i64 x_96.Type_, .int .i64 x_96.At, .bool x_96.Live, .bool true, .bool x_96.Array, .int .i64 x_96.Size.Kind, .int .i64 x_96.Size.Var, .int .i64 x_96.Size.K, .int .i64 x_96.Size.Block, v_100], .cell a_1 [v_2, .int .i64 Vars_4, v_5], .row o_Gheap_Chunk 49 v_2 x_3, .row (t_Gdiff_Leq).o 39 v_5 x_6]) 5 Try.pi4 (pe_add v_37 ((p_8.Block).toNat * (o_Gheap_Chunk).size) 4) rfl rfl ⟨rfl, trivial⟩ rfl rfl rfl rfl rfl ?_)
          refine JL_nil ?_
          refine J_then ?_
          refine J_seq ?_
          refine J_region ?_
          refine JL_op rfl (op_read rfl rfl (r_move (v := .pointer (some (Addr.add a_1 0))) rfl) ?_)
          refine JL_op rfl (op_read rfl rfl (r_move (v := .pointer (some (Addr.add c_35 0))) rfl) ?_)
          refine JL_op rfl (op_read rfl rfl (r_nilCheck (a := (Addr.add c_35 0)) rfl) ?_)
          refine JL_op rfl (op_read rfl rfl (r_load_priv (a := c_35) (off := 0) (cs' := [v_37, .int .i64 y_91.2.1, v_117]) (v := .agg #[v_37, .int .i64 y_91.2.1, v_117]) 0 Try.pu28 Try.pi28 rfl rfl rfl rfl (by decide) rfl) ?_)
          refine JL_op rfl (op_read rfl rfl (r_nilCheck (a := (Addr.add a_1 0)) rfl) ?_)
          refine J_front [4, 4, 3] ?_
          refine J_put (T := o_Gheap_Chunk) (i := p_8.Block) (s := y_91.1) (s' := (Sl.set y_91.1 p_8.Block (⟨x_96.Origin, x_96.Type_, x_96.At, x_96.Live, true, x_96.Array, x_96.Size, x_96.Cells⟩ : Gheap_Chunk))) (A := [.row (t_Gheap_Sym).o 33 v_100 x_96.Cells]) (C := [.cell c_35 [v_37, .int .i64 y_91.2.1, v_117], .row (t_Gdiff_Leq).o 39 v_117 r_110.2, .row (t_Gdiff_Leq).o 39 v_109 r_101, .cell a_1 [v_2, .int .i64 Vars_4, v_5], .row o_Gheap_Chunk 49 v_2 x_3, .row (t_Gdiff_Leq).o 39 v_5 x_6]) (⟨x_96.Origin, x_96.Type_, x_96.At, x_96.Live, true, x_96.Array, x_96.Size, x_96.Cells⟩ : Gheap_Chunk) ((), (), (), (), (), (), (), v_100) ⟨trivial, trivial, trivial, trivial, trivial, trivial, trivial, trivial⟩ rfl rfl rfl ?_
          refine J_row_one 0 rfl fun h_119 => ?_
          refine J_row_one 2 rfl fun h_120 => ?_
          refine JL_op rfl (op_store_priv (a := a_1) (off := 0) (vs := [v_37, .int .i64 y_91.2.1, v_117]) (cs' := [v_37, .int .i64 y_91.2.1, v_117]) (PV' := [.row o_Gheap_Chunk 49 v_37 (Sl.set y_91.1 p_8.Block (⟨x_96.Origin, x_96.Type_, x_96.At, x_96.Live, true, x_96.Array, x_96.Size, x_96.Cells⟩ : Gheap_Chunk)), .cell c_35 [v_37, .int .i64 y_91.2.1, v_117], .row (t_Gdiff_Leq).o 39 v_117 r_110.2, .row (t_Gdiff_Leq).o 39 v_109 r_101, .cell a_1 [v_37, .int .i64 y_91.2.1, v_117], .row o_Gheap_Chunk 49 v_2 x_3, .row (t_Gdiff_Leq).o 39 v_5 x_6]) 4 Try.pi28 rfl rfl rfl ⟨h_119, rfl, h_120, trivial⟩ rfl rfl rfl rfl rfl ?_)
          refine JL_nil ?_
          refine J_then ?_
          refine J_seq ?_
          refine J_region ?_
          refine JL_op rfl (op_read rfl rfl (r_assign (v := .int .i64 0) rfl) ?_)
          refine JL_nil ?_
          refine J_then ?_
          refine J_ret ?_
          exact J_returnV1 (PV' := [.cell a_1 [v_37, .int .i64 y_91.2.1, v_117], .row o_Gheap_Chunk 49 v_37 (Sl.set y_91.1 p_8.Block (⟨x_96.Origin, x_96.Type_, x_96.At, x_96.Live, true, x_96.Array, x_96.Size, x_96.Cells⟩ : Gheap_Chunk)), .row (t_Gdiff_Leq).o 39 v_117 r_110.2]) rfl rv_tmp [4, 0, 2] (by decide) rfl ⟨v_37, v_117, rfl, rfl, rfl⟩
      · obtain ⟨rfl, ht⟩ := ht
        revert ht; revert PV; revert τ; revert b; revert L
        rintro _ b s_124 _ ⟨rfl, rfl, rfl⟩
        refine J_in_ret ?_
        refine J_then_ret ?_
        exact J_returnV1 (PV' := [.cell a_1 [v_2, .int .i64 Vars_4, v_5], .row o_Gheap_Chunk 49 v_2 x_3, .row (t_Gdiff_Leq).o 39 v_5 x_6]) rfl rv_tmp [0, 1, 2] (by decide) rfl ⟨v_2, v_5, rfl, rfl, rfl⟩
def lychgatelaw13_wakes_post (σ0 : FS)  (r : Bool) (σ : FS) (PV : List Priv) (v : Value) : Prop :=
  σ0 = σ ∧ .bool r = v ∧ PV = []
set_option maxRecDepth 100000 in
theorem lychgatelaw13_wakes_ref (s : Start) (σ : FS)  (hs : Pre s σ []) (r : Bool) (hr : lychgatelaw13_wakes  = some r) : Does Try.prog 8 [] s σ (lychgatelaw13_wakes_post σ  r) := by
  unfold lychgatelaw13_wakes at hr
  refine does_of_J Try.func8 rfl (n := 66) rfl rfl hs hr ?_
  refine J_seq ?_
  refine J_region ?_
  refine JL_op rfl (op_read rfl rfl (r_assign (v := .bool false) rfl) ?_)
  refine JL_nil ?_
  refine J_then ?_
  refine J_seq ?_
  refine J_region ?_
  refine JL_op rfl (op_read rfl rfl (r_build (cs := [.slice none 0 0, .int .i64 1, .slice none 0 0]) (vs := [(1, .int .i64 1)]) (pcs := [(1, [.int .i64 1])]) (pls := [(0, 1), (1, 1), (2, 1)]) Try.pu28 Try.pi28 rfl (by kernel_rfl) rfl ⟨rfl, rfl, trivial⟩ rfl) ?_)
  refine JL_op rfl (op_box (cs := [.slice none 0 0, .int .i64 1, .slice none 0 0]) rfl rfl ?_)
  intro c_1
  refine JL_op rfl (op_read rfl rfl (r_assign (v := .pointer (some (Addr.add c_1 0))) rfl) ?_)
  refine JL_nil ?_
  refine J_then ?_
  refine J_seq ?_
  refine J_region ?_
  refine JL_op rfl (op_read rfl rfl (r_move (v := .pointer (some (Addr.add c_1 0))) rfl) ?_)
  refine JL_op rfl (op_make (ti := Try.t33) (T := (t_Gheap_Sym).o) (q := (⟨0, 0, 0, 0⟩ : Gheap_Sym)) rfl Try.pu23 Try.pi33 rfl rfl rfl rfl rfl (fun σ => (Plain.spec (T := t_Gheap_Sym) σ _ _).2 rfl) ?_)
  intro s_5 v_3 hs_6
  refine J_row_one 0 rfl fun h_7 => ?_
  refine JL_op rfl (op_read rfl rfl (r_build (cs := [.int .i64 6, .int .i64 0, .int .i64 0, .bool true, .bool false, .bool false, .int .i64 0, .int .i64 0, .int .i64 0, .int .i64 0, v_3]) (vs := [(0, .int .i64 6), (3, .bool true), (7, v_3)]) (pcs := [(0, [.int .i64 6]), (3, [.bool true]), (7, [v_3])]) (pls := [(0, 1), (1, 1), (2, 1), (3, 1), (4, 1), (5, 1), (6, 4), (10, 1)]) Try.pu49 Try.pi49 rfl (by kernel_rfl) rfl ⟨rfl, rfl, ⟨rfl, rfl, ⟨rfl, (one_cells h_7), trivial⟩⟩⟩ rfl) ?_)
  refine J_nil_row o_Gheap_Chunk 49 ?_
  refine J_nil_row (t_Gdiff_Leq).o 39 ?_
  refine J_front [3, 1] ?_
  refine JL_op rfl (op_callN (f := 23) (fn := Try.f23) (args := [.pointer (some (Addr.add c_1 0)), .agg #[.int .i64 6, .int .i64 0, .int .i64 0, .bool true, .bool false, .bool false, .int .i64 0, .int .i64 0, .int .i64 0, .int .i64 0, v_3]]) (post := heap_Heap_Put_post σ c_1 (.slice none 0 0) (⟨[], false⟩ : Sl Gheap_Chunk) 1 (.slice none 0 0) (⟨[], false⟩ : Sl Gdiff_Leq) 6 0 0 true false false (.agg #[.int .i64 0, .int .i64 0, .int .i64 0, .int .i64 0]) (⟨0, 0, 0, 0⟩ : Gheap_Sym) v_3 s_5) 4 rfl rfl rfl Try.func23 Try.pn23 rfl rfl (fun y st hy hpre => heap_Heap_Put_ref st σ c_1 (.slice none 0 0) (⟨[], false⟩ : Sl Gheap_Chunk) 1 (.slice none 0 0) (⟨[], false⟩ : Sl Gdiff_Leq) 6 0 0 true false false (.agg #[.int .i64 0, .int .i64 0, .int .i64 0, .int .i64 0]) (⟨0, 0, 0, 0⟩ : Gheap_Sym) (t_Gheap_Sym_v.2 rfl) v_3 s_5 hpre y hy) ?_)
  intro r_10 v_12 s_15 PV_13 hr_11 hle_16 hp_14
  obtain ⟨v_17, rfl, rfl, rfl⟩ := hp_14
  refine JL_op rfl (op_alloc (cs := [.int .i64 0, .int .i64 0, .int .i64 0, .int .i64 0]) rfl Try.pi33 rfl rfl ?_)
  intro c_18
  refine JL_op rfl (op_store_priv (a := c_18) (off := 0) (vs := [.int .i64 r_10.1.Kind, .int .i64 r_10.1.Var, .int .i64 r_10.1.K, .int .i64 r_10.1.Block]) (cs' := [.int .i64 r_10.1.Kind, .int .i64 r_10.1.Var, .int .i64 r_10.1.K, .int .i64 r_10.1.Block]) (PV' := [.cell c_18 [.int .i64 r_10.1.Kind, .int .i64 r_10.1.Var, .int .i64 r_10.1.K, .int .i64 r_10.1.Block], .cell c_1 [v_17, .int .i64 1, (.slice none 0 0)], .row o_Gheap_Chunk 49 v_17 r_10.2, .row (t_Gdiff_Leq).o 39 (.slice none 0 0) (⟨[], false⟩ : Sl Gdiff_Leq), .row (t_Gheap_Sym).o 33 v_3 s_5]) 0 Try.pi33 rfl rfl rfl ⟨rfl, rfl, rfl, rfl, trivial⟩ rfl rfl rfl rfl rfl ?_)
  refine JL_nil ?_
  refine J_then ?_
  refine J_seq ?_
  refine J_region_any 3 [.cell c_18 [.int .i64 r_10.1.Kind, .int .i64 r_10.1.Var, .int .i64 r_10.1.K, .int .i64 r_10.1.Block], .cell c_1 [v_17, .int .i64 1, (.slice none 0 0)], .row (t_Gdiff_Leq).o 39 (.slice none 0 0) (⟨[], false⟩ : Sl Gdiff_Leq), .row (t_Gheap_Sym).o 33 v_3 s_5] Try.mixed (by kernel_rfl) fun hns => ?_
  refine JA_takep 0 rfl hns (by kernel_rfl) (by kernel_rfl) rfl (.inr (by exact HeldOK.same [0, 1, 3, 4] (by decide) rfl)) rfl rfl rfl (r_move (v := .pointer (some (Addr.add c_1 0))) rfl) ?_
  refine JA_take 1 rfl hns (by kernel_rfl) (by kernel_rfl) (by kernel_rfl) rfl (by kernel_rfl) (by exact HeldOK.same [0, 1, 3, 4] (by decide) rfl) rfl rfl rfl (r_load_priv (a := c_18) (off := 0) (cs' := [.int .i64 r_10.1.Kind, .int .i64 r_10.1.Var, .int .i64 r_10.1.K, .int .i64 r_10.1.Block]) (v := .agg #[.int .i64 r_10.1.Kind, .int .i64 r_10.1.Var, .int .i64 r_10.1.K, .int .i64 r_10.1.Block]) 0 Try.pu33 Try.pi33 rfl rfl rfl rfl (by decide) rfl) ?_
  refine J_bind fun k_21 hk_22 => ?_
  refine J_bind fun k_23 hk_24 => ?_
  refine J_meetD (fun y => lychgatelaw13_wakes_K3 k_23 r_10 y) 0 #[true, true, true, true, true, true, true, true, true, true] (fun (y : Unit) L τ PV => ∃ (w0 : Value), σ = τ ∧ L = [(1, .pointer (some (Addr.add c_1 0))), (2, .pointer (some (Addr.add c_18 0))), (4, .int .i64 k_23.2.1)] ∧ PV = [.cell c_1 [v_17, .int .i64 k_23.2.2.1, w0], .row o_Gheap_Chunk 49 v_17 r_10.2, .row (t_Gdiff_Leq).o 39 w0 k_23.2.2.2, .cell c_18 [.int .i64 r_10.1.Kind, .int .i64 r_10.1.Var, .int .i64 r_10.1.K, .int .i64 r_10.1.Block]]) (fun hk => ?_) ?_
  · refine JA_two (i := 2) (j := 7) (by kernel_rfl) ?_ ?_
    · refine J1_op rfl rfl (op_known hk_22 (op_callN (f := 25) (fn := Try.f25) (args := [.int .i64 1]) (post := heap_Number_post σ 1) 0 rfl rfl rfl Try.func25 Try.pn25 rfl rfl (fun y st hy hpre => heap_Number_ref st σ 1 hpre y hy) ?_))
      intro z_173 v_168 s_171 PV_169 hz_174 hle_172 hp_170
      obtain rfl := Option.some.inj (hk_22.symm.trans hz_174)
      obtain ⟨rfl, rfl, rfl⟩ := hp_170
      refine ⟨.inr (by exact HeldOK.same [0, 1, 3, 4] (by decide) rfl), ?_⟩
      refine JA_two (i := 3) (j := 7) (by kernel_rfl) ?_ ?_
      · refine J_front [1, 1, 1] ?_
        refine J1_op rfl rfl (op_known hk_24 (op_callN (f := 24) (fn := Try.f24) (args := [.pointer (some (Addr.add c_1 0)), .agg #[.int .i64 r_10.1.Kind, .int .i64 r_10.1.Var, .int .i64 r_10.1.K, .int .i64 r_10.1.Block], .agg #[.int .i64 1, .int .i64 0, .int .i64 1, .int .i64 0]]) (post := heap_Heap_Load_post σ c_1 v_17 r_10.2 1 (.slice none 0 0) (⟨[], false⟩ : Sl Gdiff_Leq) (.agg #[.int .i64 r_10.1.Kind, .int .i64 r_10.1.Var, .int .i64 r_10.1.K, .int .i64 r_10.1.Block]) r_10.1 (.agg #[.int .i64 1, .int .i64 0, .int .i64 1, .int .i64 0]) (⟨1, 0, 1, 0⟩ : Gheap_Sym)) 3 rfl rfl rfl Try.func24 Try.pn24 rfl rfl (fun y st hy hpre => heap_Heap_Load_ref st σ c_1 v_17 r_10.2 1 (.slice none 0 0) (⟨[], false⟩ : Sl Gdiff_Leq) (.agg #[.int .i64 r_10.1.Kind, .int .i64 r_10.1.Var, .int .i64 r_10.1.K, .int .i64 r_10.1.Block]) r_10.1 (t_Gheap_Sym_v.2 rfl) (.agg #[.int .i64 1, .int .i64 0, .int .i64 1, .int .i64 0]) (⟨1, 0, 1, 0⟩ : Gheap_Sym) (t_Gheap_Sym_v.2 rfl) hpre y hy) ?_))
        intro z_183 v_176 s_179 PV_177 hz_184 hle_180 hp_178
        obtain rfl := Option.some.inj (hk_24.symm.trans hz_184)
        obtain ⟨v_182, rfl, rfl, rfl⟩ := hp_178
        refine ⟨.inl (.inl rfl), ?_⟩
        refine JA_takep 4 rfl hns (by kernel_rfl) (by kernel_rfl) rfl (.inl rfl) rfl rfl rfl (r_move (v := .tuple #[.agg #[.int .i64 k_23.1.Kind, .int .i64 k_23.1.Var, .int .i64 k_23.1.K, .int .i64 k_23.1.Block], .int .i64 k_23.2.1]) rfl) ?_
        refine JA_takep 5 rfl hns (by kernel_rfl) (by kernel_rfl) rfl (.inl rfl) rfl rfl rfl (r_extract (v := .agg #[.int .i64 k_23.1.Kind, .int .i64 k_23.1.Var, .int .i64 k_23.1.K, .int .i64 k_23.1.Block]) rfl rfl) ?_
        refine JA_takep 6 rfl hns (by kernel_rfl) (by kernel_rfl) rfl (.inl rfl) rfl rfl rfl (r_extract (v := .int .i64 k_23.2.1) rfl rfl) ?_
        refine JA_op (i := 7) (by kernel_rfl) rfl rfl (op_alloc (cs := [.int .i64 0, .int .i64 0, .int .i64 0, .int .i64 0]) rfl Try.pi33 rfl rfl ?_)
        intro c_185
        refine ⟨.inl (.inr rfl), ?_⟩
        refine JA_op (i := 8) (by kernel_rfl) rfl rfl (op_store_priv (a := c_185) (off := 0) (vs := [.int .i64 k_23.1.Kind, .int .i64 k_23.1.Var, .int .i64 k_23.1.K, .int .i64 k_23.1.Block]) (cs' := [.int .i64 k_23.1.Kind, .int .i64 k_23.1.Var, .int .i64 k_23.1.K, .int .i64 k_23.1.Block]) (PV' := [.cell c_185 [.int .i64 k_23.1.Kind, .int .i64 k_23.1.Var, .int .i64 k_23.1.K, .int .i64 k_23.1.Block], .cell c_1 [v_17, .int .i64 k_23.2.2.1, v_182], .row o_Gheap_Chunk 49 v_17 r_10.2, .row (t_Gdiff_Leq).o 39 v_182 k_23.2.2.2, .cell c_18 [.int .i64 r_10.1.Kind, .int .i64 r_10.1.Var, .int .i64 r_10.1.K, .int .i64 r_10.1.Block], .row (t_Gheap_Sym).o 33 v_3 s_5]) 0 Try.pi33 rfl rfl rfl ⟨rfl, rfl, rfl, rfl, trivial⟩ rfl rfl rfl rfl rfl ?_)
        refine ⟨.inl (.inr rfl), ?_⟩
        refine JA_takep 9 rfl hns (by kernel_rfl) (by kernel_rfl) rfl (.inl rfl) rfl rfl rfl (r_assign (v := .int .i64 k_23.2.1) rfl) ?_
        refine J_keep [false, true, true, true, true, false] ?_
        refine J_prune _ ?_ fun b => hk () _ b _ _ ⟨v_182, rfl, rfl, rfl⟩
        exact ⟨rfl, rfl, rfl, trivial⟩
      · refine J1_op rfl rfl (op_alloc (cs := [.int .i64 0, .int .i64 0, .int .i64 0, .int .i64 0]) rfl Try.pi33 rfl rfl ?_)
        intro c_187
        refine ⟨.inr (by exact HeldOK.same [1, 2, 4, 5] (by decide) rfl), ?_⟩
        refine J_front [2, 2, 2] ?_
        refine JA_op (i := 3) (by kernel_rfl) rfl rfl (op_known hk_24 (op_callN (f := 24) (fn := Try.f24) (args := [.pointer (some (Addr.add c_1 0)), .agg #[.int .i64 r_10.1.Kind, .int .i64 r_10.1.Var, .int .i64 r_10.1.K, .int .i64 r_10.1.Block], .agg #[.int .i64 1, .int .i64 0, .int .i64 1, .int .i64 0]]) (post := heap_Heap_Load_post σ c_1 v_17 r_10.2 1 (.slice none 0 0) (⟨[], false⟩ : Sl Gdiff_Leq) (.agg #[.int .i64 r_10.1.Kind, .int .i64 r_10.1.Var, .int .i64 r_10.1.K, .int .i64 r_10.1.Block]) r_10.1 (.agg #[.int .i64 1, .int .i64 0, .int .i64 1, .int .i64 0]) (⟨1, 0, 1, 0⟩ : Gheap_Sym)) 3 rfl rfl rfl Try.func24 Try.pn24 rfl rfl (fun y st hy hpre => heap_Heap_Load_ref st σ c_1 v_17 r_10.2 1 (.slice none 0 0) (⟨[], false⟩ : Sl Gdiff_Leq) (.agg #[.int .i64 r_10.1.Kind, .int .i64 r_10.1.Var, .int .i64 r_10.1.K, .int .i64 r_10.1.Block]) r_10.1 (t_Gheap_Sym_v.2 rfl) (.agg #[.int .i64 1, .int .i64 0, .int .i64 1, .int .i64 0]) (⟨1, 0, 1, 0⟩ : Gheap_Sym) (t_Gheap_Sym_v.2 rfl) hpre y hy) ?_))
        intro z_197 v_190 s_193 PV_191 hz_198 hle_194 hp_192
        obtain rfl := Option.some.inj (hk_24.symm.trans hz_198)
        obtain ⟨v_196, rfl, rfl, rfl⟩ := hp_192
        refine ⟨.inl (.inl rfl), ?_⟩
        refine JA_takep 4 rfl hns (by kernel_rfl) (by kernel_rfl) rfl (.inl rfl) rfl rfl rfl (r_move (v := .tuple #[.agg #[.int .i64 k_23.1.Kind, .int .i64 k_23.1.Var, .int .i64 k_23.1.K, .int .i64 k_23.1.Block], .int .i64 k_23.2.1]) rfl) ?_
        refine JA_takep 5 rfl hns (by kernel_rfl) (by kernel_rfl) rfl (.inl rfl) rfl rfl rfl (r_extract (v := .agg #[.int .i64 k_23.1.Kind, .int .i64 k_23.1.Var, .int .i64 k_23.1.K, .int .i64 k_23.1.Block]) rfl rfl) ?_
        refine JA_takep 6 rfl hns (by kernel_rfl) (by kernel_rfl) rfl (.inl rfl) rfl rfl rfl (r_extract (v := .int .i64 k_23.2.1) rfl rfl) ?_
        refine JA_op (i := 8) (by kernel_rfl) rfl rfl (op_store_priv (a := c_187) (off := 0) (vs := [.int .i64 k_23.1.Kind, .int .i64 k_23.1.Var, .int .i64 k_23.1.K, .int .i64 k_23.1.Block]) (cs' := [.int .i64 k_23.1.Kind, .int .i64 k_23.1.Var, .int .i64 k_23.1.K, .int .i64 k_23.1.Block]) (PV' := [.cell c_1 [v_17, .int .i64 k_23.2.2.1, v_196], .row o_Gheap_Chunk 49 v_17 r_10.2, .row (t_Gdiff_Leq).o 39 v_196 k_23.2.2.2, .cell c_187 [.int .i64 k_23.1.Kind, .int .i64 k_23.1.Var, .int .i64 k_23.1.K, .int .i64 k_23.1.Block], .cell c_18 [.int .i64 r_10.1.Kind, .int .i64 r_10.1.Var, .int .i64 r_10.1.K, .int .i64 r_10.1.Block], .row (t_Gheap_Sym).o 33 v_3 s_5]) 3 Try.pi33 rfl rfl rfl ⟨rfl, rfl, rfl, rfl, trivial⟩ rfl rfl rfl rfl rfl ?_)
        refine ⟨.inl (.inr rfl), ?_⟩
        refine JA_takep 9 rfl hns (by kernel_rfl) (by kernel_rfl) rfl (.inl rfl) rfl rfl rfl (r_assign (v := .int .i64 k_23.2.1) rfl) ?_
        refine J_keep [true, true, true, false, true, false] ?_
        refine J_prune _ ?_ fun b => hk () _ b _ _ ⟨v_196, rfl, rfl, rfl⟩
        exact ⟨rfl, rfl, rfl, trivial⟩
    · refine J1_op rfl rfl (op_alloc (cs := [.int .i64 0, .int .i64 0, .int .i64 0, .int .i64 0]) rfl Try.pi33 rfl rfl ?_)
      intro c_199
      refine ⟨.inr (by exact HeldOK.same [1, 2, 4, 5] (by decide) rfl), ?_⟩
      refine JA_op (i := 2) (by kernel_rfl) rfl rfl (op_known hk_22 (op_callN (f := 25) (fn := Try.f25) (args := [.int .i64 1]) (post := heap_Number_post σ 1) 0 rfl rfl rfl Try.func25 Try.pn25 rfl rfl (fun y st hy hpre => heap_Number_ref st σ 1 hpre y hy) ?_))
      intro z_207 v_202 s_205 PV_203 hz_208 hle_206 hp_204
      obtain rfl := Option.some.inj (hk_22.symm.trans hz_208)
      obtain ⟨rfl, rfl, rfl⟩ := hp_204
      refine ⟨.inr (by exact HeldOK.same [1, 2, 4, 5] (by decide) rfl), ?_⟩
      refine J_front [2, 2, 2] ?_
      refine JA_op (i := 3) (by kernel_rfl) rfl rfl (op_known hk_24 (op_callN (f := 24) (fn := Try.f24) (args := [.pointer (some (Addr.add c_1 0)), .agg #[.int .i64 r_10.1.Kind, .int .i64 r_10.1.Var, .int .i64 r_10.1.K, .int .i64 r_10.1.Block], .agg #[.int .i64 1, .int .i64 0, .int .i64 1, .int .i64 0]]) (post := heap_Heap_Load_post σ c_1 v_17 r_10.2 1 (.slice none 0 0) (⟨[], false⟩ : Sl Gdiff_Leq) (.agg #[.int .i64 r_10.1.Kind, .int .i64 r_10.1.Var, .int .i64 r_10.1.K, .int .i64 r_10.1.Block]) r_10.1 (.agg #[.int .i64 1, .int .i64 0, .int .i64 1, .int .i64 0]) (⟨1, 0, 1, 0⟩ : Gheap_Sym)) 3 rfl rfl rfl Try.func24 Try.pn24 rfl rfl (fun y st hy hpre => heap_Heap_Load_ref st σ c_1 v_17 r_10.2 1 (.slice none 0 0) (⟨[], false⟩ : Sl Gdiff_Leq) (.agg #[.int .i64 r_10.1.Kind, .int .i64 r_10.1.Var, .int .i64 r_10.1.K, .int .i64 r_10.1.Block]) r_10.1 (t_Gheap_Sym_v.2 rfl) (.agg #[.int .i64 1, .int .i64 0, .int .i64 1, .int .i64 0]) (⟨1, 0, 1, 0⟩ : Gheap_Sym) (t_Gheap_Sym_v.2 rfl) hpre y hy) ?_))
      intro z_217 v_210 s_213 PV_211 hz_218 hle_214 hp_212
      obtain rfl := Option.some.inj (hk_24.symm.trans hz_218)
      obtain ⟨v_216, rfl, rfl, rfl⟩ := hp_212
      refine ⟨.inl (.inl rfl), ?_⟩
      refine JA_takep 4 rfl hns (by kernel_rfl) (by kernel_rfl) rfl (.inl rfl) rfl rfl rfl (r_move (v := .tuple #[.agg #[.int .i64 k_23.1.Kind, .int .i64 k_23.1.Var, .int .i64 k_23.1.K, .int .i64 k_23.1.Block], .int .i64 k_23.2.1]) rfl) ?_
      refine JA_takep 5 rfl hns (by kernel_rfl) (by kernel_rfl) rfl (.inl rfl) rfl rfl rfl (r_extract (v := .agg #[.int .i64 k_23.1.Kind, .int .i64 k_23.1.Var, .int .i64 k_23.1.K, .int .i64 k_23.1.Block]) rfl rfl) ?_
      refine JA_takep 6 rfl hns (by kernel_rfl) (by kernel_rfl) rfl (.inl rfl) rfl rfl rfl (r_extract (v := .int .i64 k_23.2.1) rfl rfl) ?_
      refine JA_op (i := 8) (by kernel_rfl) rfl rfl (op_store_priv (a := c_199) (off := 0) (vs := [.int .i64 k_23.1.Kind, .int .i64 k_23.1.Var, .int .i64 k_23.1.K, .int .i64 k_23.1.Block]) (cs' := [.int .i64 k_23.1.Kind, .int .i64 k_23.1.Var, .int .i64 k_23.1.K, .int .i64 k_23.1.Block]) (PV' := [.cell c_1 [v_17, .int .i64 k_23.2.2.1, v_216], .row o_Gheap_Chunk 49 v_17 r_10.2, .row (t_Gdiff_Leq).o 39 v_216 k_23.2.2.2, .cell c_199 [.int .i64 k_23.1.Kind, .int .i64 k_23.1.Var, .int .i64 k_23.1.K, .int .i64 k_23.1.Block], .cell c_18 [.int .i64 r_10.1.Kind, .int .i64 r_10.1.Var, .int .i64 r_10.1.K, .int .i64 r_10.1.Block], .row (t_Gheap_Sym).o 33 v_3 s_5]) 3 Try.pi33 rfl rfl rfl ⟨rfl, rfl, rfl, rfl, trivial⟩ rfl rfl rfl rfl rfl ?_)
      refine ⟨.inl (.inr rfl), ?_⟩
      refine JA_takep 9 rfl hns (by kernel_rfl) (by kernel_rfl) rfl (.inl rfl) rfl rfl rfl (r_assign (v := .int .i64 k_23.2.1) rfl) ?_
      refine J_keep [true, true, true, false, true, false] ?_
      refine J_prune _ ?_ fun b => hk () _ b _ _ ⟨v_216, rfl, rfl, rfl⟩
      exact ⟨rfl, rfl, rfl, trivial⟩
  · rintro y_25 _ b s_29 _ ⟨v_28, rfl, rfl, rfl⟩
    unfold lychgatelaw13_wakes_K3
    refine JA_done (by kernel_rfl) ?_
    refine J_then ?_
    refine J_seq ?_
    refine J_region ?_
    refine JL_op rfl (op_read rfl rfl (r_move (v := .pointer (some (Addr.add c_1 0))) rfl) ?_)
    refine JL_op rfl (op_read rfl rfl (r_load_priv (a := c_18) (off := 0) (cs' := [.int .i64 r_10.1.Kind, .int .i64 r_10.1.Var, .int .i64 r_10.1.K, .int .i64 r_10.1.Block]) (v := .agg #[.int .i64 r_10.1.Kind, .int .i64 r_10.1.Var, .int .i64 r_10.1.K, .int .i64 r_10.1.Block]) 3 Try.pu33 Try.pi33 rfl rfl rfl rfl (by decide) rfl) ?_)
    refine JL_op rfl (op_callN (f := 26) (fn := Try.f26) (args := [.pointer (some (Addr.add c_1 0)), .agg #[.int .i64 r_10.1.Kind, .int .i64 r_10.1.Var, .int .i64 r_10.1.K, .int .i64 r_10.1.Block], .int .i64 0, .slice none 0 0]) (post := heap_Heap_Lock_post σ c_1 v_17 r_10.2 k_23.2.2.1 v_28 k_23.2.2.2 (.agg #[.int .i64 r_10.1.Kind, .int .i64 r_10.1.Var, .int .i64 r_10.1.K, .int .i64 r_10.1.Block]) r_10.1 0 (.slice none 0 0) (⟨[], false⟩ : Sl Gdiff_Leq)) 3 rfl rfl rfl Try.func26 Try.pn26 rfl rfl (fun y st hy hpre => heap_Heap_Lock_ref st σ c_1 v_17 r_10.2 k_23.2.2.1 v_28 k_23.2.2.2 (.agg #[.int .i64 r_10.1.Kind, .int .i64 r_10.1.Var, .int .i64 r_10.1.K, .int .i64 r_10.1.Block]) r_10.1 (t_Gheap_Sym_v.2 rfl) 0 (.slice none 0 0) (⟨[], false⟩ : Sl Gdiff_Leq) nil_vrel hpre y hy) ?_)
    intro r_30 v_32 s_35 PV_33 hr_31 hle_36 hp_34
    obtain ⟨v_38, v_40, rfl, rfl, rfl⟩ := hp_34
    refine JL_op rfl (op_read rfl rfl (r_assign (v := .int .i64 r_30.1) rfl) ?_)
    refine JL_nil ?_
    refine J_then ?_
    refine J_seq ?_
    refine J_region_any 3 [.cell c_1 [v_38, .int .i64 r_30.2.2.1, v_40], .row (t_Gdiff_Leq).o 39 v_40 r_30.2.2.2, .cell c_18 [.int .i64 r_10.1.Kind, .int .i64 r_10.1.Var, .int .i64 r_10.1.K, .int .i64 r_10.1.Block]] Try.mixed (by kernel_rfl) fun hns => ?_
    refine JA_takep 0 rfl hns (by kernel_rfl) (by kernel_rfl) rfl (.inr (by exact HeldOK.same [0, 2, 3] (by decide) rfl)) rfl rfl rfl (r_move (v := .pointer (some (Addr.add c_1 0))) rfl) ?_
    refine JA_take 1 rfl hns (by kernel_rfl) (by kernel_rfl) (by kernel_rfl) rfl (by kernel_rfl) (by exact HeldOK.same [0, 2, 3] (by decide) rfl) rfl rfl rfl (r_load_priv (a := c_18) (off := 0) (cs' := [.int .i64 r_10.1.Kind, .int .i64 r_10.1.Var, .int .i64 r_10.1.K, .int .i64 r_10.1.Block]) (v := .agg #[.int .i64 r_10.1.Kind, .int .i64 r_10.1.Var, .int .i64 r_10.1.K, .int .i64 r_10.1.Block]) 2 Try.pu33 Try.pi33 rfl rfl rfl rfl (by decide) rfl) ?_
    refine J_bind fun k_42 hk_43 => ?_
    refine J_bind fun k_44 hk_45 => ?_
    refine J_meetD (fun y => lychgatelaw13_wakes_K2 k_23 k_44 r_10 r_30 y) 0 #[true, true, true, true, true, true, true, true, true, true] (fun (y : Unit) L τ PV => ∃ (w0 : Value) (w1 : Addr), σ = τ ∧ L = [(1, .pointer (some (Addr.add c_1 0))), (2, .pointer (some (Addr.add c_18 0))), (4, .int .i64 k_23.2.1), (5, .int .i64 r_30.1), (6, .pointer (some (Addr.add w1 0))), (7, .int .i64 k_44.2.1)] ∧ PV = [.cell c_1 [v_38, .int .i64 k_44.2.2.1, w0], .row o_Gheap_Chunk 49 v_38 r_30.2.1, .row (t_Gdiff_Leq).o 39 w0 k_44.2.2.2, .cell c_18 [.int .i64 r_10.1.Kind, .int .i64 r_10.1.Var, .int .i64 r_10.1.K, .int .i64 r_10.1.Block], .cell w1 [.int .i64 k_44.1.Kind, .int .i64 k_44.1.Var, .int .i64 k_44.1.K, .int .i64 k_44.1.Block]]) (fun hk => ?_) ?_
    · refine JA_two (i := 2) (j := 7) (by kernel_rfl) ?_ ?_
      · refine J1_op rfl rfl (op_known hk_43 (op_callN (f := 25) (fn := Try.f25) (args := [.int .i64 1]) (post := heap_Number_post σ 1) 0 rfl rfl rfl Try.func25 Try.pn25 rfl rfl (fun y st hy hpre => heap_Number_ref st σ 1 hpre y hy) ?_))
        intro z_123 v_118 s_121 PV_119 hz_124 hle_122 hp_120
        obtain rfl := Option.some.inj (hk_43.symm.trans hz_124)
        obtain ⟨rfl, rfl, rfl⟩ := hp_120
        refine ⟨.inr (by exact HeldOK.same [0, 2, 3] (by decide) rfl), ?_⟩
        refine JA_two (i := 3) (j := 7) (by kernel_rfl) ?_ ?_
        · refine J1_op rfl rfl (op_known hk_45 (op_callN (f := 24) (fn := Try.f24) (args := [.pointer (some (Addr.add c_1 0)), .agg #[.int .i64 r_10.1.Kind, .int .i64 r_10.1.Var, .int .i64 r_10.1.K, .int .i64 r_10.1.Block], .agg #[.int .i64 1, .int .i64 0, .int .i64 1, .int .i64 0]]) (post := heap_Heap_Load_post σ c_1 v_38 r_30.2.1 r_30.2.2.1 v_40 r_30.2.2.2 (.agg #[.int .i64 r_10.1.Kind, .int .i64 r_10.1.Var, .int .i64 r_10.1.K, .int .i64 r_10.1.Block]) r_10.1 (.agg #[.int .i64 1, .int .i64 0, .int .i64 1, .int .i64 0]) (⟨1, 0, 1, 0⟩ : Gheap_Sym)) 3 rfl rfl rfl Try.func24 Try.pn24 rfl rfl (fun y st hy hpre => heap_Heap_Load_ref st σ c_1 v_38 r_30.2.1 r_30.2.2.1 v_40 r_30.2.2.2 (.agg #[.int .i64 r_10.1.Kind, .int .i64 r_10.1.Var, .int .i64 r_10.1.K, .int .i64 r_10.1.Block]) r_10.1 (t_Gheap_Sym_v.2 rfl) (.agg #[.int .i64 1, .int .i64 0, .int .i64 1, .int .i64 0]) (⟨1, 0, 1, 0⟩ : Gheap_Sym) (t_Gheap_Sym_v.2 rfl) hpre y hy) ?_))
          intro z_132 v_126 s_129 PV_127 hz_133 hle_130 hp_128
          obtain rfl := Option.some.inj (hk_45.symm.trans hz_133)
          obtain ⟨v_131, rfl, rfl, rfl⟩ := hp_128
          refine ⟨.inl (.inl rfl), ?_⟩
          refine JA_takep 4 rfl hns (by kernel_rfl) (by kernel_rfl) rfl (.inl rfl) rfl rfl rfl (r_move (v := .tuple #[.agg #[.int .i64 k_44.1.Kind, .int .i64 k_44.1.Var, .int .i64 k_44.1.K, .int .i64 k_44.1.Block], .int .i64 k_44.2.1]) rfl) ?_
          refine JA_takep 5 rfl hns (by kernel_rfl) (by kernel_rfl) rfl (.inl rfl) rfl rfl rfl (r_extract (v := .agg #[.int .i64 k_44.1.Kind, .int .i64 k_44.1.Var, .int .i64 k_44.1.K, .int .i64 k_44.1.Block]) rfl rfl) ?_
          refine JA_takep 6 rfl hns (by kernel_rfl) (by kernel_rfl) rfl (.inl rfl) rfl rfl rfl (r_extract (v := .int .i64 k_44.2.1) rfl rfl) ?_
          refine JA_op (i := 7) (by kernel_rfl) rfl rfl (op_alloc (cs := [.int .i64 0, .int .i64 0, .int .i64 0, .int .i64 0]) rfl Try.pi33 rfl rfl ?_)
          intro c_134
          refine ⟨.inl (.inr rfl), ?_⟩
          refine JA_op (i := 8) (by kernel_rfl) rfl rfl (op_store_priv (a := c_134) (off := 0) (vs := [.int .i64 k_44.1.Kind, .int .i64 k_44.1.Var, .int .i64 k_44.1.K, .int .i64 k_44.1.Block]) (cs' := [.int .i64 k_44.1.Kind, .int .i64 k_44.1.Var, .int .i64 k_44.1.K, .int .i64 k_44.1.Block]) (PV' := [.cell c_134 [.int .i64 k_44.1.Kind, .int .i64 k_44.1.Var, .int .i64 k_44.1.K, .int .i64 k_44.1.Block], .cell c_1 [v_38, .int .i64 k_44.2.2.1, v_131], .row o_Gheap_Chunk 49 v_38 r_30.2.1, .row (t_Gdiff_Leq).o 39 v_131 k_44.2.2.2, .cell c_18 [.int .i64 r_10.1.Kind, .int .i64 r_10.1.Var, .int .i64 r_10.1.K, .int .i64 r_10.1.Block]]) 0 Try.pi33 rfl rfl rfl ⟨rfl, rfl, rfl, rfl, trivial⟩ rfl rfl rfl rfl rfl ?_)
          refine ⟨.inl (.inr rfl), ?_⟩
          refine JA_takep 9 rfl hns (by kernel_rfl) (by kernel_rfl) rfl (.inl rfl) rfl rfl rfl (r_assign (v := .int .i64 k_44.2.1) rfl) ?_
          refine J_front [1, 1, 1, 1] ?_
          refine J_prune _ ?_ fun b => hk () _ b _ _ ⟨v_131, c_134, rfl, rfl, rfl⟩
          exact ⟨rfl, rfl, rfl, rfl, rfl, rfl, trivial⟩
        · refine J1_op rfl rfl (op_alloc (cs := [.int .i64 0, .int .i64 0, .int .i64 0, .int .i64 0]) rfl Try.pi33 rfl rfl ?_)
          intro c_136
          refine ⟨.inr (by exact HeldOK.same [1, 3, 4] (by decide) rfl), ?_⟩
          refine J_front [1, 1, 1] ?_
          refine JA_op (i := 3) (by kernel_rfl) rfl rfl (op_known hk_45 (op_callN (f := 24) (fn := Try.f24) (args := [.pointer (some (Addr.add c_1 0)), .agg #[.int .i64 r_10.1.Kind, .int .i64 r_10.1.Var, .int .i64 r_10.1.K, .int .i64 r_10.1.Block], .agg #[.int .i64 1, .int .i64 0, .int .i64 1, .int .i64 0]]) (post := heap_Heap_Load_post σ c_1 v_38 r_30.2.1 r_30.2.2.1 v_40 r_30.2.2.2 (.agg #[.int .i64 r_10.1.Kind, .int .i64 r_10.1.Var, .int .i64 r_10.1.K, .int .i64 r_10.1.Block]) r_10.1 (.agg #[.int .i64 1, .int .i64 0, .int .i64 1, .int .i64 0]) (⟨1, 0, 1, 0⟩ : Gheap_Sym)) 3 rfl rfl rfl Try.func24 Try.pn24 rfl rfl (fun y st hy hpre => heap_Heap_Load_ref st σ c_1 v_38 r_30.2.1 r_30.2.2.1 v_40 r_30.2.2.2 (.agg #[.int .i64 r_10.1.Kind, .int .i64 r_10.1.Var, .int .i64 r_10.1.K, .int .i64 r_10.1.Block]) r_10.1 (t_Gheap_Sym_v.2 rfl) (.agg #[.int .i64 1, .int .i64 0, .int .i64 1, .int .i64 0]) (⟨1, 0, 1, 0⟩ : Gheap_Sym) (t_Gheap_Sym_v.2 rfl) hpre y hy) ?_))
          intro z_146 v_139 s_142 PV_140 hz_147 hle_143 hp_141
          obtain rfl := Option.some.inj (hk_45.symm.trans hz_147)
          obtain ⟨v_145, rfl, rfl, rfl⟩ := hp_141
          refine ⟨.inl (.inl rfl), ?_⟩
          refine JA_takep 4 rfl hns (by kernel_rfl) (by kernel_rfl) rfl (.inl rfl) rfl rfl rfl (r_move (v := .tuple #[.agg #[.int .i64 k_44.1.Kind, .int .i64 k_44.1.Var, .int .i64 k_44.1.K, .int .i64 k_44.1.Block], .int .i64 k_44.2.1]) rfl) ?_
          refine JA_takep 5 rfl hns (by kernel_rfl) (by kernel_rfl) rfl (.inl rfl) rfl rfl rfl (r_extract (v := .agg #[.int .i64 k_44.1.Kind, .int .i64 k_44.1.Var, .int .i64 k_44.1.K, .int .i64 k_44.1.Block]) rfl rfl) ?_
          refine JA_takep 6 rfl hns (by kernel_rfl) (by kernel_rfl) rfl (.inl rfl) rfl rfl rfl (r_extract (v := .int .i64 k_44.2.1) rfl rfl) ?_
          refine JA_op (i := 8) (by kernel_rfl) rfl rfl (op_store_priv (a := c_136) (off := 0) (vs := [.int .i64 k_44.1.Kind, .int .i64 k_44.1.Var, .int .i64 k_44.1.K, .int .i64 k_44.1.Block]) (cs' := [.int .i64 k_44.1.Kind, .int .i64 k_44.1.Var, .int .i64 k_44.1.K, .int .i64 k_44.1.Block]) (PV' := [.cell c_1 [v_38, .int .i64 k_44.2.2.1, v_145], .row o_Gheap_Chunk 49 v_38 r_30.2.1, .row (t_Gdiff_Leq).o 39 v_145 k_44.2.2.2, .cell c_136 [.int .i64 k_44.1.Kind, .int .i64 k_44.1.Var, .int .i64 k_44.1.K, .int .i64 k_44.1.Block], .cell c_18 [.int .i64 r_10.1.Kind, .int .i64 r_10.1.Var, .int .i64 r_10.1.K, .int .i64 r_10.1.Block]]) 3 Try.pi33 rfl rfl rfl ⟨rfl, rfl, rfl, rfl, trivial⟩ rfl rfl rfl rfl rfl ?_)
          refine ⟨.inl (.inr rfl), ?_⟩
          refine JA_takep 9 rfl hns (by kernel_rfl) (by kernel_rfl) rfl (.inl rfl) rfl rfl rfl (r_assign (v := .int .i64 k_44.2.1) rfl) ?_
          refine J_front [0, 0, 0, 1] ?_
          refine J_prune _ ?_ fun b => hk () _ b _ _ ⟨v_145, c_136, rfl, rfl, rfl⟩
          exact ⟨rfl, rfl, rfl, rfl, rfl, rfl, trivial⟩
      · refine J1_op rfl rfl (op_alloc (cs := [.int .i64 0, .int .i64 0, .int .i64 0, .int .i64 0]) rfl Try.pi33 rfl rfl ?_)
        intro c_148
        refine ⟨.inr (by exact HeldOK.same [1, 3, 4] (by decide) rfl), ?_⟩
        refine JA_op (i := 2) (by kernel_rfl) rfl rfl (op_known hk_43 (op_callN (f := 25) (fn := Try.f25) (args := [.int .i64 1]) (post := heap_Number_post σ 1) 0 rfl rfl rfl Try.func25 Try.pn25 rfl rfl (fun y st hy hpre => heap_Number_ref st σ 1 hpre y hy) ?_))
        intro z_156 v_151 s_154 PV_152 hz_157 hle_155 hp_153
        obtain rfl := Option.some.inj (hk_43.symm.trans hz_157)
        obtain ⟨rfl, rfl, rfl⟩ := hp_153
        refine ⟨.inr (by exact HeldOK.same [1, 3, 4] (by decide) rfl), ?_⟩
        refine J_front [1, 1, 1] ?_
        refine JA_op (i := 3) (by kernel_rfl) rfl rfl (op_known hk_45 (op_callN (f := 24) (fn := Try.f24) (args := [.pointer (some (Addr.add c_1 0)), .agg #[.int .i64 r_10.1.Kind, .int .i64 r_10.1.Var, .int .i64 r_10.1.K, .int .i64 r_10.1.Block], .agg #[.int .i64 1, .int .i64 0, .int .i64 1, .int .i64 0]]) (post := heap_Heap_Load_post σ c_1 v_38 r_30.2.1 r_30.2.2.1 v_40 r_30.2.2.2 (.agg #[.int .i64 r_10.1.Kind, .int .i64 r_10.1.Var, .int .i64 r_10.1.K, .int .i64 r_10.1.Block]) r_10.1 (.agg #[.int .i64 1, .int .i64 0, .int .i64 1, .int .i64 0]) (⟨1, 0, 1, 0⟩ : Gheap_Sym)) 3 rfl rfl rfl Try.func24 Try.pn24 rfl rfl (fun y st hy hpre => heap_Heap_Load_ref st σ c_1 v_38 r_30.2.1 r_30.2.2.1 v_40 r_30.2.2.2 (.agg #[.int .i64 r_10.1.Kind, .int .i64 r_10.1.Var, .int .i64 r_10.1.K, .int .i64 r_10.1.Block]) r_10.1 (t_Gheap_Sym_v.2 rfl) (.agg #[.int .i64 1, .int .i64 0, .int .i64 1, .int .i64 0]) (⟨1, 0, 1, 0⟩ : Gheap_Sym) (t_Gheap_Sym_v.2 rfl) hpre y hy) ?_))
        intro z_166 v_159 s_162 PV_160 hz_167 hle_163 hp_161
        obtain rfl := Option.some.inj (hk_45.symm.trans hz_167)
        obtain ⟨v_165, rfl, rfl, rfl⟩ := hp_161
        refine ⟨.inl (.inl rfl), ?_⟩
        refine JA_takep 4 rfl hns (by kernel_rfl) (by kernel_rfl) rfl (.inl rfl) rfl rfl rfl (r_move (v := .tuple #[.agg #[.int .i64 k_44.1.Kind, .int .i64 k_44.1.Var, .int .i64 k_44.1.K, .int .i64 k_44.1.Block], .int .i64 k_44.2.1]) rfl) ?_
        refine JA_takep 5 rfl hns (by kernel_rfl) (by kernel_rfl) rfl (.inl rfl) rfl rfl rfl (r_extract (v := .agg #[.int .i64 k_44.1.Kind, .int .i64 k_44.1.Var, .int .i64 k_44.1.K, .int .i64 k_44.1.Block]) rfl rfl) ?_
        refine JA_takep 6 rfl hns (by kernel_rfl) (by kernel_rfl) rfl (.inl rfl) rfl rfl rfl (r_extract (v := .int .i64 k_44.2.1) rfl rfl) ?_
        refine JA_op (i := 8) (by kernel_rfl) rfl rfl (op_store_priv (a := c_148) (off := 0) (vs := [.int .i64 k_44.1.Kind, .int .i64 k_44.1.Var, .int .i64 k_44.1.K, .int .i64 k_44.1.Block]) (cs' := [.int .i64 k_44.1.Kind, .int .i64 k_44.1.Var, .int .i64 k_44.1.K, .int .i64 k_44.1.Block]) (PV' := [.cell c_1 [v_38, .int .i64 k_44.2.2.1, v_165], .row o_Gheap_Chunk 49 v_38 r_30.2.1, .row (t_Gdiff_Leq).o 39 v_165 k_44.2.2.2, .cell c_148 [.int .i64 k_44.1.Kind, .int .i64 k_44.1.Var, .int .i64 k_44.1.K, .int .i64 k_44.1.Block], .cell c_18 [.int .i64 r_10.1.Kind, .int .i64 r_10.1.Var, .int .i64 r_10.1.K, .int .i64 r_10.1.Block]]) 3 Try.pi33 rfl rfl rfl ⟨rfl, rfl, rfl, rfl, trivial⟩ rfl rfl rfl rfl rfl ?_)
        refine ⟨.inl (.inr rfl), ?_⟩
        refine JA_takep 9 rfl hns (by kernel_rfl) (by kernel_rfl) rfl (.inl rfl) rfl rfl rfl (r_assign (v := .int .i64 k_44.2.1) rfl) ?_
        refine J_front [0, 0, 0, 1] ?_
        refine J_prune _ ?_ fun b => hk () _ b _ _ ⟨v_165, c_148, rfl, rfl, rfl⟩
        exact ⟨rfl, rfl, rfl, rfl, rfl, rfl, trivial⟩
    · rintro y_46 _ b s_52 _ ⟨v_49, c_51, rfl, rfl, rfl⟩
      unfold lychgatelaw13_wakes_K2
      refine JA_done (by kernel_rfl) ?_
      refine J_then ?_
      refine J_seq ?_
      refine J_region_any 3 [.cell c_1 [v_38, .int .i64 k_44.2.2.1, v_49], .row (t_Gdiff_Leq).o 39 v_49 k_44.2.2.2, .cell c_18 [.int .i64 r_10.1.Kind, .int .i64 r_10.1.Var, .int .i64 r_10.1.K, .int .i64 r_10.1.Block], .cell c_51 [.int .i64 k_44.1.Kind, .int .i64 k_44.1.Var, .int .i64 k_44.1.K, .int .i64 k_44.1.Block]] Try.mixed (by kernel_rfl) fun hns => ?_
      refine JA_takep 0 rfl hns (by kernel_rfl) (by kernel_rfl) rfl (.inr (by exact HeldOK.same [0, 2, 3, 4] (by decide) rfl)) rfl rfl rfl (r_move (v := .pointer (some (Addr.add c_1 0))) rfl) ?_
      refine JA_take 1 rfl hns (by kernel_rfl) (by kernel_rfl) (by kernel_rfl) rfl (by kernel_rfl) (by exact HeldOK.same [0, 2, 3, 4] (by decide) rfl) rfl rfl rfl (r_load_priv (a := c_18) (off := 0) (cs' := [.int .i64 r_10.1.Kind, .int .i64 r_10.1.Var, .int .i64 r_10.1.K, .int .i64 r_10.1.Block]) (v := .agg #[.int .i64 r_10.1.Kind, .int .i64 r_10.1.Var, .int .i64 r_10.1.K, .int .i64 r_10.1.Block]) 2 Try.pu33 Try.pi33 rfl rfl rfl rfl (by decide) rfl) ?_
      refine J_bind fun k_54 hk_55 => ?_
      refine J_bind fun k_56 hk_57 => ?_
      refine J_meetD (fun y => lychgatelaw13_wakes_K1 k_23 k_44 k_56 r_30 y) 0 #[true, true, true, true, true, true, true, true, true, true] (fun (y : Unit) L τ PV => ∃ (w0 : Value), σ = τ ∧ L = [(1, .pointer (some (Addr.add c_1 0))), (4, .int .i64 k_23.2.1), (5, .int .i64 r_30.1), (6, .pointer (some (Addr.add c_51 0))), (7, .int .i64 k_44.2.1), (9, .int .i64 k_56.2.1)] ∧ PV = [.cell c_1 [v_38, .int .i64 k_56.2.2.1, w0], .row o_Gheap_Chunk 49 v_38 r_30.2.1, .row (t_Gdiff_Leq).o 39 w0 k_56.2.2.2, .cell c_51 [.int .i64 k_44.1.Kind, .int .i64 k_44.1.Var, .int .i64 k_44.1.K, .int .i64 k_44.1.Block]]) (fun hk => ?_) ?_
      · refine JA_two (i := 2) (j := 7) (by kernel_rfl) ?_ ?_
        · refine J1_op rfl rfl (op_known hk_55 (op_callN (f := 25) (fn := Try.f25) (args := [.int .i64 0]) (post := heap_Number_post σ 0) 0 rfl rfl rfl Try.func25 Try.pn25 rfl rfl (fun y st hy hpre => heap_Number_ref st σ 0 hpre y hy) ?_))
          intro z_73 v_68 s_71 PV_69 hz_74 hle_72 hp_70
          obtain rfl := Option.some.inj (hk_55.symm.trans hz_74)
          obtain ⟨rfl, rfl, rfl⟩ := hp_70
          refine ⟨.inr (by exact HeldOK.same [0, 2, 3, 4] (by decide) rfl), ?_⟩
          refine JA_two (i := 3) (j := 7) (by kernel_rfl) ?_ ?_
          · refine J1_op rfl rfl (op_known hk_57 (op_callN (f := 24) (fn := Try.f24) (args := [.pointer (some (Addr.add c_1 0)), .agg #[.int .i64 r_10.1.Kind, .int .i64 r_10.1.Var, .int .i64 r_10.1.K, .int .i64 r_10.1.Block], .agg #[.int .i64 1, .int .i64 0, .int .i64 0, .int .i64 0]]) (post := heap_Heap_Load_post σ c_1 v_38 r_30.2.1 k_44.2.2.1 v_49 k_44.2.2.2 (.agg #[.int .i64 r_10.1.Kind, .int .i64 r_10.1.Var, .int .i64 r_10.1.K, .int .i64 r_10.1.Block]) r_10.1 (.agg #[.int .i64 1, .int .i64 0, .int .i64 0, .int .i64 0]) (⟨1, 0, 0, 0⟩ : Gheap_Sym)) 3 rfl rfl rfl Try.func24 Try.pn24 rfl rfl (fun y st hy hpre => heap_Heap_Load_ref st σ c_1 v_38 r_30.2.1 k_44.2.2.1 v_49 k_44.2.2.2 (.agg #[.int .i64 r_10.1.Kind, .int .i64 r_10.1.Var, .int .i64 r_10.1.K, .int .i64 r_10.1.Block]) r_10.1 (t_Gheap_Sym_v.2 rfl) (.agg #[.int .i64 1, .int .i64 0, .int .i64 0, .int .i64 0]) (⟨1, 0, 0, 0⟩ : Gheap_Sym) (t_Gheap_Sym_v.2 rfl) hpre y hy) ?_))
            intro z_82 v_76 s_79 PV_77 hz_83 hle_80 hp_78
            obtain rfl := Option.some.inj (hk_57.symm.trans hz_83)
            obtain ⟨v_81, rfl, rfl, rfl⟩ := hp_78
            refine ⟨.inl (.inl rfl), ?_⟩
            refine JA_takep 4 rfl hns (by kernel_rfl) (by kernel_rfl) rfl (.inl rfl) rfl rfl rfl (r_move (v := .tuple #[.agg #[.int .i64 k_56.1.Kind, .int .i64 k_56.1.Var, .int .i64 k_56.1.K, .int .i64 k_56.1.Block], .int .i64 k_56.2.1]) rfl) ?_
            refine JA_takep 5 rfl hns (by kernel_rfl) (by kernel_rfl) rfl (.inl rfl) rfl rfl rfl (r_extract (v := .agg #[.int .i64 k_56.1.Kind, .int .i64 k_56.1.Var, .int .i64 k_56.1.K, .int .i64 k_56.1.Block]) rfl rfl) ?_
            refine JA_takep 6 rfl hns (by kernel_rfl) (by kernel_rfl) rfl (.inl rfl) rfl rfl rfl (r_extract (v := .int .i64 k_56.2.1) rfl rfl) ?_
            refine JA_op (i := 7) (by kernel_rfl) rfl rfl (op_alloc (cs := [.int .i64 0, .int .i64 0, .int .i64 0, .int .i64 0]) rfl Try.pi33 rfl rfl ?_)
            intro c_84
            refine ⟨.inl (.inr rfl), ?_⟩
            refine JA_op (i := 8) (by kernel_rfl) rfl rfl (op_store_priv (a := c_84) (off := 0) (vs := [.int .i64 k_56.1.Kind, .int .i64 k_56.1.Var, .int .i64 k_56.1.K, .int .i64 k_56.1.Block]) (cs' := [.int .i64 k_56.1.Kind, .int .i64 k_56.1.Var, .int .i64 k_56.1.K, .int .i64 k_56.1.Block]) (PV' := [.cell c_84 [.int .i64 k_56.1.Kind, .int .i64 k_56.1.Var, .int .i64 k_56.1.K, .int .i64 k_56.1.Block], .cell c_1 [v_38, .int .i64 k_56.2.2.1, v_81], .row o_Gheap_Chunk 49 v_38 r_30.2.1, .row (t_Gdiff_Leq).o 39 v_81 k_56.2.2.2, .cell c_18 [.int .i64 r_10.1.Kind, .int .i64 r_10.1.Var, .int .i64 r_10.1.K, .int .i64 r_10.1.Block], .cell c_51 [.int .i64 k_44.1.Kind, .int .i64 k_44.1.Var, .int .i64 k_44.1.K, .int .i64 k_44.1.Block]]) 0 Try.pi33 rfl rfl rfl ⟨rfl, rfl, rfl, rfl, trivial⟩ rfl rfl rfl rfl rfl ?_)
            refine ⟨.inl (.inr rfl), ?_⟩
            refine JA_takep 9 rfl hns (by kernel_rfl) (by kernel_rfl) rfl (.inl rfl) rfl rfl rfl (r_assign (v := .int .i64 k_56.2.1) rfl) ?_
            refine J_keep [false, true, true, true, false, true] ?_
            refine J_prune _ ?_ fun b => hk () _ b _ _ ⟨v_81, rfl, rfl, rfl⟩
            exact ⟨rfl, rfl, rfl, rfl, rfl, rfl, trivial⟩
          · refine J1_op rfl rfl (op_alloc (cs := [.int .i64 0, .int .i64 0, .int .i64 0, .int .i64 0]) rfl Try.pi33 rfl rfl ?_)
            intro c_86
            refine ⟨.inr (by exact HeldOK.same [1, 3, 4, 5] (by decide) rfl), ?_⟩
            refine J_front [1, 1, 1] ?_
            refine JA_op (i := 3) (by kernel_rfl) rfl rfl (op_known hk_57 (op_callN (f := 24) (fn := Try.f24) (args := [.pointer (some (Addr.add c_1 0)), .agg #[.int .i64 r_10.1.Kind, .int .i64 r_10.1.Var, .int .i64 r_10.1.K, .int .i64 r_10.1.Block], .agg #[.int .i64 1, .int .i64 0, .int .i64 0, .int .i64 0]]) (post := heap_Heap_Load_post σ c_1 v_38 r_30.2.1 k_44.2.2.1 v_49 k_44.2.2.2 (.agg #[.int .i64 r_10.1.Kind, .int .i64 r_10.1.Var, .int .i64 r_10.1.K, .int .i64 r_10.1.Block]) r_10.1 (.agg #[.int .i64 1, .int .i64 0, .int .i64 0, .int .i64 0]) (⟨1, 0, 0, 0⟩ : Gheap_Sym)) 3 rfl rfl rfl Try.func24 Try.pn24 rfl rfl (fun y st hy hpre => heap_Heap_Load_ref st σ c_1 v_38 r_30.2.1 k_44.2.2.1 v_49 k_44.2.2.2 (.agg #[.int .i64 r_10.1.Kind, .int .i64 r_10.1.Var, .int .i64 r_10.1.K, .int .i64 r_10.1.Block]) r_10.1 (t_Gheap_Sym_v.2 rfl) (.agg #[.int .i64 1, .int .i64 0, .int .i64 0, .int .i64 0]) (⟨1, 0, 0, 0⟩ : Gheap_Sym) (t_Gheap_Sym_v.2 rfl) hpre y hy) ?_))
            intro z_96 v_89 s_92 PV_90 hz_97 hle_93 hp_91
            obtain rfl := Option.some.inj (hk_57.symm.trans hz_97)
            obtain ⟨v_95, rfl, rfl, rfl⟩ := hp_91
            refine ⟨.inl (.inl rfl), ?_⟩
            refine JA_takep 4 rfl hns (by kernel_rfl) (by kernel_rfl) rfl (.inl rfl) rfl rfl rfl (r_move (v := .tuple #[.agg #[.int .i64 k_56.1.Kind, .int .i64 k_56.1.Var, .int .i64 k_56.1.K, .int .i64 k_56.1.Block], .int .i64 k_56.2.1]) rfl) ?_
            refine JA_takep 5 rfl hns (by kernel_rfl) (by kernel_rfl) rfl (.inl rfl) rfl rfl rfl (r_extract (v := .agg #[.int .i64 k_56.1.Kind, .int .i64 k_56.1.Var, .int .i64 k_56.1.K, .int .i64 k_56.1.Block]) rfl rfl) ?_
            refine JA_takep 6 rfl hns (by kernel_rfl) (by kernel_rfl) rfl (.inl rfl) rfl rfl rfl (r_extract (v := .int .i64 k_56.2.1) rfl rfl) ?_
            refine JA_op (i := 8) (by kernel_rfl) rfl rfl (op_store_priv (a := c_86) (off := 0) (vs := [.int .i64 k_56.1.Kind, .int .i64 k_56.1.Var, .int .i64 k_56.1.K, .int .i64 k_56.1.Block]) (cs' := [.int .i64 k_56.1.Kind, .int .i64 k_56.1.Var, .int .i64 k_56.1.K, .int .i64 k_56.1.Block]) (PV' := [.cell c_1 [v_38, .int .i64 k_56.2.2.1, v_95], .row o_Gheap_Chunk 49 v_38 r_30.2.1, .row (t_Gdiff_Leq).o 39 v_95 k_56.2.2.2, .cell c_86 [.int .i64 k_56.1.Kind, .int .i64 k_56.1.Var, .int .i64 k_56.1.K, .int .i64 k_56.1.Block], .cell c_18 [.int .i64 r_10.1.Kind, .int .i64 r_10.1.Var, .int .i64 r_10.1.K, .int .i64 r_10.1.Block], .cell c_51 [.int .i64 k_44.1.Kind, .int .i64 k_44.1.Var, .int .i64 k_44.1.K, .int .i64 k_44.1.Block]]) 3 Try.pi33 rfl rfl rfl ⟨rfl, rfl, rfl, rfl, trivial⟩ rfl rfl rfl rfl rfl ?_)
            refine ⟨.inl (.inr rfl), ?_⟩
            refine JA_takep 9 rfl hns (by kernel_rfl) (by kernel_rfl) rfl (.inl rfl) rfl rfl rfl (r_assign (v := .int .i64 k_56.2.1) rfl) ?_
            refine J_keep [true, true, true, false, false, true] ?_
            refine J_prune _ ?_ fun b => hk () _ b _ _ ⟨v_95, rfl, rfl, rfl⟩
            exact ⟨rfl, rfl, rfl, rfl, rfl, rfl, trivial⟩
        · refine J1_op rfl rfl (op_alloc (cs := [.int .i64 0, .int .i64 0, .int .i64 0, .int .i64 0]) rfl Try.pi33 rfl rfl ?_)
          intro c_98
          refine ⟨.inr (by exact HeldOK.same [1, 3, 4, 5] (by decide) rfl), ?_⟩
          refine JA_op (i := 2) (by kernel_rfl) rfl rfl (op_known hk_55 (op_callN (f := 25) (fn := Try.f25) (args := [.int .i64 0]) (post := heap_Number_post σ 0) 0 rfl rfl rfl Try.func25 Try.pn25 rfl rfl (fun y st hy hpre => heap_Number_ref st σ 0 hpre y hy) ?_))
          intro z_106 v_101 s_104 PV_102 hz_107 hle_105 hp_103
          obtain rfl := Option.some.inj (hk_55.symm.trans hz_107)
          obtain ⟨rfl, rfl, rfl⟩ := hp_103
          refine ⟨.inr (by exact HeldOK.same [1, 3, 4, 5] (by decide) rfl), ?_⟩
          refine J_front [1, 1, 1] ?_
          refine JA_op (i := 3) (by kernel_rfl) rfl rfl (op_known hk_57 (op_callN (f := 24) (fn := Try.f24) (args := [.pointer (some (Addr.add c_1 0)), .agg #[.int .i64 r_10.1.Kind, .int .i64 r_10.1.Var, .int .i64 r_10.1.K, .int .i64 r_10.1.Block], .agg #[.int .i64 1, .int .i64 0, .int .i64 0, .int .i64 0]]) (post := heap_Heap_Load_post σ c_1 v_38 r_30.2.1 k_44.2.2.1 v_49 k_44.2.2.2 (.agg #[.int .i64 r_10.1.Kind, .int .i64 r_10.1.Var, .int .i64 r_10.1.K, .int .i64 r_10.1.Block]) r_10.1 (.agg #[.int .i64 1, .int .i64 0, .int .i64 0, .int .i64 0]) (⟨1, 0, 0, 0⟩ : Gheap_Sym)) 3 rfl rfl rfl Try.func24 Try.pn24 rfl rfl (fun y st hy hpre => heap_Heap_Load_ref st σ c_1 v_38 r_30.2.1 k_44.2.2.1 v_49 k_44.2.2.2 (.agg #[.int .i64 r_10.1.Kind, .int .i64 r_10.1.Var, .int .i64 r_10.1.K, .int .i64 r_10.1.Block]) r_10.1 (t_Gheap_Sym_v.2 rfl) (.agg #[.int .i64 1, .int .i64 0, .int .i64 0, .int .i64 0]) (⟨1, 0, 0, 0⟩ : Gheap_Sym) (t_Gheap_Sym_v.2 rfl) hpre y hy) ?_))
          intro z_116 v_109 s_112 PV_110 hz_117 hle_113 hp_111
          obtain rfl := Option.some.inj (hk_57.symm.trans hz_117)
          obtain ⟨v_115, rfl, rfl, rfl⟩ := hp_111
          refine ⟨.inl (.inl rfl), ?_⟩
          refine JA_takep 4 rfl hns (by kernel_rfl) (by kernel_rfl) rfl (.inl rfl) rfl rfl rfl (r_move (v := .tuple #[.agg #[.int .i64 k_56.1.Kind, .int .i64 k_56.1.Var, .int .i64 k_56.1.K, .int .i64 k_56.1.Block], .int .i64 k_56.2.1]) rfl) ?_
          refine JA_takep 5 rfl hns (by kernel_rfl) (by kernel_rfl) rfl (.inl rfl) rfl rfl rfl (r_extract (v := .agg #[.int .i64 k_56.1.Kind, .int .i64 k_56.1.Var, .int .i64 k_56.1.K, .int .i64 k_56.1.Block]) rfl rfl) ?_
          refine JA_takep 6 rfl hns (by kernel_rfl) (by kernel_rfl) rfl (.inl rfl) rfl rfl rfl (r_extract (v := .int .i64 k_56.2.1) rfl rfl) ?_
          refine JA_op (i := 8) (by kernel_rfl) rfl rfl (op_store_priv (a := c_98) (off := 0) (vs := [.int .i64 k_56.1.Kind, .int .i64 k_56.1.Var, .int .i64 k_56.1.K, .int .i64 k_56.1.Block]) (cs' := [.int .i64 k_56.1.Kind, .int .i64 k_56.1.Var, .int .i64 k_56.1.K, .int .i64 k_56.1.Block]) (PV' := [.cell c_1 [v_38, .int .i64 k_56.2.2.1, v_115], .row o_Gheap_Chunk 49 v_38 r_30.2.1, .row (t_Gdiff_Leq).o 39 v_115 k_56.2.2.2, .cell c_98 [.int .i64 k_56.1.Kind, .int .i64 k_56.1.Var, .int .i64 k_56.1.K, .int .i64 k_56.1.Block], .cell c_18 [.int .i64 r_10.1.Kind, .int .i64 r_10.1.Var, .int .i64 r_10.1.K, .int .i64 r_10.1.Block], .cell c_51 [.int .i64 k_44.1.Kind, .int .i64 k_44.1.Var, .int .i64 k_44.1.K, .int .i64 k_44.1.Block]]) 3 Try.pi33 rfl rfl rfl ⟨rfl, rfl, rfl, rfl, trivial⟩ rfl rfl rfl rfl rfl ?_)
          refine ⟨.inl (.inr rfl), ?_⟩
          refine JA_takep 9 rfl hns (by kernel_rfl) (by kernel_rfl) rfl (.inl rfl) rfl rfl rfl (r_assign (v := .int .i64 k_56.2.1) rfl) ?_
          refine J_keep [true, true, true, false, false, true] ?_
          refine J_prune _ ?_ fun b => hk () _ b _ _ ⟨v_115, rfl, rfl, rfl⟩
          exact ⟨rfl, rfl, rfl, rfl, rfl, rfl, trivial⟩
      · rintro y_58 _ b s_62 _ ⟨v_61, rfl, rfl, rfl⟩
        unfold lychgatelaw13_wakes_K1
        refine JA_done (by kernel_rfl) ?_
        refine J_then ?_
        refine J_seq ?_
        refine J_region ?_
        refine JL_op rfl (op_read rfl rfl (r_move (v := .int .i64 k_23.2.1) rfl) ?_)
        refine JL_op rfl (op_read rfl rfl (r_eql rfl rfl) ?_)
        refine JL_op rfl (op_read rfl rfl (r_move (v := .bool (decide (k_23.2.1 = 45))) rfl) ?_)
        refine J_forkL (e := (decide (k_23.2.1 = 45))) 3 [(1, .pointer (some (Addr.add c_1 0))), (6, .pointer (some (Addr.add c_51 0))), (7, .int .i64 k_44.2.1), (9, .int .i64 k_56.2.1), (45, .bool (decide (k_23.2.1 = 45) && decide (r_30.1 = 0)))] (fun hc_63 hk => ?_) (fun hc_63 hk => ?_) (fun b => ?_)
        · refine JL_opg rfl rfl hc_63 (op_read rfl rfl (r_move (v := .int .i64 r_30.1) rfl) ?_)
          refine JL_opg rfl rfl hc_63 (op_read rfl rfl (r_eql rfl rfl) ?_)
          refine JL_op rfl (op_read rfl rfl (r_pick_t (v := .bool (decide (r_30.1 = 0))) rfl hc_63 rfl) ?_)
          refine J_prune [(1, .pointer (some (Addr.add c_1 0))), (6, .pointer (some (Addr.add c_51 0))), (7, .int .i64 k_44.2.1), (9, .int .i64 k_56.2.1), (45, .bool (decide (k_23.2.1 = 45) && decide (r_30.1 = 0)))] ⟨rfl, rfl, rfl, rfl, (by show Value.bool _ = Value.bool _; rw [hc_63]; rfl), trivial⟩ hk
        · refine JL_skip rfl rfl hc_63 rfl rfl ?_
          refine JL_skip rfl rfl hc_63 rfl rfl ?_
          refine JL_op rfl (op_read rfl rfl (r_pick_f (v := .bool false) rfl hc_63 rfl) ?_)
          refine J_prune [(1, .pointer (some (Addr.add c_1 0))), (6, .pointer (some (Addr.add c_51 0))), (7, .int .i64 k_44.2.1), (9, .int .i64 k_56.2.1), (45, .bool (decide (k_23.2.1 = 45) && decide (r_30.1 = 0)))] ⟨rfl, rfl, rfl, rfl, (by show Value.bool _ = Value.bool _; rw [hc_63]; rfl), trivial⟩ hk
        · refine JL_op rfl (op_read rfl rfl (r_move (v := .bool (decide (k_23.2.1 = 45) && decide (r_30.1 = 0))) rfl) ?_)
          refine J_forkL (e := (decide (k_23.2.1 = 45) && decide (r_30.1 = 0))) 3 [(1, .pointer (some (Addr.add c_1 0))), (6, .pointer (some (Addr.add c_51 0))), (9, .int .i64 k_56.2.1), (49, .bool ((decide (k_23.2.1 = 45) && decide (r_30.1 = 0)) && decide (k_44.2.1 = 0)))] (fun hc_64 hk => ?_) (fun hc_64 hk => ?_) (fun b => ?_)
          · refine JL_opg rfl rfl hc_64 (op_read rfl rfl (r_move (v := .int .i64 k_44.2.1) rfl) ?_)
            refine JL_opg rfl rfl hc_64 (op_read rfl rfl (r_eql rfl rfl) ?_)
            refine JL_op rfl (op_read rfl rfl (r_pick_t (v := .bool (decide (k_44.2.1 = 0))) rfl hc_64 rfl) ?_)
            refine J_prune [(1, .pointer (some (Addr.add c_1 0))), (6, .pointer (some (Addr.add c_51 0))), (9, .int .i64 k_56.2.1), (49, .bool ((decide (k_23.2.1 = 45) && decide (r_30.1 = 0)) && decide (k_44.2.1 = 0)))] ⟨rfl, rfl, rfl, (by show Value.bool _ = Value.bool _; rw [hc_64]; rfl), trivial⟩ hk
          · refine JL_skip rfl rfl hc_64 rfl rfl ?_
            refine JL_skip rfl rfl hc_64 rfl rfl ?_
            refine JL_op rfl (op_read rfl rfl (r_pick_f (v := .bool false) rfl hc_64 rfl) ?_)
            refine J_prune [(1, .pointer (some (Addr.add c_1 0))), (6, .pointer (some (Addr.add c_51 0))), (9, .int .i64 k_56.2.1), (49, .bool ((decide (k_23.2.1 = 45) && decide (r_30.1 = 0)) && decide (k_44.2.1 = 0)))] ⟨rfl, rfl, rfl, (by show Value.bool _ = Value.bool _; rw [hc_64]; rfl), trivial⟩ hk
          · refine JL_op rfl (op_read rfl rfl (r_move (v := .bool ((decide (k_23.2.1 = 45) && decide (r_30.1 = 0)) && decide (k_44.2.1 = 0))) rfl) ?_)
            refine J_forkL (e := ((decide (k_23.2.1 = 45) && decide (r_30.1 = 0)) && decide (k_44.2.1 = 0))) 4 [(1, .pointer (some (Addr.add c_1 0))), (9, .int .i64 k_56.2.1), (54, .bool (((decide (k_23.2.1 = 45) && decide (r_30.1 = 0)) && decide (k_44.2.1 = 0)) && decide (k_44.1 = (⟨1, 1, 0, 0⟩ : Gheap_Sym))))] (fun hc_65 hk => ?_) (fun hc_65 hk => ?_) (fun b => ?_)
            · refine JL_opg rfl rfl hc_65 (op_read rfl rfl (r_load_priv (a := c_51) (off := 0) (cs' := [.int .i64 k_44.1.Kind, .int .i64 k_44.1.Var, .int .i64 k_44.1.K, .int .i64 k_44.1.Block]) (v := .agg #[.int .i64 k_44.1.Kind, .int .i64 k_44.1.Var, .int .i64 k_44.1.K, .int .i64 k_44.1.Block]) 3 Try.pu33 Try.pi33 rfl rfl rfl rfl (by decide) rfl) ?_)
              refine JL_opg rfl rfl hc_65 (op_read rfl rfl (r_build (cs := [.int .i64 1, .int .i64 1, .int .i64 0, .int .i64 0]) (vs := [(0, .int .i64 1), (1, .int .i64 1)]) (pcs := [(0, [.int .i64 1]), (1, [.int .i64 1])]) (pls := [(0, 1), (1, 1), (2, 1), (3, 1)]) Try.pu33 Try.pi33 rfl (by kernel_rfl) rfl ⟨rfl, rfl, ⟨rfl, rfl, trivial⟩⟩ rfl) ?_)
              refine JL_opg rfl rfl hc_65 (op_read rfl rfl (r_eql_struct (by kernel_rfl) rfl rfl (by decide) (eq_Gheap_Sym (x := k_44.1) (y := (⟨1, 1, 0, 0⟩ : Gheap_Sym)))) ?_)
              refine JL_op rfl (op_read rfl rfl (r_pick_t (v := .bool (decide (k_44.1 = (⟨1, 1, 0, 0⟩ : Gheap_Sym)))) rfl hc_65 rfl) ?_)
              refine J_prune [(1, .pointer (some (Addr.add c_1 0))), (9, .int .i64 k_56.2.1), (54, .bool (((decide (k_23.2.1 = 45) && decide (r_30.1 = 0)) && decide (k_44.2.1 = 0)) && decide (k_44.1 = (⟨1, 1, 0, 0⟩ : Gheap_Sym))))] ⟨rfl, rfl, (by show Value.bool _ = Value.bool _; rw [hc_65]; rfl), trivial⟩ hk
            · refine JL_skip rfl rfl hc_65 rfl rfl ?_
              refine JL_skip rfl rfl hc_65 rfl rfl ?_
              refine JL_skip rfl rfl hc_65 rfl rfl ?_
              refine JL_op rfl (op_read rfl rfl (r_pick_f (v := .bool false) rfl hc_65 rfl) ?_)
              refine J_prune [(1, .pointer (some (Addr.add c_1 0))), (9, .int .i64 k_56.2.1), (54, .bool (((decide (k_23.2.1 = 45) && decide (r_30.1 = 0)) && decide (k_44.2.1 = 0)) && decide (k_44.1 = (⟨1, 1, 0, 0⟩ : Gheap_Sym))))] ⟨rfl, rfl, (by show Value.bool _ = Value.bool _; rw [hc_65]; rfl), trivial⟩ hk
            · refine JL_op rfl (op_read rfl rfl (r_move (v := .bool (((decide (k_23.2.1 = 45) && decide (r_30.1 = 0)) && decide (k_44.2.1 = 0)) && decide (k_44.1 = (⟨1, 1, 0, 0⟩ : Gheap_Sym)))) rfl) ?_)
              refine J_forkL (e := (((decide (k_23.2.1 = 45) && decide (r_30.1 = 0)) && decide (k_44.2.1 = 0)) && decide (k_44.1 = (⟨1, 1, 0, 0⟩ : Gheap_Sym)))) 3 [(1, .pointer (some (Addr.add c_1 0))), (58, .bool ((((decide (k_23.2.1 = 45) && decide (r_30.1 = 0)) && decide (k_44.2.1 = 0)) && decide (k_44.1 = (⟨1, 1, 0, 0⟩ : Gheap_Sym))) && decide (k_56.2.1 = 45)))] (fun hc_66 hk => ?_) (fun hc_66 hk => ?_) (fun b => ?_)
              · refine JL_opg rfl rfl hc_66 (op_read rfl rfl (r_move (v := .int .i64 k_56.2.1) rfl) ?_)
                refine JL_opg rfl rfl hc_66 (op_read rfl rfl (r_eql rfl rfl) ?_)
                refine JL_op rfl (op_read rfl rfl (r_pick_t (v := .bool (decide (k_56.2.1 = 45))) rfl hc_66 rfl) ?_)
                refine J_prune [(1, .pointer (some (Addr.add c_1 0))), (58, .bool ((((decide (k_23.2.1 = 45) && decide (r_30.1 = 0)) && decide (k_44.2.1 = 0)) && decide (k_44.1 = (⟨1, 1, 0, 0⟩ : Gheap_Sym))) && decide (k_56.2.1 = 45)))] ⟨rfl, (by show Value.bool _ = Value.bool _; rw [hc_66]; rfl), trivial⟩ hk
              · refine JL_skip rfl rfl hc_66 rfl rfl ?_
                refine JL_skip rfl rfl hc_66 rfl rfl ?_
                refine JL_op rfl (op_read rfl rfl (r_pick_f (v := .bool false) rfl hc_66 rfl) ?_)
                refine J_prune [(1, .pointer (some (Addr.add c_1 0))), (58, .bool ((((decide (k_23.2.1 = 45) && decide (r_30.1 = 0)) && decide (k_44.2.1 = 0)) && decide (k_44.1 = (⟨1, 1, 0, 0⟩ : Gheap_Sym))) && decide (k_56.2.1 = 45)))] ⟨rfl, (by show Value.bool _ = Value.bool _; rw [hc_66]; rfl), trivial⟩ hk
              · refine JL_op rfl (op_read rfl rfl (r_move (v := .bool ((((decide (k_23.2.1 = 45) && decide (r_30.1 = 0)) && decide (k_44.2.1 = 0)) && decide (k_44.1 = (⟨1, 1, 0, 0⟩ : Gheap_Sym))) && decide (k_56.2.1 = 45))) rfl) ?_)
                refine J_forkL (e := ((((decide (k_23.2.1 = 45) && decide (r_30.1 = 0)) && decide (k_44.2.1 = 0)) && decide (k_44.1 = (⟨1, 1, 0, 0⟩ : Gheap_Sym))) && decide (k_56.2.1 = 45))) 6 [(65, .bool (((((decide (k_23.2.1 = 45) && decide (r_30.1 = 0)) && decide (k_44.2.1 = 0)) && decide (k_44.1 = (⟨1, 1, 0, 0⟩ : Gheap_Sym))) && decide (k_56.2.1 = 45)) && decide (k_56.2.2.1 = 2)))] (fun hc_67 hk => ?_) (fun hc_67 hk => ?_) (fun b => ?_)
                · refine JL_opg rfl rfl hc_67 (op_read rfl rfl (r_move (v := .pointer (some (Addr.add c_1 0))) rfl) ?_)
                  refine JL_opg rfl rfl hc_67 (op_read rfl rfl (r_nilCheck (a := (Addr.add c_1 0)) rfl) ?_)
                  refine JL_opg rfl rfl hc_67 (op_read rfl rfl (r_fieldAddr (r := Addr.add c_1 1) Try.pu28 (f := Try.pf28.getD 1 default) rfl Try.pi3 (by decide) rfl (Addr.add_add _ _ _)) ?_)
                  refine JL_opg rfl rfl hc_67 (op_read rfl rfl (r_load_priv (a := c_1) (off := 1) (cs' := [.int .i64 k_56.2.2.1]) (v := .int .i64 k_56.2.2.1) 0 Try.pu3 Try.pi3 rfl rfl rfl rfl (by decide) rfl) ?_)
                  refine JL_opg rfl rfl hc_67 (op_read rfl rfl (r_eql rfl rfl) ?_)
                  refine JL_op rfl (op_read rfl rfl (r_pick_t (v := .bool (decide (k_56.2.2.1 = 2))) rfl hc_67 rfl) ?_)
                  refine J_prune [(65, .bool (((((decide (k_23.2.1 = 45) && decide (r_30.1 = 0)) && decide (k_44.2.1 = 0)) && decide (k_44.1 = (⟨1, 1, 0, 0⟩ : Gheap_Sym))) && decide (k_56.2.1 = 45)) && decide (k_56.2.2.1 = 2)))] ⟨(by show Value.bool _ = Value.bool _; rw [hc_67]; rfl), trivial⟩ hk
                · refine JL_skip rfl rfl hc_67 rfl rfl ?_
                  refine JL_skip rfl rfl hc_67 rfl rfl ?_
                  refine JL_skip rfl rfl hc_67 rfl rfl ?_
                  refine JL_skip rfl rfl hc_67 rfl rfl ?_
                  refine JL_skip rfl rfl hc_67 rfl rfl ?_
                  refine JL_op rfl (op_read rfl rfl (r_pick_f (v := .bool false) rfl hc_67 rfl) ?_)
                  refine J_prune [(65, .bool (((((decide (k_23.2.1 = 45) && decide (r_30.1 = 0)) && decide (k_44.2.1 = 0)) && decide (k_44.1 = (⟨1, 1, 0, 0⟩ : Gheap_Sym))) && decide (k_56.2.1 = 45)) && decide (k_56.2.2.1 = 2)))] ⟨(by show Value.bool _ = Value.bool _; rw [hc_67]; rfl), trivial⟩ hk
                · refine JL_op rfl (op_read rfl rfl (r_assign (v := .bool (((((decide (k_23.2.1 = 45) && decide (r_30.1 = 0)) && decide (k_44.2.1 = 0)) && decide (k_44.1 = (⟨1, 1, 0, 0⟩ : Gheap_Sym))) && decide (k_56.2.1 = 45)) && decide (k_56.2.2.1 = 2))) rfl) ?_)
                  refine JL_nil ?_
                  refine J_then ?_
                  refine J_ret ?_
                  exact J_returnV1 (PV' := []) rfl rv_tmp [] (by decide) rfl ⟨rfl, rfl, rfl⟩
def lychgatelaw13_cut_post (σ0 : FS) (n_1 : Int) (r : Unit) (σ : FS) (PV : List Priv) (v : Value) : Prop :=
  σ0 = σ ∧ .int .i64 (if (-1099511627776) < (if 1099511627776 < n_1 then 1099511627776 else n_1) then (if 1099511627776 < n_1 then 1099511627776 else n_1) else (-1099511627776)) = v ∧ PV = []
set_option maxRecDepth 100000 in
theorem lychgatelaw13_cut_ref (s : Start) (σ : FS) (n_1 : Int) (hs : Pre s σ []) (r : Unit) (hr : lychgatelaw13_cut n_1 = some r) : Does Try.prog 9 [.int .i64 n_1] s σ (lychgatelaw13_cut_post σ n_1 r) := by
  unfold lychgatelaw13_cut at hr
  refine does_of_J Try.func9 rfl (n := 6) rfl rfl hs hr ?_
  refine J_seq ?_
  refine J_region ?_
  refine JL_op rfl (op_read rfl rfl (r_assign (v := .int .i64 0) rfl) ?_)
  refine JL_nil ?_
  refine J_then ?_
  refine J_seq ?_
  refine J_region ?_
  refine JL_op rfl (op_read rfl rfl (r_move (v := .int .i64 n_1) rfl) ?_)
  refine JL_op rfl (op_read rfl rfl (r_min rfl rfl) ?_)
  refine JL_op rfl (op_read rfl rfl (r_max rfl rfl) ?_)
  refine JL_op rfl (op_read rfl rfl (r_assign (v := .int .i64 (if (-1099511627776) < (if 1099511627776 < n_1 then 1099511627776 else n_1) then (if 1099511627776 < n_1 then 1099511627776 else n_1) else (-1099511627776))) rfl) ?_)
  refine JL_nil ?_
  refine J_then ?_
  refine J_ret ?_
  exact J_returnV1 (PV' := []) rfl rv_tmp [] (by decide) rfl ⟨rfl, rfl, rfl⟩
def lychgatelaw13_facts_post (σ0 : FS) (v_1 : Value) (l_2 : Sl Gdiff_Leq) (n_4 : Int) (r : (Sl Gdiff_Leq)) (σ : FS) (PV : List Priv) (v : Value) : Prop :=
  ∃ (w0 : Value), σ0 = σ ∧ w0 = v ∧ PV = [.row (t_Gdiff_Leq).o 39 w0 r]
set_option maxRecDepth 100000 in
theorem lychgatelaw13_facts_ref (s : Start) (σ : FS) (v_1 : Value) (l_2 : Sl Gdiff_Leq) (h_3 : (tSl t_Gdiff_Leq).vrel σ v_1 l_2) (n_4 : Int) (hs : Pre s σ []) (r : (Sl Gdiff_Leq)) (hr : lychgatelaw13_facts l_2 n_4 = some r) : Does Try.prog 11 [v_1, .int .i64 n_4] s σ (lychgatelaw13_facts_post σ v_1 l_2 n_4 r) := by
  unfold lychgatelaw13_facts at hr
  refine does_of_J Try.func11 rfl (n := 37) rfl rfl hs hr ?_
  refine J_seq ?_
  refine J_region ?_
  refine JL_op rfl (op_read rfl rfl (r_assign (v := .slice none 0 0) rfl) ?_)
  refine JL_nil ?_
  refine J_then ?_
  refine J_seq ?_
  refine J_region ?_
  refine JL_op rfl (op_read rfl rfl (r_assign (v := .slice none 0 0) rfl) ?_)
  refine JL_nil ?_
  refine J_then ?_
  refine J_seq ?_
  refine J_seq ?_
  refine J_region ?_
  refine JL_op rfl (op_read rfl rfl (r_move (v := v_1) rfl) ?_)
  refine JL_op rfl (op_read rfl rfl (r_move (v := v_1) rfl) ?_)
  refine JL_op rfl (op_read rfl rfl (r_len_frozen (v := v_1) Try.pu22 rfl h_3) ?_)
  refine JL_op rfl (op_read rfl rfl (r_min rfl rfl) ?_)
  refine J_bind fun s_7 hs_8 => ?_
  refine JL_op rfl (op_reads rfl rfl (l_slice_frozen (v := v_1) (T := t_Gdiff_Leq) (s' := s_7) (i := 0) (j := (if 9 < l_2.len then 9 else l_2.len)) Try.pu22 Try.pi39 rfl rfl h_3 rfl ⟨_, rfl⟩ hs_8) ?_)
  intro v_5 h_6
  refine JL_op rfl (op_read rfl rfl (r_len_frozen (v := v_5) Try.pu22 rfl h_6) ?_)
  refine JL_op rfl (op_read rfl rfl (r_move (v := .int .i64 0) rfl) ?_)
  refine JL_nil ?_
  refine J_then ?_
  refine J_block ?_
  refine J_nil_row (t_Gdiff_Leq).o 39 ?_
  refine J_loop (fun (y : (Sl Gdiff_Leq) × Int) L τ PV => ∃ (w0 : Value), σ = τ ∧ L = [(1, .int .i64 n_4), (5, w0), (12, v_5), (13, .int .i64 s_7.len), (14, .int .i64 y.2)] ∧ PV = [.row (t_Gdiff_Leq).o 39 w0 y.1]) (fun (y : (Sl Gdiff_Leq)) e L τ PV => e = .exit 0 ∧ (∃ (w0 : Value), σ = τ ∧ L = [(5, w0)] ∧ PV = [.row (t_Gdiff_Leq).o 39 w0 y])) _ ?_ ⟨(.slice none 0 0), rfl, rfl, rfl⟩ ?_ ?_
  · exact ⟨rfl, rfl, rfl, rfl, rfl, trivial⟩
  · rintro x_10 _ b s_15 _ ⟨v_14, rfl, rfl, rfl⟩
    unfold lychgatelaw13_facts_L1
    refine J_seq ?_
    refine J_region ?_
    refine JL_op rfl (op_read rfl rfl (r_lss rfl rfl) ?_)
    refine JL_nil ?_
    refine J_then ?_
    refine J_seq ?_
    refine J_cond rfl (fun hc_16 => ?_) (fun hc_16 => ?_)
    · refine J_skip ?_
      refine J_then ?_
      refine J_seq ?_
      refine J_block ?_
      refine J_seq ?_
      refine J_region ?_
      refine J_bind fun x_17 hx_18 => ?_
      refine JL_op rfl (op_read rfl rfl (r_index_frozen (v := v_5) (T := t_Gdiff_Leq) (q := x_17) Try.pu22 Try.pi39 rfl rfl rfl h_6 hx_18) ?_)
      refine JL_op rfl (op_reads rfl rfl (l_elem_frozen (v := v_5) (T := t_Gdiff_Leq) (Tf := t_Gdiff_Leq) (q := x_17) (i := x_10.2) (off := 0) Try.pu39 Try.pi39 rfl rfl rfl h_6 hx_18 (FieldAt.self _) (by decide)) ?_)
      intro v_19 h_20
      obtain rfl := t_Gdiff_Leq_v.1 h_20
      refine JL_op rfl (op_alloc (cs := [.int .i64 0, .int .i64 0, .int .i64 0]) rfl Try.pi39 rfl rfl ?_)
      intro c_21
      refine JL_op rfl (op_store_priv (a := c_21) (off := 0) (vs := [.int .i64 x_17.X, .int .i64 x_17.Y, .int .i64 x_17.C]) (cs' := [.int .i64 x_17.X, .int .i64 x_17.Y, .int .i64 x_17.C]) (PV' := [.cell c_21 [.int .i64 x_17.X, .int .i64 x_17.Y, .int .i64 x_17.C], .row (t_Gdiff_Leq).o 39 v_14 x_10.1]) 0 Try.pi39 rfl rfl rfl ⟨rfl, rfl, rfl, trivial⟩ rfl rfl rfl rfl rfl ?_)
      refine JL_nil ?_
      refine J_then ?_
      refine J_region_any 16 [.cell c_21 [.int .i64 x_17.X, .int .i64 x_17.Y, .int .i64 x_17.C], .row (t_Gdiff_Leq).o 39 v_14 x_10.1] Try.mixed (by kernel_rfl) fun hns => ?_
      refine JA_takep 0 rfl hns (by kernel_rfl) (by kernel_rfl) rfl (.inr (by exact HeldOK.same [0, 1] (by decide) rfl)) rfl rfl rfl (r_move (v := v_14) rfl) ?_
      refine JA_takep 1 rfl hns (by kernel_rfl) (by kernel_rfl) rfl (.inr (by exact HeldOK.same [0, 1] (by decide) rfl)) rfl rfl rfl (r_fieldAddr (r := Addr.add c_21 0) Try.pu39 (f := Try.pf39.getD 0 default) rfl Try.pi3 (by decide) rfl (Addr.add_add _ _ _)) ?_
      refine JA_take 2 rfl hns (by kernel_rfl) (by kernel_rfl) (by kernel_rfl) rfl (by kernel_rfl) (by exact HeldOK.same [0, 1] (by decide) rfl) rfl rfl rfl (r_load_priv (a := c_21) (off := 0) (cs' := [.int .i64 x_17.X]) (v := .int .i64 x_17.X) 0 Try.pu3 Try.pi3 rfl rfl rfl rfl (by decide) rfl) ?_
      refine JA_takep 3 rfl hns (by kernel_rfl) (by kernel_rfl) rfl (.inr (by exact HeldOK.same [0, 1] (by decide) rfl)) rfl rfl rfl (r_max rfl rfl) ?_
      refine JA_takep 4 rfl hns (by kernel_rfl) (by kernel_rfl) rfl (.inr (by exact HeldOK.same [0, 1] (by decide) rfl)) rfl rfl rfl (r_move (v := .int .i64 n_4) rfl) ?_
      refine J_bind fun q_24 hq_25 => ?_
      refine JA_takep 5 rfl hns (by kernel_rfl) (by kernel_rfl) rfl (.inr (by exact HeldOK.same [0, 1] (by decide) rfl)) rfl rfl rfl (r_rem rfl rfl hq_25) ?_
      refine JA_takep 6 rfl hns (by kernel_rfl) (by kernel_rfl) rfl (.inr (by exact HeldOK.same [0, 1] (by decide) rfl)) rfl rfl rfl (r_fieldAddr (r := Addr.add c_21 1) Try.pu39 (f := Try.pf39.getD 1 default) rfl Try.pi3 (by decide) rfl (Addr.add_add _ _ _)) ?_
      refine JA_take 7 rfl hns (by kernel_rfl) (by kernel_rfl) (by kernel_rfl) rfl (by kernel_rfl) (by exact HeldOK.same [0, 1] (by decide) rfl) rfl rfl rfl (r_load_priv (a := c_21) (off := 1) (cs' := [.int .i64 x_17.Y]) (v := .int .i64 x_17.Y) 0 Try.pu3 Try.pi3 rfl rfl rfl rfl (by decide) rfl) ?_
      refine JA_takep 8 rfl hns (by kernel_rfl) (by kernel_rfl) rfl (.inr (by exact HeldOK.same [0, 1] (by decide) rfl)) rfl rfl rfl (r_max rfl rfl) ?_
      refine JA_takep 9 rfl hns (by kernel_rfl) (by kernel_rfl) rfl (.inr (by exact HeldOK.same [0, 1] (by decide) rfl)) rfl rfl rfl (r_move (v := .int .i64 n_4) rfl) ?_
      refine J_bind fun q_26 hq_27 => ?_
      refine JA_takep 10 rfl hns (by kernel_rfl) (by kernel_rfl) rfl (.inr (by exact HeldOK.same [0, 1] (by decide) rfl)) rfl rfl rfl (r_rem rfl rfl hq_27) ?_
      refine JA_takep 11 rfl hns (by kernel_rfl) (by kernel_rfl) rfl (.inr (by exact HeldOK.same [0, 1] (by decide) rfl)) rfl rfl rfl (r_fieldAddr (r := Addr.add c_21 2) Try.pu39 (f := Try.pf39.getD 2 default) rfl Try.pi2 (by decide) rfl (Addr.add_add _ _ _)) ?_
      refine JA_take 12 rfl hns (by kernel_rfl) (by kernel_rfl) (by kernel_rfl) rfl (by kernel_rfl) (by exact HeldOK.same [0, 1] (by decide) rfl) rfl rfl rfl (r_load_priv (a := c_21) (off := 2) (cs' := [.int .i64 x_17.C]) (v := .int .i64 x_17.C) 0 Try.pu2 Try.pi2 rfl rfl rfl rfl (by decide) rfl) ?_
      refine JA_op (i := 13) (by kernel_rfl) rfl rfl (op_callN (f := 9) (fn := Try.f9) (args := [.int .i64 x_17.C]) (post := lychgatelaw13_cut_post σ x_17.C) 0 rfl rfl rfl Try.func9 Try.pn9 rfl rfl (fun y st hy hpre => lychgatelaw13_cut_ref st σ x_17.C hpre y hy) ?_)
      intro r_28 v_30 s_33 PV_31 hr_29 hle_34 hp_32
      obtain ⟨rfl, rfl, rfl⟩ := hp_32
      refine ⟨.inr (by exact HeldOK.same [0, 1] (by decide) rfl), ?_⟩
      refine JA_takep 14 rfl hns (by kernel_rfl) (by kernel_rfl) rfl (.inr (by exact HeldOK.same [0, 1] (by decide) rfl)) rfl rfl rfl (r_build (cs := [.int .i64 q_24, .int .i64 q_26, .int .i64 (if (-1099511627776) < (if 1099511627776 < x_17.C then 1099511627776 else x_17.C) then (if 1099511627776 < x_17.C then 1099511627776 else x_17.C) else (-1099511627776))]) (vs := [(0, .int .i64 q_24), (1, .int .i64 q_26), (2, .int .i64 (if (-1099511627776) < (if 1099511627776 < x_17.C then 1099511627776 else x_17.C) then (if 1099511627776 < x_17.C then 1099511627776 else x_17.C) else (-1099511627776)))]) (pcs := [(0, [.int .i64 q_24]), (1, [.int .i64 q_26]), (2, [.int .i64 (if (-1099511627776) < (if 1099511627776 < x_17.C then 1099511627776 else x_17.C) then (if 1099511627776 < x_17.C then 1099511627776 else x_17.C) else (-1099511627776))])]) (pls := [(0, 1), (1, 1), (2, 1)]) Try.pu39 Try.pi39 rfl (by kernel_rfl) rfl ⟨rfl, rfl, ⟨rfl, rfl, ⟨rfl, rfl, trivial⟩⟩⟩ rfl) ?_
      refine JA_op (i := 15) (by kernel_rfl) rfl rfl (op_buildSlice (T := (t_Gdiff_Leq).o) (vs := [.agg #[.int .i64 q_24, .int .i64 q_26, .int .i64 (if (-1099511627776) < (if 1099511627776 < x_17.C then 1099511627776 else x_17.C) then (if 1099511627776 < x_17.C then 1099511627776 else x_17.C) else (-1099511627776))]]) (xs := [(⟨q_24, q_26, (if (-1099511627776) < (if 1099511627776 < x_17.C then 1099511627776 else x_17.C) then (if 1099511627776 < x_17.C then 1099511627776 else x_17.C) else (-1099511627776))⟩ : Gdiff_Leq)]) [] [.cell c_21 [.int .i64 x_17.X, .int .i64 x_17.Y, .int .i64 x_17.C], .row (t_Gdiff_Leq).o 39 v_14 x_10.1] rfl Try.pu22 Try.pi39 rfl rfl rfl rfl rfl rfl (relsO_cons (A := []) (B := []) (u := .agg #[.int .i64 q_24, .int .i64 q_26, .int .i64 (if (-1099511627776) < (if 1099511627776 < x_17.C then 1099511627776 else x_17.C) then (if 1099511627776 < x_17.C then 1099511627776 else x_17.C) else (-1099511627776))]) (x := (⟨q_24, q_26, (if (-1099511627776) < (if 1099511627776 < x_17.C then 1099511627776 else x_17.C) then (if 1099511627776 < x_17.C then 1099511627776 else x_17.C) else (-1099511627776))⟩ : Gdiff_Leq)) (fix_vrel (T := (t_Gdiff_Leq).o) rfl (t_Gdiff_Leq_v.2 rfl)) relsO_nil) ?_)
      intro v_36
      refine ⟨.inr (by exact HeldOK.same [1, 2] (by decide) rfl), ?_⟩
      refine J_front [2] ?_
      refine JA_op (i := 16) (by kernel_rfl) rfl rfl (op_append (v := v_14) (u := v_36) (T := (t_Gdiff_Leq).o) (ts := [(⟨q_24, q_26, (if (-1099511627776) < (if 1099511627776 < x_17.C then 1099511627776 else x_17.C) then (if 1099511627776 < x_17.C then 1099511627776 else x_17.C) else (-1099511627776))⟩ : Gdiff_Leq)]) [] [.row (t_Gdiff_Leq).o 39 v_36 (⟨[(⟨q_24, q_26, (if (-1099511627776) < (if 1099511627776 < x_17.C then 1099511627776 else x_17.C) then (if 1099511627776 < x_17.C then 1099511627776 else x_17.C) else (-1099511627776))⟩ : Gdiff_Leq)], true⟩ : Sl Gdiff_Leq), .cell c_21 [.int .i64 x_17.X, .int .i64 x_17.Y, .int .i64 x_17.C]] rfl Try.pu22 Try.pi39 rfl rfl rfl rfl rfl rfl (source_copy (s := (⟨[(⟨q_24, q_26, (if (-1099511627776) < (if 1099511627776 < x_17.C then 1099511627776 else x_17.C) then (if 1099511627776 < x_17.C then 1099511627776 else x_17.C) else (-1099511627776))⟩ : Gdiff_Leq)], true⟩ : Sl Gdiff_Leq)) 1 rfl) ?_)
      intro s_40 v_39 hs_41
      refine ⟨.inl (.inl rfl), ?_⟩
      refine JA_takep 17 rfl hns (by kernel_rfl) (by kernel_rfl) rfl (.inl rfl) rfl rfl rfl (r_assign (v := v_39) rfl) ?_
      refine JA_done (by kernel_rfl) ?_
      refine J_in_normal ?_
      refine J_then ?_
      refine J_region ?_
      refine JL_op rfl (op_read rfl rfl (r_add rfl rfl) ?_)
      refine JL_op rfl (op_read rfl rfl (r_move (v := .int .i64 (IntKind.i64.wrap (x_10.2 + 1))) rfl) ?_)
      refine JL_nil ?_
      refine J_keep [true, false, false] ?_
      refine J_next _ ?_ ⟨v_39, rfl, rfl, rfl⟩
      exact ⟨rfl, rfl, rfl, rfl, rfl, trivial⟩
    · refine J_exit ?_
      refine J_then_exit ?_
      refine J_done trivial _ ?_ ⟨rfl, v_14, rfl, rfl, rfl⟩
      exact ⟨rfl, trivial⟩
  · rintro y_43 _ _ b s_48 _ ⟨rfl, ⟨v_47, rfl, rfl, rfl⟩⟩
    refine J_in_exit ?_
    refine J_then ?_
    refine J_seq ?_
    refine J_region ?_
    refine JL_op rfl (op_read rfl rfl (r_move (v := v_47) rfl) ?_)
    refine JL_op rfl (op_read rfl rfl (r_assign (v := v_47) rfl) ?_)
    refine JL_nil ?_
    refine J_then ?_
    refine J_ret ?_
    exact J_returnV1 (PV' := [.row (t_Gdiff_Leq).o 39 v_47 y_43]) rfl rv_tmp [0] (by decide) rfl ⟨v_47, rfl, rfl, rfl⟩
def heap_Over_v2_post (σ0 : FS) (v_1 : Value) (x_2 : Sl Gdiff_Leq) (v_3 : Value) (x_4 : Sl Gheap_Sym) (r : (Sl Gdiff_Leq)) (σ : FS) (PV : List Priv) (v : Value) : Prop :=
  ∃ (w0 : Value), σ0 = σ ∧ w0 = v ∧ PV = [.row (t_Gdiff_Leq).o 39 w0 r, .row (t_Gdiff_Leq).o 39 v_1 x_2, .row (t_Gheap_Sym).o 33 v_3 x_4]
set_option maxRecDepth 100000 in
theorem heap_Over_v2_ref (s : Start) (σ : FS) (v_1 : Value) (x_2 : Sl Gdiff_Leq) (v_3 : Value) (x_4 : Sl Gheap_Sym) (hs : Pre s σ [.row (t_Gdiff_Leq).o 39 v_1 x_2, .row (t_Gheap_Sym).o 33 v_3 x_4]) (r : (Sl Gdiff_Leq)) (hr : heap_Over_v2 x_2 x_4 = some r) : Does Try.prog 12 [v_1, v_3] s σ (heap_Over_v2_post σ v_1 x_2 v_3 x_4 r) := by
  unfold heap_Over_v2 at hr
  refine does_of_J Try.func12 rfl (n := 48) rfl rfl hs hr ?_
  refine J_seq ?_
  refine J_region ?_
  refine J_row_one 1 rfl fun h_5 => ?_
  refine JL_op rfl (op_box (cs := [v_3]) rfl (one_cells h_5) ?_)
  intro c_6
  refine JL_op rfl (op_read rfl rfl (r_assign (v := .slice none 0 0) rfl) ?_)
  refine JL_nil ?_
  refine J_then ?_
  refine J_seq ?_
  refine J_region ?_
  refine JL_op rfl (op_read rfl rfl (r_makeFunc (fs := []) (cs := [.pointer (some (Addr.add c_6 0))]) rfl rfl) ?_)
  refine JL_op rfl (op_read rfl rfl (r_assign (v := .func (.func 27) #[] #[.pointer (some (Addr.add c_6 0))]) rfl) ?_)
  refine JL_nil ?_
  refine J_then ?_
  refine J_seq ?_
  refine J_region ?_
  refine JL_op rfl (op_read rfl rfl (r_assign (v := .slice none 0 0) rfl) ?_)
  refine JL_nil ?_
  refine J_then ?_
  refine J_seq ?_
  refine J_seq ?_
  refine J_region ?_
  refine JL_op rfl (op_read rfl rfl (r_move (v := v_1) rfl) ?_)
  refine JL_op rfl (op_read rfl rfl (r_len_row (v := v_1) 1 Try.pu22 rfl rfl) ?_)
  refine JL_op rfl (op_read rfl rfl (r_move (v := .int .i64 0) rfl) ?_)
  refine JL_nil ?_
  refine J_then ?_
  refine J_block ?_
  refine J_nil_row (t_Gdiff_Leq).o 39 ?_
  refine J_front [1, 2] ?_
  refine J_loop (fun (y : (Sl Gdiff_Leq) × Int) L τ PV => ∃ (w0 : Value), σ = τ ∧ L = [(5, .func (.func 27) #[] #[.pointer (some (Addr.add c_6 0))]), (6, w0), (14, v_1), (15, .int .i64 x_2.len), (16, .int .i64 y.2)] ∧ PV = [.cell c_6 [v_3], .row (t_Gheap_Sym).o 33 v_3 x_4, .row (t_Gdiff_Leq).o 39 w0 y.1, .row (t_Gdiff_Leq).o 39 v_1 x_2]) (fun (y : (Sl Gdiff_Leq)) e L τ PV => e = .exit 0 ∧ (∃ (w0 : Value), σ = τ ∧ L = [(6, w0)] ∧ PV = [.row (t_Gdiff_Leq).o 39 w0 y, .row (t_Gdiff_Leq).o 39 v_1 x_2, .row (t_Gheap_Sym).o 33 v_3 x_4])) _ ?_ ⟨(.slice none 0 0), rfl, rfl, rfl⟩ ?_ ?_
  · exact ⟨rfl, rfl, rfl, rfl, rfl, trivial⟩
  · rintro x_9 _ b s_14 _ ⟨v_13, rfl, rfl, rfl⟩
    unfold heap_Over_v2_L1
    refine J_seq ?_
    refine J_region ?_
    refine JL_op rfl (op_read rfl rfl (r_lss rfl rfl) ?_)
    refine JL_nil ?_
    refine J_then ?_
    refine J_seq ?_
    refine J_cond rfl (fun hc_15 => ?_) (fun hc_15 => ?_)
    · refine J_skip ?_
      refine J_then ?_
      refine J_seq ?_
      refine J_block ?_
      refine J_seq ?_
      refine J_region ?_
      refine J_bind fun x_16 hx_17 => ?_
      refine JL_op rfl (op_read rfl rfl (r_index_row (v := v_1) (T := (t_Gdiff_Leq).o) (q := x_16) 3 Try.pu22 Try.pi39 rfl rfl rfl rfl hx_17) ?_)
      refine JL_op rfl (op_reads rfl rfl (l_elem_orow (v := v_1) (T := (t_Gdiff_Leq).o) (Tf := t_Gdiff_Leq) (q := x_16) (i := x_9.2) (off := 0) 3 Try.pu39 Try.pi39 rfl rfl rfl rfl hx_17 (OFieldAt.self (T := (t_Gdiff_Leq).o)) (by decide)) ?_)
      intro v_18 h_19
      obtain rfl := t_Gdiff_Leq_v.1 h_19
      refine JL_op rfl (op_alloc (cs := [.int .i64 0, .int .i64 0, .int .i64 0]) rfl Try.pi39 rfl rfl ?_)
      intro c_20
      refine JL_op rfl (op_store_priv (a := c_20) (off := 0) (vs := [.int .i64 x_16.X, .int .i64 x_16.Y, .int .i64 x_16.C]) (cs' := [.int .i64 x_16.X, .int .i64 x_16.Y, .int .i64 x_16.C]) (PV' := [.cell c_20 [.int .i64 x_16.X, .int .i64 x_16.Y, .int .i64 x_16.C], .cell c_6 [v_3], .row (t_Gheap_Sym).o 33 v_3 x_4, .row (t_Gdiff_Leq).o 39 v_13 x_9.1, .row (t_Gdiff_Leq).o 39 v_1 x_2]) 0 Try.pi39 rfl rfl rfl ⟨rfl, rfl, rfl, trivial⟩ rfl rfl rfl rfl rfl ?_)
      refine JL_nil ?_
      refine J_then ?_
      refine J_seq ?_
      refine J_region ?_
      refine JL_op rfl (op_read rfl rfl (r_move (v := .func (.func 27) #[] #[.pointer (some (Addr.add c_6 0))]) rfl) ?_)
      refine JL_op rfl (op_read rfl rfl (r_fieldAddr (r := Addr.add c_20 0) Try.pu39 (f := Try.pf39.getD 0 default) rfl Try.pi3 (by decide) rfl (Addr.add_add _ _ _)) ?_)
      refine JL_op rfl (op_read rfl rfl (r_load_priv (a := c_20) (off := 0) (cs' := [.int .i64 x_16.X]) (v := .int .i64 x_16.X) 0 Try.pu3 Try.pi3 rfl rfl rfl rfl (by decide) rfl) ?_)
      refine J_front [1, 1] ?_
      refine JL_op rfl (op_callN (f := 27) (fn := Try.f27) (args := [.int .i64 x_16.X, .pointer (some (Addr.add c_6 0))]) (post := heap_Over_1_post σ x_16.X c_6 v_3 x_4) 2 rfl rfl rfl Try.func27 Try.pn27 rfl rfl (fun y st hy hpre => heap_Over_1_ref st σ x_16.X c_6 v_3 x_4 hpre y hy) ?_)
      intro r_22 v_24 s_27 PV_25 hr_23 hle_28 hp_26
      obtain ⟨rfl, rfl, rfl⟩ := hp_26
      refine JL_op rfl (op_read rfl rfl (r_move (v := .tuple #[.int .i64 r_22.1, .int .i64 r_22.2]) rfl) ?_)
      refine JL_op rfl (op_read rfl rfl (r_extract (v := .int .i64 r_22.1) rfl rfl) ?_)
      refine JL_op rfl (op_read rfl rfl (r_extract (v := .int .i64 r_22.2) rfl rfl) ?_)
      refine JL_op rfl (op_read rfl rfl (r_assign (v := .int .i64 r_22.1) rfl) ?_)
      refine JL_op rfl (op_read rfl rfl (r_assign (v := .int .i64 r_22.2) rfl) ?_)
      refine JL_nil ?_
      refine J_then ?_
      refine J_seq ?_
      refine J_region ?_
      refine JL_op rfl (op_read rfl rfl (r_move (v := .func (.func 27) #[] #[.pointer (some (Addr.add c_6 0))]) rfl) ?_)
      refine JL_op rfl (op_read rfl rfl (r_fieldAddr (r := Addr.add c_20 1) Try.pu39 (f := Try.pf39.getD 1 default) rfl Try.pi3 (by decide) rfl (Addr.add_add _ _ _)) ?_)
      refine JL_op rfl (op_read rfl rfl (r_load_priv (a := c_20) (off := 1) (cs' := [.int .i64 x_16.Y]) (v := .int .i64 x_16.Y) 2 Try.pu3 Try.pi3 rfl rfl rfl rfl (by decide) rfl) ?_)
      refine JL_op rfl (op_callN (f := 27) (fn := Try.f27) (args := [.int .i64 x_16.Y, .pointer (some (Addr.add c_6 0))]) (post := heap_Over_1_post σ x_16.Y c_6 v_3 x_4) 2 rfl rfl rfl Try.func27 Try.pn27 rfl rfl (fun y st hy hpre => heap_Over_1_ref st σ x_16.Y c_6 v_3 x_4 hpre y hy) ?_)
      intro r_29 v_31 s_34 PV_32 hr_30 hle_35 hp_33
      obtain ⟨rfl, rfl, rfl⟩ := hp_33
      refine JL_op rfl (op_read rfl rfl (r_move (v := .tuple #[.int .i64 r_29.1, .int .i64 r_29.2]) rfl) ?_)
      refine JL_op rfl (op_read rfl rfl (r_extract (v := .int .i64 r_29.1) rfl rfl) ?_)
      refine JL_op rfl (op_read rfl rfl (r_extract (v := .int .i64 r_29.2) rfl rfl) ?_)
      refine JL_op rfl (op_read rfl rfl (r_assign (v := .int .i64 r_29.1) rfl) ?_)
      refine JL_op rfl (op_read rfl rfl (r_assign (v := .int .i64 r_29.2) rfl) ?_)
      refine JL_nil ?_
      refine J_then ?_
      refine J_region ?_
      refine JL_op rfl (op_read rfl rfl (r_move (v := v_13) rfl) ?_)
      refine JL_op rfl (op_read rfl rfl (r_move (v := .int .i64 r_22.1) rfl) ?_)
      refine JL_op rfl (op_read rfl rfl (r_move (v := .int .i64 r_29.1) rfl) ?_)
      refine JL_op rfl (op_read rfl rfl (r_fieldAddr (r := Addr.add c_20 2) Try.pu39 (f := Try.pf39.getD 2 default) rfl Try.pi2 (by decide) rfl (Addr.add_add _ _ _)) ?_)
      refine JL_op rfl (op_read rfl rfl (r_load_priv (a := c_20) (off := 2) (cs' := [.int .i64 x_16.C]) (v := .int .i64 x_16.C) 2 Try.pu2 Try.pi2 rfl rfl rfl rfl (by decide) rfl) ?_)
      refine JL_op rfl (op_read rfl rfl (r_move (v := .int .i64 r_22.2) rfl) ?_)
      refine JL_op rfl (op_read rfl rfl (r_sub rfl rfl) ?_)
      refine JL_op rfl (op_read rfl rfl (r_move (v := .int .i64 r_29.2) rfl) ?_)
      refine JL_op rfl (op_read rfl rfl (r_add rfl rfl) ?_)
      refine JL_op rfl (op_read rfl rfl (r_build (cs := [.int .i64 r_22.1, .int .i64 r_29.1, .int .i64 (IntKind.i64.wrap ((IntKind.i64.wrap (x_16.C - r_22.2)) + r_29.2))]) (vs := [(0, .int .i64 r_22.1), (1, .int .i64 r_29.1), (2, .int .i64 (IntKind.i64.wrap ((IntKind.i64.wrap (x_16.C - r_22.2)) + r_29.2)))]) (pcs := [(0, [.int .i64 r_22.1]), (1, [.int .i64 r_29.1]), (2, [.int .i64 (IntKind.i64.wrap ((IntKind.i64.wrap (x_16.C - r_22.2)) + r_29.2))])]) (pls := [(0, 1), (1, 1), (2, 1)]) Try.pu39 Try.pi39 rfl (by kernel_rfl) rfl ⟨rfl, rfl, ⟨rfl, rfl, ⟨rfl, rfl, trivial⟩⟩⟩ rfl) ?_)
      refine JL_op rfl (op_buildSlice (T := (t_Gdiff_Leq).o) (vs := [.agg #[.int .i64 r_22.1, .int .i64 r_29.1, .int .i64 (IntKind.i64.wrap ((IntKind.i64.wrap (x_16.C - r_22.2)) + r_29.2))]]) (xs := [(⟨r_22.1, r_29.1, IntKind.i64.wrap ((IntKind.i64.wrap (x_16.C - r_22.2)) + r_29.2)⟩ : Gdiff_Leq)]) [] [.cell c_6 [v_3], .row (t_Gheap_Sym).o 33 v_3 x_4, .cell c_20 [.int .i64 x_16.X, .int .i64 x_16.Y, .int .i64 x_16.C], .row (t_Gdiff_Leq).o 39 v_13 x_9.1, .row (t_Gdiff_Leq).o 39 v_1 x_2] rfl Try.pu22 Try.pi39 rfl rfl rfl rfl rfl rfl (relsO_cons (A := []) (B := []) (u := .agg #[.int .i64 r_22.1, .int .i64 r_29.1, .int .i64 (IntKind.i64.wrap ((IntKind.i64.wrap (x_16.C - r_22.2)) + r_29.2))]) (x := (⟨r_22.1, r_29.1, IntKind.i64.wrap ((IntKind.i64.wrap (x_16.C - r_22.2)) + r_29.2)⟩ : Gdiff_Leq)) (fix_vrel (T := (t_Gdiff_Leq).o) rfl (t_Gdiff_Leq_v.2 rfl)) relsO_nil) ?_)
      intro v_36
      refine J_front [4] ?_
      refine JL_op rfl (op_append (v := v_13) (u := v_36) (T := (t_Gdiff_Leq).o) (ts := [(⟨r_22.1, r_29.1, IntKind.i64.wrap ((IntKind.i64.wrap (x_16.C - r_22.2)) + r_29.2)⟩ : Gdiff_Leq)]) [] [.row (t_Gdiff_Leq).o 39 v_36 (⟨[(⟨r_22.1, r_29.1, IntKind.i64.wrap ((IntKind.i64.wrap (x_16.C - r_22.2)) + r_29.2)⟩ : Gdiff_Leq)], true⟩ : Sl Gdiff_Leq), .cell c_6 [v_3], .row (t_Gheap_Sym).o 33 v_3 x_4, .cell c_20 [.int .i64 x_16.X, .int .i64 x_16.Y, .int .i64 x_16.C], .row (t_Gdiff_Leq).o 39 v_1 x_2] rfl Try.pu22 Try.pi39 rfl rfl rfl rfl rfl rfl (source_copy (s := (⟨[(⟨r_22.1, r_29.1, IntKind.i64.wrap ((IntKind.i64.wrap (x_16.C - r_22.2)) + r_29.2)⟩ : Gdiff_Leq)], true⟩ : Sl Gdiff_Leq)) 1 rfl) ?_)
      intro s_39 v_38 hs_40
      refine JL_op rfl (op_read rfl rfl (r_assign (v := v_38) rfl) ?_)
      refine JL_nil ?_
      refine J_in_normal ?_
      refine J_then ?_
      refine J_region ?_
      refine JL_op rfl (op_read rfl rfl (r_add rfl rfl) ?_)
      refine JL_op rfl (op_read rfl rfl (r_move (v := .int .i64 (IntKind.i64.wrap (x_9.2 + 1))) rfl) ?_)
      refine JL_nil ?_
      refine J_keep [true, false, true, true, false, true] ?_
      refine J_front [1, 1] ?_
      refine J_next _ ?_ ⟨v_38, rfl, rfl, rfl⟩
      exact ⟨rfl, rfl, rfl, rfl, rfl, trivial⟩
    · refine J_exit ?_
      refine J_then_exit ?_
      refine J_keep [false, true, true, true] ?_
      refine J_front [1, 1] ?_
      refine J_done trivial _ ?_ ⟨rfl, v_13, rfl, rfl, rfl⟩
      exact ⟨rfl, trivial⟩
  · rintro y_41 _ _ b s_46 _ ⟨rfl, ⟨v_45, rfl, rfl, rfl⟩⟩
    refine J_in_exit ?_
    refine J_then ?_
    refine J_seq ?_
    refine J_region ?_
    refine JL_op rfl (op_read rfl rfl (r_move (v := v_45) rfl) ?_)
    refine JL_op rfl (op_read rfl rfl (r_assign (v := v_45) rfl) ?_)
    refine JL_nil ?_
    refine J_then ?_
    refine J_ret ?_
    exact J_returnV1 (PV' := [.row (t_Gdiff_Leq).o 39 v_45 y_41, .row (t_Gdiff_Leq).o 39 v_1 x_2, .row (t_Gheap_Sym).o 33 v_3 x_4]) rfl rv_tmp [0, 1, 2] (by decide) rfl ⟨v_45, rfl, rfl, rfl⟩
end Go.Px
