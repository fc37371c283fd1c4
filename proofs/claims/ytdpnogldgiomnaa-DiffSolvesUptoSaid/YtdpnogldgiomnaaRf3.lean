/- The calls do what the models say, part 3. -/
import Derived.Test.YtdpnogldgiomnaaRf2
namespace Go.Px
open Go.Proofs
set_option linter.unusedVariables false
def lychgatelaw04_DiffMore_post (r : Bool) (σ : FS) (PV : List Priv) (v : Value) : Prop :=
  v = .bool r ∧ PV = []
set_option maxRecDepth 100000 in
theorem lychgatelaw04_DiffMore_ref (w : World) (σ : FS) (hs : σ.sub w) (n_1 : Int) (v_3 : Value) (goals_2 : GSt45) (h_4 : t_GSt45.vrel σ v_3 goals_2) (v_6 : Value) (facts_5 : Sl Gdiff_Leq) (h_7 : (tSl t_Gdiff_Leq).vrel σ v_6 facts_5) (r : Bool) (hr : lychgatelaw04_DiffMore n_1 goals_2 facts_5 = some r) : Does Try.prog 8 [.int .i64 n_1, v_3, v_6] w σ (lychgatelaw04_DiffMore_post r) := by
  unfold lychgatelaw04_DiffMore at hr
  obtain rfl := t_GSt45_v.1 h_4
  refine does_of_J Try.func8 rfl (n := 90) rfl rfl hs hr ?_
  refine J_seq ?_
  refine J_region ?_
  refine JL_op rfl (op_box (cs := [.int .i64 goals_2.e0.X, .int .i64 goals_2.e0.Y, .int .i64 goals_2.e0.C, .int .i64 goals_2.e1.X, .int .i64 goals_2.e1.Y, .int .i64 goals_2.e1.C]) rfl rfl ?_)
  intro c_8
  refine JL_op rfl (op_read rfl rfl (r_assign (v := .bool false) rfl) ?_)
  refine JL_nil ?_
  refine J_then ?_
  refine J_seq ?_
  refine J_region_any [.cell c_8 [.int .i64 goals_2.e0.X, .int .i64 goals_2.e0.Y, .int .i64 goals_2.e0.C, .int .i64 goals_2.e1.X, .int .i64 goals_2.e1.Y, .int .i64 goals_2.e1.C] 45] Try.mixed (by kernel_rfl) fun hns => ?_
  have hS_10 : HeldOK σ [.cell c_8 [.int .i64 goals_2.e0.X, .int .i64 goals_2.e0.Y, .int .i64 goals_2.e0.C, .int .i64 goals_2.e1.X, .int .i64 goals_2.e1.Y, .int .i64 goals_2.e1.C] 45] σ [.cell c_8 [.int .i64 goals_2.e0.X, .int .i64 goals_2.e0.Y, .int .i64 goals_2.e0.C, .int .i64 goals_2.e1.X, .int .i64 goals_2.e1.Y, .int .i64 goals_2.e1.C] 45] := HeldOK.same ⟨⟨0, rfl⟩, trivial⟩
  refine JA_take 0 rfl hns (by kernel_rfl) (by kernel_rfl) hS_10 rfl rfl rfl (r_index_arr (r := ⟨c_8, 0, none⟩) (n := 2) (i := 0) Try.pu45 Try.pi37 (by decide) rfl rfl (by decide) rfl) ?_
  refine JA_take 1 rfl hns (by kernel_rfl) (by kernel_rfl) hS_10 rfl rfl rfl (r_load_priv (cs' := [.int .i64 goals_2.e0.X, .int .i64 goals_2.e0.Y, .int .i64 goals_2.e0.C]) (v := .agg #[.int .i64 goals_2.e0.X, .int .i64 goals_2.e0.Y, .int .i64 goals_2.e0.C]) 0 Try.pu37 Try.pi37 rfl rfl rfl rfl (by decide) rfl) ?_
  refine JA_take 2 rfl hns (by kernel_rfl) (by kernel_rfl) hS_10 rfl rfl rfl (r_index_arr (r := ⟨c_8, 3, none⟩) (n := 2) (i := 1) Try.pu45 Try.pi37 (by decide) rfl rfl (by decide) rfl) ?_
  refine JA_take 3 rfl hns (by kernel_rfl) (by kernel_rfl) hS_10 rfl rfl rfl (r_load_priv (cs' := [.int .i64 goals_2.e1.X, .int .i64 goals_2.e1.Y, .int .i64 goals_2.e1.C]) (v := .agg #[.int .i64 goals_2.e1.X, .int .i64 goals_2.e1.Y, .int .i64 goals_2.e1.C]) 0 Try.pu37 Try.pi37 rfl rfl rfl rfl (by decide) rfl) ?_
  refine J_meetD (fun y => lychgatelaw04_DiffMore_K1 facts_5 n_1 y) 0 #[true, true, true, true, true, true, true, true] (fun (y : Gdiff_Leq × Gdiff_Leq) L τ PV => ∃ (c0 : Nat) (c1 : Nat), σ.le τ ∧ L = [(0, .int .i64 n_1), (2, v_6), (7, .pointer (some ⟨c0, 0, none⟩)), (8, .pointer (some ⟨c1, 0, none⟩))] ∧ PV = [.cell c0 [.int .i64 y.1.X, .int .i64 y.1.Y, .int .i64 y.1.C] 37, .cell c1 [.int .i64 y.2.X, .int .i64 y.2.Y, .int .i64 y.2.C] 37]) (fun hk => ?_) ?_
  · refine JA_two (i := 4) (j := 5) (by kernel_rfl) ?_ ?_
    · refine J1_op rfl rfl (op_alloc (cs := [.int .i64 0, .int .i64 0, .int .i64 0]) rfl Try.pi37 rfl rfl ?_)
      intro c_90
      have hS_92 : HeldOK σ [.cell c_8 [.int .i64 goals_2.e0.X, .int .i64 goals_2.e0.Y, .int .i64 goals_2.e0.C, .int .i64 goals_2.e1.X, .int .i64 goals_2.e1.Y, .int .i64 goals_2.e1.C] 45] σ [.cell c_90 [.int .i64 0, .int .i64 0, .int .i64 0] 37, .cell c_8 [.int .i64 goals_2.e0.X, .int .i64 goals_2.e0.Y, .int .i64 goals_2.e0.C, .int .i64 goals_2.e1.X, .int .i64 goals_2.e1.Y, .int .i64 goals_2.e1.C] 45] := HeldOK.same ⟨⟨1, rfl⟩, trivial⟩
      refine ⟨hS_92, ?_⟩
      refine JA_op (i := 5) (by kernel_rfl) rfl rfl (op_alloc (cs := [.int .i64 0, .int .i64 0, .int .i64 0]) rfl Try.pi37 rfl rfl ?_)
      intro c_93
      have hS_95 : HeldOK σ [.cell c_8 [.int .i64 goals_2.e0.X, .int .i64 goals_2.e0.Y, .int .i64 goals_2.e0.C, .int .i64 goals_2.e1.X, .int .i64 goals_2.e1.Y, .int .i64 goals_2.e1.C] 45] σ [.cell c_93 [.int .i64 0, .int .i64 0, .int .i64 0] 37, .cell c_90 [.int .i64 0, .int .i64 0, .int .i64 0] 37, .cell c_8 [.int .i64 goals_2.e0.X, .int .i64 goals_2.e0.Y, .int .i64 goals_2.e0.C, .int .i64 goals_2.e1.X, .int .i64 goals_2.e1.Y, .int .i64 goals_2.e1.C] 45] := HeldOK.same ⟨⟨2, rfl⟩, trivial⟩
      refine ⟨hS_95, ?_⟩
      refine JA_op (i := 6) (by kernel_rfl) rfl rfl (op_store_priv (vs := [.int .i64 goals_2.e0.X, .int .i64 goals_2.e0.Y, .int .i64 goals_2.e0.C]) (cs' := [.int .i64 goals_2.e0.X, .int .i64 goals_2.e0.Y, .int .i64 goals_2.e0.C]) (PV' := [.cell c_93 [.int .i64 0, .int .i64 0, .int .i64 0] 37, .cell c_90 [.int .i64 goals_2.e0.X, .int .i64 goals_2.e0.Y, .int .i64 goals_2.e0.C] 37, .cell c_8 [.int .i64 goals_2.e0.X, .int .i64 goals_2.e0.Y, .int .i64 goals_2.e0.C, .int .i64 goals_2.e1.X, .int .i64 goals_2.e1.Y, .int .i64 goals_2.e1.C] 45]) 1 Try.pi37 rfl rfl rfl ⟨rfl, rfl, rfl, trivial⟩ rfl rfl rfl rfl ?_)
      have hS_96 : HeldOK σ [.cell c_8 [.int .i64 goals_2.e0.X, .int .i64 goals_2.e0.Y, .int .i64 goals_2.e0.C, .int .i64 goals_2.e1.X, .int .i64 goals_2.e1.Y, .int .i64 goals_2.e1.C] 45] σ [.cell c_93 [.int .i64 0, .int .i64 0, .int .i64 0] 37, .cell c_90 [.int .i64 goals_2.e0.X, .int .i64 goals_2.e0.Y, .int .i64 goals_2.e0.C] 37, .cell c_8 [.int .i64 goals_2.e0.X, .int .i64 goals_2.e0.Y, .int .i64 goals_2.e0.C, .int .i64 goals_2.e1.X, .int .i64 goals_2.e1.Y, .int .i64 goals_2.e1.C] 45] := HeldOK.same ⟨⟨2, rfl⟩, trivial⟩
      refine ⟨hS_96, ?_⟩
      refine JA_op (i := 7) (by kernel_rfl) rfl rfl (op_store_priv (vs := [.int .i64 goals_2.e1.X, .int .i64 goals_2.e1.Y, .int .i64 goals_2.e1.C]) (cs' := [.int .i64 goals_2.e1.X, .int .i64 goals_2.e1.Y, .int .i64 goals_2.e1.C]) (PV' := [.cell c_93 [.int .i64 goals_2.e1.X, .int .i64 goals_2.e1.Y, .int .i64 goals_2.e1.C] 37, .cell c_90 [.int .i64 goals_2.e0.X, .int .i64 goals_2.e0.Y, .int .i64 goals_2.e0.C] 37, .cell c_8 [.int .i64 goals_2.e0.X, .int .i64 goals_2.e0.Y, .int .i64 goals_2.e0.C, .int .i64 goals_2.e1.X, .int .i64 goals_2.e1.Y, .int .i64 goals_2.e1.C] 45]) 0 Try.pi37 rfl rfl rfl ⟨rfl, rfl, rfl, trivial⟩ rfl rfl rfl rfl ?_)
      have hS_97 : HeldOK σ [.cell c_8 [.int .i64 goals_2.e0.X, .int .i64 goals_2.e0.Y, .int .i64 goals_2.e0.C, .int .i64 goals_2.e1.X, .int .i64 goals_2.e1.Y, .int .i64 goals_2.e1.C] 45] σ [.cell c_93 [.int .i64 goals_2.e1.X, .int .i64 goals_2.e1.Y, .int .i64 goals_2.e1.C] 37, .cell c_90 [.int .i64 goals_2.e0.X, .int .i64 goals_2.e0.Y, .int .i64 goals_2.e0.C] 37, .cell c_8 [.int .i64 goals_2.e0.X, .int .i64 goals_2.e0.Y, .int .i64 goals_2.e0.C, .int .i64 goals_2.e1.X, .int .i64 goals_2.e1.Y, .int .i64 goals_2.e1.C] 45] := HeldOK.same ⟨⟨2, rfl⟩, trivial⟩
      refine ⟨hS_97, ?_⟩
      refine J_select (PV' := [.cell c_90 [.int .i64 goals_2.e0.X, .int .i64 goals_2.e0.Y, .int .i64 goals_2.e0.C] 37, .cell c_93 [.int .i64 goals_2.e1.X, .int .i64 goals_2.e1.Y, .int .i64 goals_2.e1.C] 37]) [1, 0] (by decide) rfl ?_
      refine J_prune _ ?_ fun b => hk (goals_2.e0, goals_2.e1) _ b _ _ ⟨c_90, c_93, (FS.le.refl _), rfl, rfl⟩
      exact ⟨rfl, rfl, rfl, rfl, trivial⟩
    · refine J1_op rfl rfl (op_alloc (cs := [.int .i64 0, .int .i64 0, .int .i64 0]) rfl Try.pi37 rfl rfl ?_)
      intro c_98
      have hS_100 : HeldOK σ [.cell c_8 [.int .i64 goals_2.e0.X, .int .i64 goals_2.e0.Y, .int .i64 goals_2.e0.C, .int .i64 goals_2.e1.X, .int .i64 goals_2.e1.Y, .int .i64 goals_2.e1.C] 45] σ [.cell c_98 [.int .i64 0, .int .i64 0, .int .i64 0] 37, .cell c_8 [.int .i64 goals_2.e0.X, .int .i64 goals_2.e0.Y, .int .i64 goals_2.e0.C, .int .i64 goals_2.e1.X, .int .i64 goals_2.e1.Y, .int .i64 goals_2.e1.C] 45] := HeldOK.same ⟨⟨1, rfl⟩, trivial⟩
      refine ⟨hS_100, ?_⟩
      refine JA_op (i := 4) (by kernel_rfl) rfl rfl (op_alloc (cs := [.int .i64 0, .int .i64 0, .int .i64 0]) rfl Try.pi37 rfl rfl ?_)
      intro c_101
      have hS_103 : HeldOK σ [.cell c_8 [.int .i64 goals_2.e0.X, .int .i64 goals_2.e0.Y, .int .i64 goals_2.e0.C, .int .i64 goals_2.e1.X, .int .i64 goals_2.e1.Y, .int .i64 goals_2.e1.C] 45] σ [.cell c_101 [.int .i64 0, .int .i64 0, .int .i64 0] 37, .cell c_98 [.int .i64 0, .int .i64 0, .int .i64 0] 37, .cell c_8 [.int .i64 goals_2.e0.X, .int .i64 goals_2.e0.Y, .int .i64 goals_2.e0.C, .int .i64 goals_2.e1.X, .int .i64 goals_2.e1.Y, .int .i64 goals_2.e1.C] 45] := HeldOK.same ⟨⟨2, rfl⟩, trivial⟩
      refine ⟨hS_103, ?_⟩
      refine JA_op (i := 6) (by kernel_rfl) rfl rfl (op_store_priv (vs := [.int .i64 goals_2.e0.X, .int .i64 goals_2.e0.Y, .int .i64 goals_2.e0.C]) (cs' := [.int .i64 goals_2.e0.X, .int .i64 goals_2.e0.Y, .int .i64 goals_2.e0.C]) (PV' := [.cell c_101 [.int .i64 goals_2.e0.X, .int .i64 goals_2.e0.Y, .int .i64 goals_2.e0.C] 37, .cell c_98 [.int .i64 0, .int .i64 0, .int .i64 0] 37, .cell c_8 [.int .i64 goals_2.e0.X, .int .i64 goals_2.e0.Y, .int .i64 goals_2.e0.C, .int .i64 goals_2.e1.X, .int .i64 goals_2.e1.Y, .int .i64 goals_2.e1.C] 45]) 0 Try.pi37 rfl rfl rfl ⟨rfl, rfl, rfl, trivial⟩ rfl rfl rfl rfl ?_)
      have hS_104 : HeldOK σ [.cell c_8 [.int .i64 goals_2.e0.X, .int .i64 goals_2.e0.Y, .int .i64 goals_2.e0.C, .int .i64 goals_2.e1.X, .int .i64 goals_2.e1.Y, .int .i64 goals_2.e1.C] 45] σ [.cell c_101 [.int .i64 goals_2.e0.X, .int .i64 goals_2.e0.Y, .int .i64 goals_2.e0.C] 37, .cell c_98 [.int .i64 0, .int .i64 0, .int .i64 0] 37, .cell c_8 [.int .i64 goals_2.e0.X, .int .i64 goals_2.e0.Y, .int .i64 goals_2.e0.C, .int .i64 goals_2.e1.X, .int .i64 goals_2.e1.Y, .int .i64 goals_2.e1.C] 45] := HeldOK.same ⟨⟨2, rfl⟩, trivial⟩
      refine ⟨hS_104, ?_⟩
      refine JA_op (i := 7) (by kernel_rfl) rfl rfl (op_store_priv (vs := [.int .i64 goals_2.e1.X, .int .i64 goals_2.e1.Y, .int .i64 goals_2.e1.C]) (cs' := [.int .i64 goals_2.e1.X, .int .i64 goals_2.e1.Y, .int .i64 goals_2.e1.C]) (PV' := [.cell c_101 [.int .i64 goals_2.e0.X, .int .i64 goals_2.e0.Y, .int .i64 goals_2.e0.C] 37, .cell c_98 [.int .i64 goals_2.e1.X, .int .i64 goals_2.e1.Y, .int .i64 goals_2.e1.C] 37, .cell c_8 [.int .i64 goals_2.e0.X, .int .i64 goals_2.e0.Y, .int .i64 goals_2.e0.C, .int .i64 goals_2.e1.X, .int .i64 goals_2.e1.Y, .int .i64 goals_2.e1.C] 45]) 1 Try.pi37 rfl rfl rfl ⟨rfl, rfl, rfl, trivial⟩ rfl rfl rfl rfl ?_)
      have hS_105 : HeldOK σ [.cell c_8 [.int .i64 goals_2.e0.X, .int .i64 goals_2.e0.Y, .int .i64 goals_2.e0.C, .int .i64 goals_2.e1.X, .int .i64 goals_2.e1.Y, .int .i64 goals_2.e1.C] 45] σ [.cell c_101 [.int .i64 goals_2.e0.X, .int .i64 goals_2.e0.Y, .int .i64 goals_2.e0.C] 37, .cell c_98 [.int .i64 goals_2.e1.X, .int .i64 goals_2.e1.Y, .int .i64 goals_2.e1.C] 37, .cell c_8 [.int .i64 goals_2.e0.X, .int .i64 goals_2.e0.Y, .int .i64 goals_2.e0.C, .int .i64 goals_2.e1.X, .int .i64 goals_2.e1.Y, .int .i64 goals_2.e1.C] 45] := HeldOK.same ⟨⟨2, rfl⟩, trivial⟩
      refine ⟨hS_105, ?_⟩
      refine J_select (PV' := [.cell c_101 [.int .i64 goals_2.e0.X, .int .i64 goals_2.e0.Y, .int .i64 goals_2.e0.C] 37, .cell c_98 [.int .i64 goals_2.e1.X, .int .i64 goals_2.e1.Y, .int .i64 goals_2.e1.C] 37]) [0, 1] (by decide) rfl ?_
      refine J_prune _ ?_ fun b => hk (goals_2.e0, goals_2.e1) _ b _ _ ⟨c_101, c_98, (FS.le.refl _), rfl, rfl⟩
      exact ⟨rfl, rfl, rfl, rfl, trivial⟩
  · rintro y_11 _ b s_12 _ ⟨c_14, c_16, hle_13, rfl, rfl⟩
    unfold lychgatelaw04_DiffMore_K1
    refine JA_done (by kernel_rfl) ?_
    refine J_then ?_
    refine J_seq ?_
    refine J_region ?_
    refine JL_op rfl (op_read rfl rfl (r_move (v := .int .i64 n_1) rfl) ?_)
    refine JL_op rfl (op_read rfl rfl (r_load_priv (cs' := [.int .i64 y_11.1.X, .int .i64 y_11.1.Y, .int .i64 y_11.1.C]) (v := .agg #[.int .i64 y_11.1.X, .int .i64 y_11.1.Y, .int .i64 y_11.1.C]) 0 Try.pu37 Try.pi37 rfl rfl rfl rfl (by decide) rfl) ?_)
    refine JL_op rfl (op_read rfl rfl (r_move (v := v_6) rfl) ?_)
    refine JL_op rfl (op_call (f := 16) (fn := Try.f16) (args := [.int .i64 n_1, .agg #[.int .i64 y_11.1.X, .int .i64 y_11.1.Y, .int .i64 y_11.1.C], v_6]) (post := diff_Entails_post) rfl rfl rfl Try.func16 Try.pn16 rfl rfl (fun y w hy hs => diff_Entails_ref w _ hs n_1 (.agg #[.int .i64 y_11.1.X, .int .i64 y_11.1.Y, .int .i64 y_11.1.C]) y_11.1 (t_Gdiff_Leq_v.2 rfl) v_6 facts_5 (Ty.vmono _ hle_13 h_7) y hy) ?_)
    intro r_18 v_20 s_21 PV_23 hy_19 hle_22 hp_24
    obtain ⟨rfl, rfl⟩ := hp_24
    refine JL_op rfl (op_read rfl rfl (r_move (v := .tuple #[.bool r_18.1, .int .i64 r_18.2]) rfl) ?_)
    refine JL_op rfl (op_read rfl rfl (r_extract (v := .bool r_18.1) rfl rfl) ?_)
    refine JL_op rfl (op_read rfl rfl (r_extract (v := .int .i64 r_18.2) rfl rfl) ?_)
    refine JL_op rfl (op_read rfl rfl (r_assign (v := .bool r_18.1) rfl) ?_)
    refine JL_op rfl (op_read rfl rfl (r_assign (v := .int .i64 r_18.2) rfl) ?_)
    refine JL_nil ?_
    refine J_then ?_
    refine J_seq ?_
    refine J_region ?_
    refine JL_op rfl (op_read rfl rfl (r_assign (v := .slice none 0 0) rfl) ?_)
    refine JL_nil ?_
    refine J_then ?_
    refine J_seq ?_
    refine J_seq ?_
    refine J_region ?_
    refine JL_op rfl (op_read rfl rfl (r_move (v := v_6) rfl) ?_)
    refine JL_op rfl (op_read rfl rfl (r_len_frozen (v := v_6) Try.pu22 rfl (Ty.vmono _ (FS.le.trans hle_13 hle_22) h_7)) ?_)
    refine JL_op rfl (op_read rfl rfl (r_sub rfl rfl) ?_)
    refine JL_op rfl (op_read rfl rfl (r_assign (v := .int .i64 (IntKind.i64.wrap (facts_5.len - 1))) rfl) ?_)
    refine JL_nil ?_
    refine J_then ?_
    refine J_block ?_
    refine J_nil_row t_Gdiff_Leq 37 ?_
    refine J_select (PV' := [.cell c_14 [.int .i64 y_11.1.X, .int .i64 y_11.1.Y, .int .i64 y_11.1.C] 37, .cell c_16 [.int .i64 y_11.2.X, .int .i64 y_11.2.Y, .int .i64 y_11.2.C] 37, .row Gdiff_Leq t_Gdiff_Leq 37 (.slice none 0 0) (⟨[], false⟩ : Sl Gdiff_Leq)]) [1, 2, 0] (by decide) rfl ?_
    refine J_loop (fun (y : (Sl Gdiff_Leq) × Int) L τ PV => ∃ (w0 : Value), s_21.le τ ∧ L = [(0, .int .i64 n_1), (2, v_6), (7, .pointer (some ⟨c_14, 0, none⟩)), (8, .pointer (some ⟨c_16, 0, none⟩)), (9, .bool r_18.1), (10, .int .i64 r_18.2), (11, w0), (12, .int .i64 y.2)] ∧ PV = [.cell c_14 [.int .i64 y_11.1.X, .int .i64 y_11.1.Y, .int .i64 y_11.1.C] 37, .cell c_16 [.int .i64 y_11.2.X, .int .i64 y_11.2.Y, .int .i64 y_11.2.C] 37, .row Gdiff_Leq t_Gdiff_Leq 37 w0 y.1]) (fun (y : (Sl Gdiff_Leq)) e L τ PV => e = .exit 0 ∧ (∃ (w0 : Value), s_21.le τ ∧ L = [(0, .int .i64 n_1), (2, v_6), (7, .pointer (some ⟨c_14, 0, none⟩)), (8, .pointer (some ⟨c_16, 0, none⟩)), (9, .bool r_18.1), (10, .int .i64 r_18.2), (11, w0)] ∧ PV = [.cell c_14 [.int .i64 y_11.1.X, .int .i64 y_11.1.Y, .int .i64 y_11.1.C] 37, .cell c_16 [.int .i64 y_11.2.X, .int .i64 y_11.2.Y, .int .i64 y_11.2.C] 37, .row Gdiff_Leq t_Gdiff_Leq 37 w0 y])) _ ?_ ⟨(.slice none 0 0), (FS.le.refl _), rfl, rfl⟩ ?_ ?_
    · exact ⟨rfl, rfl, rfl, rfl, rfl, rfl, rfl, rfl, trivial⟩
    · rintro x_26 _ b s_27 _ ⟨v_29, hle_28, rfl, rfl⟩
      unfold lychgatelaw04_DiffMore_L1
      refine J_seq ?_
      refine J_seq ?_
      refine J_region ?_
      refine JL_op rfl (op_read rfl rfl (r_move (v := .int .i64 x_26.2) rfl) ?_)
      refine JL_op rfl (op_read rfl rfl (r_geq rfl rfl) ?_)
      refine JL_nil ?_
      refine J_then ?_
      refine J_cond rfl (fun hc_31 => ?_) (fun hc_31 => ?_)
      · refine J_skip ?_
        refine J_then ?_
        refine J_seq ?_
        refine J_block ?_
        refine J_region ?_
        refine JL_op rfl (op_read rfl rfl (r_move (v := v_29) rfl) ?_)
        refine JL_op rfl (op_read rfl rfl (r_move (v := v_6) rfl) ?_)
        refine JL_op rfl (op_read rfl rfl (r_move (v := .int .i64 x_26.2) rfl) ?_)
        refine J_bind fun x_32 hx_33 => ?_
        refine JL_op rfl (op_read rfl rfl (r_index_frozen (v := v_6) (T := t_Gdiff_Leq) (q := x_32) Try.pu22 Try.pi37 rfl rfl rfl (Ty.vmono _ (FS.le.trans (FS.le.trans hle_13 hle_22) hle_28) h_7) hx_33) ?_)
        refine JL_op rfl (op_reads rfl rfl (l_elem_frozen (v := v_6) (T := t_Gdiff_Leq) (Tf := t_Gdiff_Leq) (q := x_32) (i := x_26.2) (off := 0) Try.pu37 Try.pi37 rfl rfl rfl (Ty.vmono _ (FS.le.trans (FS.le.trans hle_13 hle_22) hle_28) h_7) hx_33 (FieldAt.self _) (by decide)) ?_)
        intro v_34 h_35
        obtain rfl := t_Gdiff_Leq_v.1 h_35
        refine JL_op rfl (op_buildSlice (T := t_Gdiff_Leq) (vs := [.agg #[.int .i64 x_32.X, .int .i64 x_32.Y, .int .i64 x_32.C]]) (xs := [x_32]) rfl Try.pu22 Try.pi37 rfl rfl rfl rfl rfl rfl ⟨(t_Gdiff_Leq_v.2 rfl), trivial⟩ ?_)
        intro v_36
        refine JL_op rfl (op_append (v := v_29) (u := v_36) (T := t_Gdiff_Leq) (ts := [x_32]) 3 rfl Try.pu22 Try.pi37 rfl rfl rfl rfl rfl rfl rfl (source_row (s := (⟨[x_32], true⟩ : Sl Gdiff_Leq)) 0 rfl) ?_)
        intro s_38 v_40 ha_39
        refine JL_op rfl (op_read rfl rfl (r_assign (v := v_40) rfl) ?_)
        refine JL_nil ?_
        refine J_in_normal ?_
        refine J_then ?_
        refine J_region ?_
        refine JL_op rfl (op_read rfl rfl (r_move (v := .int .i64 x_26.2) rfl) ?_)
        refine JL_op rfl (op_read rfl rfl (r_sub rfl rfl) ?_)
        refine JL_op rfl (op_read rfl rfl (r_assign (v := .int .i64 (IntKind.i64.wrap (x_26.2 - 1))) rfl) ?_)
        refine JL_nil ?_
        refine J_select (PV' := [.cell c_14 [.int .i64 y_11.1.X, .int .i64 y_11.1.Y, .int .i64 y_11.1.C] 37, .cell c_16 [.int .i64 y_11.2.X, .int .i64 y_11.2.Y, .int .i64 y_11.2.C] 37, .row Gdiff_Leq t_Gdiff_Leq 37 v_40 s_38]) [1, 2, 3] (by decide) rfl ?_
        refine J_next _ ?_ ⟨v_40, hle_28, rfl, rfl⟩
        exact ⟨rfl, rfl, rfl, rfl, rfl, rfl, rfl, rfl, trivial⟩
      · refine J_exit ?_
        refine J_then_exit ?_
        refine J_done trivial _ ?_ ⟨rfl, v_29, hle_28, rfl, rfl⟩
        exact ⟨rfl, rfl, rfl, rfl, rfl, rfl, rfl, trivial⟩
    · rintro y_41 _ _ b s_42 _ ⟨rfl, ⟨v_44, hle_43, rfl, rfl⟩⟩
      refine J_in_exit ?_
      refine J_then ?_
      refine J_seq ?_
      refine J_region ?_
      refine JL_op rfl (op_read rfl rfl (r_move (v := .int .i64 n_1) rfl) ?_)
      refine JL_op rfl (op_read rfl rfl (r_load_priv (cs' := [.int .i64 y_11.1.X, .int .i64 y_11.1.Y, .int .i64 y_11.1.C]) (v := .agg #[.int .i64 y_11.1.X, .int .i64 y_11.1.Y, .int .i64 y_11.1.C]) 0 Try.pu37 Try.pi37 rfl rfl rfl rfl (by decide) rfl) ?_)
      refine JL_op rfl (op_read rfl rfl (r_move (v := v_44) rfl) ?_)
      refine JL_op rfl (op_call_lend (f := 16) (fn := Try.f16) (args := [.int .i64 n_1, .agg #[.int .i64 y_11.1.X, .int .i64 y_11.1.Y, .int .i64 y_11.1.C], v_44]) (post := diff_Entails_post) rfl rfl rfl Try.func16 Try.pn16 rfl rfl (fun y w τ hy hle hs hrow => diff_Entails_ref w τ hs n_1 (.agg #[.int .i64 y_11.1.X, .int .i64 y_11.1.Y, .int .i64 y_11.1.C]) y_11.1 (Ty.vmono _ hle (t_Gdiff_Leq_v.2 rfl)) v_44 y_41 (hrow 2 _ _ _ _ _ rfl) y hy) (fun y σ' PV' v hp => by obtain ⟨rfl, rfl⟩ := hp; exact trivial) ?_)
      intro r_46 v_48 s_49 PV_51 hy_47 hp_52
      obtain ⟨rfl, rfl⟩ := hp_52
      refine JL_op rfl (op_read rfl rfl (r_move (v := .tuple #[.bool r_46.1, .int .i64 r_46.2]) rfl) ?_)
      refine JL_op rfl (op_read rfl rfl (r_extract (v := .bool r_46.1) rfl rfl) ?_)
      refine JL_op rfl (op_read rfl rfl (r_extract (v := .int .i64 r_46.2) rfl rfl) ?_)
      refine JL_op rfl (op_read rfl rfl (r_assign (v := .bool r_46.1) rfl) ?_)
      refine JL_op rfl (op_read rfl rfl (r_assign (v := .int .i64 r_46.2) rfl) ?_)
      refine JL_nil ?_
      refine J_then ?_
      refine J_seq ?_
      refine J_region_any [.cell c_14 [.int .i64 y_11.1.X, .int .i64 y_11.1.Y, .int .i64 y_11.1.C] 37, .cell c_16 [.int .i64 y_11.2.X, .int .i64 y_11.2.Y, .int .i64 y_11.2.C] 37] Try.mixed (by kernel_rfl) fun hns => ?_
      have hS_53 : HeldOK s_42 [.cell c_14 [.int .i64 y_11.1.X, .int .i64 y_11.1.Y, .int .i64 y_11.1.C] 37, .cell c_16 [.int .i64 y_11.2.X, .int .i64 y_11.2.Y, .int .i64 y_11.2.C] 37] s_42 [.cell c_14 [.int .i64 y_11.1.X, .int .i64 y_11.1.Y, .int .i64 y_11.1.C] 37, .cell c_16 [.int .i64 y_11.2.X, .int .i64 y_11.2.Y, .int .i64 y_11.2.C] 37, .row Gdiff_Leq t_Gdiff_Leq 37 v_44 y_41] := HeldOK.same ⟨⟨0, rfl⟩, ⟨1, rfl⟩, trivial⟩
      refine JA_take 0 rfl hns (by kernel_rfl) (by kernel_rfl) hS_53 rfl rfl rfl (r_move (v := .int .i64 n_1) rfl) ?_
      refine JA_take 1 rfl hns (by kernel_rfl) (by kernel_rfl) hS_53 rfl rfl rfl (r_load_priv (cs' := [.int .i64 y_11.1.X, .int .i64 y_11.1.Y, .int .i64 y_11.1.C]) (v := .agg #[.int .i64 y_11.1.X, .int .i64 y_11.1.Y, .int .i64 y_11.1.C]) 0 Try.pu37 Try.pi37 rfl rfl rfl rfl (by decide) rfl) ?_
      refine JA_take 2 rfl hns (by kernel_rfl) (by kernel_rfl) hS_53 rfl rfl rfl (r_move (v := v_44) rfl) ?_
      refine JA_take 3 rfl hns (by kernel_rfl) (by kernel_rfl) hS_53 rfl rfl rfl (r_load_priv (cs' := [.int .i64 y_11.2.X, .int .i64 y_11.2.Y, .int .i64 y_11.2.C]) (v := .agg #[.int .i64 y_11.2.X, .int .i64 y_11.2.Y, .int .i64 y_11.2.C]) 1 Try.pu37 Try.pi37 rfl rfl rfl rfl (by decide) rfl) ?_
      refine JA_take 6 rfl hns (by kernel_rfl) (by kernel_rfl) hS_53 rfl rfl rfl (r_move (v := v_6) rfl) ?_
      refine JA_take 7 rfl hns (by kernel_rfl) (by kernel_rfl) hS_53 rfl rfl rfl (r_move (v := v_6) rfl) ?_
      refine JA_take 8 rfl hns (by kernel_rfl) (by kernel_rfl) hS_53 rfl rfl rfl (r_len_frozen (v := v_6) Try.pu22 rfl (Ty.vmono _ (FS.le.trans (FS.le.trans hle_13 hle_22) hle_43) h_7)) ?_
      refine JA_take 9 rfl hns (by kernel_rfl) (by kernel_rfl) hS_53 rfl rfl rfl (r_min rfl rfl) ?_
      refine J_bind fun s_54 hs_55 => ?_
      refine JA_takes 10 rfl hns (by kernel_rfl) (by kernel_rfl) hS_53 rfl rfl rfl (l_slice_frozen (v := v_6) (T := t_Gdiff_Leq) (s' := s_54) (i := 0) (j := (if 3 < facts_5.len then 3 else facts_5.len)) Try.pu22 Try.pi37 rfl rfl (Ty.vmono _ (FS.le.trans (FS.le.trans hle_13 hle_22) hle_43) h_7) rfl ⟨_, rfl⟩ hs_55) ?_
      intro v_56 h_57
      refine JA_op (i := 4) (by kernel_rfl) rfl rfl (op_buildSlice (T := t_Gdiff_Leq) (vs := [.agg #[.int .i64 y_11.2.X, .int .i64 y_11.2.Y, .int .i64 y_11.2.C]]) (xs := [y_11.2]) rfl Try.pu22 Try.pi37 rfl rfl rfl rfl rfl rfl ⟨(t_Gdiff_Leq_v.2 rfl), trivial⟩ ?_)
      intro v_58
      have hS_60 : HeldOK s_42 [.cell c_14 [.int .i64 y_11.1.X, .int .i64 y_11.1.Y, .int .i64 y_11.1.C] 37, .cell c_16 [.int .i64 y_11.2.X, .int .i64 y_11.2.Y, .int .i64 y_11.2.C] 37] s_42 [.row Gdiff_Leq t_Gdiff_Leq 37 v_58 (⟨[y_11.2], true⟩ : Sl Gdiff_Leq), .cell c_14 [.int .i64 y_11.1.X, .int .i64 y_11.1.Y, .int .i64 y_11.1.C] 37, .cell c_16 [.int .i64 y_11.2.X, .int .i64 y_11.2.Y, .int .i64 y_11.2.C] 37, .row Gdiff_Leq t_Gdiff_Leq 37 v_44 y_41] := HeldOK.same ⟨⟨1, rfl⟩, ⟨2, rfl⟩, trivial⟩
      refine ⟨hS_60, ?_⟩
      refine JA_op (i := 5) (by kernel_rfl) rfl rfl (op_append (v := v_44) (u := v_58) (T := t_Gdiff_Leq) (ts := [y_11.2]) 3 rfl Try.pu22 Try.pi37 rfl rfl rfl rfl rfl rfl rfl (source_row (s := (⟨[y_11.2], true⟩ : Sl Gdiff_Leq)) 0 rfl) ?_)
      intro s_61 v_63 ha_62
      have hS_64 : HeldOK s_42 [.cell c_14 [.int .i64 y_11.1.X, .int .i64 y_11.1.Y, .int .i64 y_11.1.C] 37, .cell c_16 [.int .i64 y_11.2.X, .int .i64 y_11.2.Y, .int .i64 y_11.2.C] 37] s_42 [.row Gdiff_Leq t_Gdiff_Leq 37 v_58 (⟨[y_11.2], true⟩ : Sl Gdiff_Leq), .cell c_14 [.int .i64 y_11.1.X, .int .i64 y_11.1.Y, .int .i64 y_11.1.C] 37, .cell c_16 [.int .i64 y_11.2.X, .int .i64 y_11.2.Y, .int .i64 y_11.2.C] 37, .row Gdiff_Leq t_Gdiff_Leq 37 v_63 s_61] := HeldOK.same ⟨⟨1, rfl⟩, ⟨2, rfl⟩, trivial⟩
      refine ⟨hS_64, ?_⟩
      refine JA_op (i := 11) (by kernel_rfl) rfl rfl (op_append (v := v_63) (u := v_56) (T := t_Gdiff_Leq) (ts := s_54.xs) 3 rfl Try.pu22 Try.pi37 rfl rfl rfl rfl rfl rfl rfl (source_frozen h_57) ?_)
      intro s_65 v_67 ha_66
      have hS_68 : HeldOK s_42 [.cell c_14 [.int .i64 y_11.1.X, .int .i64 y_11.1.Y, .int .i64 y_11.1.C] 37, .cell c_16 [.int .i64 y_11.2.X, .int .i64 y_11.2.Y, .int .i64 y_11.2.C] 37] s_42 [.row Gdiff_Leq t_Gdiff_Leq 37 v_58 (⟨[y_11.2], true⟩ : Sl Gdiff_Leq), .cell c_14 [.int .i64 y_11.1.X, .int .i64 y_11.1.Y, .int .i64 y_11.1.C] 37, .cell c_16 [.int .i64 y_11.2.X, .int .i64 y_11.2.Y, .int .i64 y_11.2.C] 37, .row Gdiff_Leq t_Gdiff_Leq 37 v_67 s_65] := HeldOK.same ⟨⟨1, rfl⟩, ⟨2, rfl⟩, trivial⟩
      refine ⟨hS_68, ?_⟩
      refine JA_op (i := 12) (by kernel_rfl) rfl rfl (op_call_lend (f := 16) (fn := Try.f16) (args := [.int .i64 n_1, .agg #[.int .i64 y_11.1.X, .int .i64 y_11.1.Y, .int .i64 y_11.1.C], v_67]) (post := diff_Entails_post) rfl rfl rfl Try.func16 Try.pn16 rfl rfl (fun y w τ hy hle hs hrow => diff_Entails_ref w τ hs n_1 (.agg #[.int .i64 y_11.1.X, .int .i64 y_11.1.Y, .int .i64 y_11.1.C]) y_11.1 (Ty.vmono _ hle (t_Gdiff_Leq_v.2 rfl)) v_67 s_65 (hrow 3 _ _ _ _ _ rfl) y hy) (fun y σ' PV' v hp => by obtain ⟨rfl, rfl⟩ := hp; exact trivial) ?_)
      intro r_69 v_71 s_72 PV_74 hy_70 hp_75
      obtain ⟨rfl, rfl⟩ := hp_75
      have hS_76 : HeldOK s_42 [.cell c_14 [.int .i64 y_11.1.X, .int .i64 y_11.1.Y, .int .i64 y_11.1.C] 37, .cell c_16 [.int .i64 y_11.2.X, .int .i64 y_11.2.Y, .int .i64 y_11.2.C] 37] s_42 [.row Gdiff_Leq t_Gdiff_Leq 37 v_58 (⟨[y_11.2], true⟩ : Sl Gdiff_Leq), .cell c_14 [.int .i64 y_11.1.X, .int .i64 y_11.1.Y, .int .i64 y_11.1.C] 37, .cell c_16 [.int .i64 y_11.2.X, .int .i64 y_11.2.Y, .int .i64 y_11.2.C] 37, .row Gdiff_Leq t_Gdiff_Leq 37 v_67 s_65] := HeldOK.same ⟨⟨1, rfl⟩, ⟨2, rfl⟩, trivial⟩
      refine ⟨hS_76, ?_⟩
      refine JA_take 13 rfl hns (by kernel_rfl) (by kernel_rfl) hS_76 rfl rfl rfl (r_move (v := .tuple #[.bool r_69.1, .int .i64 r_69.2]) rfl) ?_
      refine JA_take 14 rfl hns (by kernel_rfl) (by kernel_rfl) hS_76 rfl rfl rfl (r_extract (v := .bool r_69.1) rfl rfl) ?_
      refine JA_take 15 rfl hns (by kernel_rfl) (by kernel_rfl) hS_76 rfl rfl rfl (r_extract (v := .int .i64 r_69.2) rfl rfl) ?_
      refine JA_take 16 rfl hns (by kernel_rfl) (by kernel_rfl) hS_76 rfl rfl rfl (r_assign (v := .bool r_69.1) rfl) ?_
      refine JA_take 17 rfl hns (by kernel_rfl) (by kernel_rfl) hS_76 rfl rfl rfl (r_assign (v := .int .i64 r_69.2) rfl) ?_
      refine JA_done (by kernel_rfl) ?_
      refine J_then ?_
      refine J_seq ?_
      refine J_seq ?_
      refine J_region ?_
      refine JL_op rfl (op_call (f := 13) (fn := Try.f13) (args := []) (post := lychgatelaw04_wakes_post) rfl rfl rfl Try.func13 Try.pn13 rfl rfl (fun y w hy hs => lychgatelaw04_wakes_ref w _ hs  y hy) ?_)
      intro r_77 v_79 s_80 PV_82 hy_78 hle_81 hp_83
      obtain ⟨rfl, rfl⟩ := hp_83
      refine JL_op rfl (op_read rfl rfl (r_not rfl) ?_)
      refine JL_op rfl (op_read rfl rfl (r_move (v := .bool (!r_77)) rfl) ?_)
      refine J_forkL (e := (!r_77)) 4 [(9, .bool r_18.1), (10, .int .i64 r_18.2), (14, .int .i64 r_46.2), (15, .bool r_69.1), (16, .int .i64 r_69.2), (71, .bool (!r_77 || (r_18.1 != r_46.1)))] (fun hc_84 hk => ?_) (fun hc_84 hk => ?_) (fun b => ?_)
      · refine JL_skip rfl rfl hc_84 rfl rfl ?_
        refine JL_skip rfl rfl hc_84 rfl rfl ?_
        refine JL_skip rfl rfl hc_84 rfl rfl ?_
        refine JL_op rfl (op_read rfl rfl (r_pick_t (v := .bool true) rfl hc_84 rfl) ?_)
        refine J_prune [(9, .bool r_18.1), (10, .int .i64 r_18.2), (14, .int .i64 r_46.2), (15, .bool r_69.1), (16, .int .i64 r_69.2), (71, .bool (!r_77 || (r_18.1 != r_46.1)))] ⟨rfl, rfl, rfl, rfl, rfl, (by show Value.bool _ = Value.bool _; rw [hc_84]; rfl), trivial⟩ hk
      · refine JL_opg rfl rfl hc_84 (op_read rfl rfl (r_move (v := .bool r_18.1) rfl) ?_)
        refine JL_opg rfl rfl hc_84 (op_read rfl rfl (r_move (v := .bool r_46.1) rfl) ?_)
        refine JL_opg rfl rfl hc_84 (op_read rfl rfl (r_bneq Try.pu4 rfl rfl) ?_)
        refine JL_op rfl (op_read rfl rfl (r_pick_f (v := .bool (r_18.1 != r_46.1)) rfl hc_84 rfl) ?_)
        refine J_prune [(9, .bool r_18.1), (10, .int .i64 r_18.2), (14, .int .i64 r_46.2), (15, .bool r_69.1), (16, .int .i64 r_69.2), (71, .bool (!r_77 || (r_18.1 != r_46.1)))] ⟨rfl, rfl, rfl, rfl, rfl, (by show Value.bool _ = Value.bool _; rw [hc_84]; rfl), trivial⟩ hk
      · refine JL_op rfl (op_read rfl rfl (r_move (v := .bool (!r_77 || (r_18.1 != r_46.1))) rfl) ?_)
        refine J_forkL (e := (!r_77 || (r_18.1 != r_46.1))) 4 [(9, .bool r_18.1), (10, .int .i64 r_18.2), (15, .bool r_69.1), (16, .int .i64 r_69.2), (76, .bool ((!r_77 || (r_18.1 != r_46.1)) || decide (r_18.2 ≠ r_46.2)))] (fun hc_85 hk => ?_) (fun hc_85 hk => ?_) (fun b => ?_)
        · refine JL_skip rfl rfl hc_85 rfl rfl ?_
          refine JL_skip rfl rfl hc_85 rfl rfl ?_
          refine JL_skip rfl rfl hc_85 rfl rfl ?_
          refine JL_op rfl (op_read rfl rfl (r_pick_t (v := .bool true) rfl hc_85 rfl) ?_)
          refine J_prune [(9, .bool r_18.1), (10, .int .i64 r_18.2), (15, .bool r_69.1), (16, .int .i64 r_69.2), (76, .bool ((!r_77 || (r_18.1 != r_46.1)) || decide (r_18.2 ≠ r_46.2)))] ⟨rfl, rfl, rfl, rfl, (by show Value.bool _ = Value.bool _; rw [hc_85]; rfl), trivial⟩ hk
        · refine JL_opg rfl rfl hc_85 (op_read rfl rfl (r_move (v := .int .i64 r_18.2) rfl) ?_)
          refine JL_opg rfl rfl hc_85 (op_read rfl rfl (r_move (v := .int .i64 r_46.2) rfl) ?_)
          refine JL_opg rfl rfl hc_85 (op_read rfl rfl (r_neq rfl rfl) ?_)
          refine JL_op rfl (op_read rfl rfl (r_pick_f (v := .bool (decide (r_18.2 ≠ r_46.2))) rfl hc_85 rfl) ?_)
          refine J_prune [(9, .bool r_18.1), (10, .int .i64 r_18.2), (15, .bool r_69.1), (16, .int .i64 r_69.2), (76, .bool ((!r_77 || (r_18.1 != r_46.1)) || decide (r_18.2 ≠ r_46.2)))] ⟨rfl, rfl, rfl, rfl, (by show Value.bool _ = Value.bool _; rw [hc_85]; rfl), trivial⟩ hk
        · refine JL_nil ?_
          refine J_then ?_
          refine J_cond rfl (fun hc_86 => ?_) (fun hc_86 => ?_)
          · refine J_seq ?_
            refine J_region ?_
            refine JL_op rfl (op_read rfl rfl (r_assign (v := .bool false) rfl) ?_)
            refine JL_nil ?_
            refine J_then ?_
            refine J_ret ?_
            refine J_then_ret ?_
            refine J_select (PV' := []) [] (by decide) rfl ?_
            exact J_return1 rfl ⟨rfl, rfl⟩
          · refine J_skip ?_
            refine J_then ?_
            refine J_seq ?_
            refine J_region ?_
            refine JL_op rfl (op_read rfl rfl (r_move (v := .int .i64 r_18.2) rfl) ?_)
            refine JL_op rfl (op_read rfl rfl (r_neq rfl rfl) ?_)
            refine JL_op rfl (op_read rfl rfl (r_move (v := .bool (decide (r_18.2 ≠ 0))) rfl) ?_)
            refine J_forkL (e := (decide (r_18.2 ≠ 0))) 3 [(9, .bool r_18.1), (15, .bool r_69.1), (82, .bool (decide (r_18.2 ≠ 0) || decide (r_69.2 ≠ 0)))] (fun hc_87 hk => ?_) (fun hc_87 hk => ?_) (fun b => ?_)
            · refine JL_skip rfl rfl hc_87 rfl rfl ?_
              refine JL_skip rfl rfl hc_87 rfl rfl ?_
              refine JL_op rfl (op_read rfl rfl (r_pick_t (v := .bool true) rfl hc_87 rfl) ?_)
              refine J_prune [(9, .bool r_18.1), (15, .bool r_69.1), (82, .bool (decide (r_18.2 ≠ 0) || decide (r_69.2 ≠ 0)))] ⟨rfl, rfl, (by show Value.bool _ = Value.bool _; rw [hc_87]; rfl), trivial⟩ hk
            · refine JL_opg rfl rfl hc_87 (op_read rfl rfl (r_move (v := .int .i64 r_69.2) rfl) ?_)
              refine JL_opg rfl rfl hc_87 (op_read rfl rfl (r_neq rfl rfl) ?_)
              refine JL_op rfl (op_read rfl rfl (r_pick_f (v := .bool (decide (r_69.2 ≠ 0))) rfl hc_87 rfl) ?_)
              refine J_prune [(9, .bool r_18.1), (15, .bool r_69.1), (82, .bool (decide (r_18.2 ≠ 0) || decide (r_69.2 ≠ 0)))] ⟨rfl, rfl, (by show Value.bool _ = Value.bool _; rw [hc_87]; rfl), trivial⟩ hk
            · refine JL_op rfl (op_read rfl rfl (r_move (v := .bool (decide (r_18.2 ≠ 0) || decide (r_69.2 ≠ 0))) rfl) ?_)
              refine J_forkL (e := (decide (r_18.2 ≠ 0) || decide (r_69.2 ≠ 0))) 3 [(15, .bool r_69.1), (86, .bool ((decide (r_18.2 ≠ 0) || decide (r_69.2 ≠ 0)) || !r_18.1))] (fun hc_88 hk => ?_) (fun hc_88 hk => ?_) (fun b => ?_)
              · refine JL_skip rfl rfl hc_88 rfl rfl ?_
                refine JL_skip rfl rfl hc_88 rfl rfl ?_
                refine JL_op rfl (op_read rfl rfl (r_pick_t (v := .bool true) rfl hc_88 rfl) ?_)
                refine J_prune [(15, .bool r_69.1), (86, .bool ((decide (r_18.2 ≠ 0) || decide (r_69.2 ≠ 0)) || !r_18.1))] ⟨rfl, (by show Value.bool _ = Value.bool _; rw [hc_88]; rfl), trivial⟩ hk
              · refine JL_opg rfl rfl hc_88 (op_read rfl rfl (r_move (v := .bool r_18.1) rfl) ?_)
                refine JL_opg rfl rfl hc_88 (op_read rfl rfl (r_not rfl) ?_)
                refine JL_op rfl (op_read rfl rfl (r_pick_f (v := .bool (!r_18.1)) rfl hc_88 rfl) ?_)
                refine J_prune [(15, .bool r_69.1), (86, .bool ((decide (r_18.2 ≠ 0) || decide (r_69.2 ≠ 0)) || !r_18.1))] ⟨rfl, (by show Value.bool _ = Value.bool _; rw [hc_88]; rfl), trivial⟩ hk
              · refine JL_op rfl (op_read rfl rfl (r_move (v := .bool ((decide (r_18.2 ≠ 0) || decide (r_69.2 ≠ 0)) || !r_18.1)) rfl) ?_)
                refine J_forkL (e := ((decide (r_18.2 ≠ 0) || decide (r_69.2 ≠ 0)) || !r_18.1)) 2 [(89, .bool (((decide (r_18.2 ≠ 0) || decide (r_69.2 ≠ 0)) || !r_18.1) || r_69.1))] (fun hc_89 hk => ?_) (fun hc_89 hk => ?_) (fun b => ?_)
                · refine JL_skip rfl rfl hc_89 rfl rfl ?_
                  refine JL_op rfl (op_read rfl rfl (r_pick_t (v := .bool true) rfl hc_89 rfl) ?_)
                  refine J_prune [(89, .bool (((decide (r_18.2 ≠ 0) || decide (r_69.2 ≠ 0)) || !r_18.1) || r_69.1))] ⟨(by show Value.bool _ = Value.bool _; rw [hc_89]; rfl), trivial⟩ hk
                · refine JL_opg rfl rfl hc_89 (op_read rfl rfl (r_move (v := .bool r_69.1) rfl) ?_)
                  refine JL_op rfl (op_read rfl rfl (r_pick_f (v := .bool r_69.1) rfl hc_89 rfl) ?_)
                  refine J_prune [(89, .bool (((decide (r_18.2 ≠ 0) || decide (r_69.2 ≠ 0)) || !r_18.1) || r_69.1))] ⟨(by show Value.bool _ = Value.bool _; rw [hc_89]; rfl), trivial⟩ hk
                · refine JL_op rfl (op_read rfl rfl (r_assign (v := .bool (((decide (r_18.2 ≠ 0) || decide (r_69.2 ≠ 0)) || !r_18.1) || r_69.1)) rfl) ?_)
                  refine JL_nil ?_
                  refine J_then ?_
                  refine J_ret ?_
                  refine J_select (PV' := []) [] (by decide) rfl ?_
                  exact J_return1 rfl ⟨rfl, rfl⟩
def lychgatelaw04_DiffTurned_post (r : Bool) (σ : FS) (PV : List Priv) (v : Value) : Prop :=
  v = .bool r ∧ PV = []
set_option maxRecDepth 100000 in
theorem lychgatelaw04_DiffTurned_ref (w : World) (σ : FS) (hs : σ.sub w) (n_1 : Int) (v_3 : Value) (facts_2 : Sl Gdiff_Leq) (h_4 : (tSl t_Gdiff_Leq).vrel σ v_3 facts_2) (r : Bool) (hr : lychgatelaw04_DiffTurned n_1 facts_2 = some r) : Does Try.prog 9 [.int .i64 n_1, v_3] w σ (lychgatelaw04_DiffTurned_post r) := by
  unfold lychgatelaw04_DiffTurned at hr
  refine does_of_J Try.func9 rfl (n := 96) rfl rfl hs hr ?_
  refine J_seq ?_
  refine J_region ?_
  refine JL_op rfl (op_read rfl rfl (r_assign (v := .bool false) rfl) ?_)
  refine JL_nil ?_
  refine J_then ?_
  refine J_seq ?_
  refine J_seq ?_
  refine J_region ?_
  refine JL_op rfl (op_call (f := 13) (fn := Try.f13) (args := []) (post := lychgatelaw04_wakes_post) rfl rfl rfl Try.func13 Try.pn13 rfl rfl (fun y w hy hs => lychgatelaw04_wakes_ref w _ hs  y hy) ?_)
  intro r_5 v_7 s_8 PV_10 hy_6 hle_9 hp_11
  obtain ⟨rfl, rfl⟩ := hp_11
  refine JL_op rfl (op_read rfl rfl (r_not rfl) ?_)
  refine JL_op rfl (op_read rfl rfl (r_move (v := .bool (!r_5)) rfl) ?_)
  refine J_forkL (e := (!r_5)) 4 [(0, .int .i64 n_1), (1, v_3), (20, .bool (!r_5 || decide (384 < facts_2.len)))] (fun hc_12 hk => ?_) (fun hc_12 hk => ?_) (fun b => ?_)
  · refine JL_skip rfl rfl hc_12 rfl rfl ?_
    refine JL_skip rfl rfl hc_12 rfl rfl ?_
    refine JL_skip rfl rfl hc_12 rfl rfl ?_
    refine JL_op rfl (op_read rfl rfl (r_pick_t (v := .bool true) rfl hc_12 rfl) ?_)
    refine J_prune [(0, .int .i64 n_1), (1, v_3), (20, .bool (!r_5 || decide (384 < facts_2.len)))] ⟨rfl, rfl, (by show Value.bool _ = Value.bool _; rw [hc_12]; rfl), trivial⟩ hk
  · refine JL_opg rfl rfl hc_12 (op_read rfl rfl (r_move (v := v_3) rfl) ?_)
    refine JL_opg rfl rfl hc_12 (op_read rfl rfl (r_len_frozen (v := v_3) Try.pu22 rfl (Ty.vmono _ hle_9 h_4)) ?_)
    refine JL_opg rfl rfl hc_12 (op_read rfl rfl (r_gtr rfl rfl) ?_)
    refine JL_op rfl (op_read rfl rfl (r_pick_f (v := .bool (decide (384 < facts_2.len))) rfl hc_12 rfl) ?_)
    refine J_prune [(0, .int .i64 n_1), (1, v_3), (20, .bool (!r_5 || decide (384 < facts_2.len)))] ⟨rfl, rfl, (by show Value.bool _ = Value.bool _; rw [hc_12]; rfl), trivial⟩ hk
  · refine JL_nil ?_
    refine J_then ?_
    refine J_cond rfl (fun hc_13 => ?_) (fun hc_13 => ?_)
    · refine J_seq ?_
      refine J_region ?_
      refine JL_op rfl (op_call (f := 13) (fn := Try.f13) (args := []) (post := lychgatelaw04_wakes_post) rfl rfl rfl Try.func13 Try.pn13 rfl rfl (fun y w hy hs => lychgatelaw04_wakes_ref w _ hs  y hy) ?_)
      intro r_14 v_16 s_17 PV_19 hy_15 hle_18 hp_20
      obtain ⟨rfl, rfl⟩ := hp_20
      refine JL_op rfl (op_read rfl rfl (r_assign (v := .bool r_14) rfl) ?_)
      refine JL_nil ?_
      refine J_then ?_
      refine J_ret ?_
      refine J_then_ret ?_
      exact J_return1 rfl ⟨rfl, rfl⟩
    · refine J_skip ?_
      refine J_then ?_
      refine J_seq ?_
      refine J_region ?_
      refine JL_op rfl (op_read rfl rfl (r_assign (v := .slice none 0 0) rfl) ?_)
      refine JL_nil ?_
      refine J_then ?_
      refine J_seq ?_
      refine J_seq ?_
      refine J_region ?_
      refine JL_op rfl (op_read rfl rfl (r_move (v := v_3) rfl) ?_)
      refine JL_op rfl (op_read rfl rfl (r_len_frozen (v := v_3) Try.pu22 rfl (Ty.vmono _ hle_9 h_4)) ?_)
      refine JL_op rfl (op_read rfl rfl (r_sub rfl rfl) ?_)
      refine JL_op rfl (op_read rfl rfl (r_assign (v := .int .i64 (IntKind.i64.wrap (facts_2.len - 1))) rfl) ?_)
      refine JL_nil ?_
      refine J_then ?_
      refine J_block ?_
      refine J_nil_row t_Gdiff_Leq 37 ?_
      refine J_loop (fun (y : (Sl Gdiff_Leq) × Int) L τ PV => ∃ (w0 : Value), s_8.le τ ∧ L = [(0, .int .i64 n_1), (1, v_3), (5, w0), (6, .int .i64 y.2)] ∧ PV = [.row Gdiff_Leq t_Gdiff_Leq 37 w0 y.1]) (fun (y : (Sl Gdiff_Leq)) e L τ PV => e = .exit 0 ∧ (∃ (w0 : Value), s_8.le τ ∧ L = [(0, .int .i64 n_1), (1, v_3), (5, w0)] ∧ PV = [.row Gdiff_Leq t_Gdiff_Leq 37 w0 y])) _ ?_ ⟨(.slice none 0 0), (FS.le.refl _), rfl, rfl⟩ ?_ ?_
      · exact ⟨rfl, rfl, rfl, rfl, trivial⟩
      · rintro x_22 _ b s_23 _ ⟨v_25, hle_24, rfl, rfl⟩
        unfold lychgatelaw04_DiffTurned_L1
        refine J_seq ?_
        refine J_seq ?_
        refine J_region ?_
        refine JL_op rfl (op_read rfl rfl (r_move (v := .int .i64 x_22.2) rfl) ?_)
        refine JL_op rfl (op_read rfl rfl (r_geq rfl rfl) ?_)
        refine JL_nil ?_
        refine J_then ?_
        refine J_cond rfl (fun hc_27 => ?_) (fun hc_27 => ?_)
        · refine J_skip ?_
          refine J_then ?_
          refine J_seq ?_
          refine J_block ?_
          refine J_region_any [] Try.mixed (by kernel_rfl) fun hns => ?_
          have hS_28 : HeldOK s_23 [] s_23 [.row Gdiff_Leq t_Gdiff_Leq 37 v_25 x_22.1] := HeldOK.same trivial
          refine JA_take 0 rfl hns (by kernel_rfl) (by kernel_rfl) hS_28 rfl rfl rfl (r_move (v := v_25) rfl) ?_
          refine JA_take 1 rfl hns (by kernel_rfl) (by kernel_rfl) hS_28 rfl rfl rfl (r_move (v := v_3) rfl) ?_
          refine JA_take 2 rfl hns (by kernel_rfl) (by kernel_rfl) hS_28 rfl rfl rfl (r_move (v := .int .i64 x_22.2) rfl) ?_
          refine J_bind fun x_29 hx_30 => ?_
          refine JA_take 3 rfl hns (by kernel_rfl) (by kernel_rfl) hS_28 rfl rfl rfl (r_index_frozen (v := v_3) (T := t_Gdiff_Leq) (q := x_29) Try.pu22 Try.pi37 rfl rfl rfl (Ty.vmono _ (FS.le.trans hle_9 hle_24) h_4) hx_30) ?_
          refine JA_takes 4 rfl hns (by kernel_rfl) (by kernel_rfl) hS_28 rfl rfl rfl (l_elem_frozen (v := v_3) (T := t_Gdiff_Leq) (Tf := t_Gdiff_Leq) (q := x_29) (i := x_22.2) (off := 0) Try.pu37 Try.pi37 rfl rfl rfl (Ty.vmono _ (FS.le.trans hle_9 hle_24) h_4) hx_30 (FieldAt.self _) (by decide)) ?_
          intro v_31 h_32
          obtain rfl := t_Gdiff_Leq_v.1 h_32
          refine JA_take 5 rfl hns (by kernel_rfl) (by kernel_rfl) hS_28 rfl rfl rfl (r_move (v := v_3) rfl) ?_
          refine JA_take 6 rfl hns (by kernel_rfl) (by kernel_rfl) hS_28 rfl rfl rfl (r_move (v := .int .i64 x_22.2) rfl) ?_
          refine J_bind fun x_33 hx_34 => ?_
          refine JA_take 7 rfl hns (by kernel_rfl) (by kernel_rfl) hS_28 rfl rfl rfl (r_index_frozen (v := v_3) (T := t_Gdiff_Leq) (q := x_33) Try.pu22 Try.pi37 rfl rfl rfl (Ty.vmono _ (FS.le.trans hle_9 hle_24) h_4) hx_34) ?_
          refine JA_takes 8 rfl hns (by kernel_rfl) (by kernel_rfl) hS_28 rfl rfl rfl (l_elem_frozen (v := v_3) (T := t_Gdiff_Leq) (Tf := t_Gdiff_Leq) (q := x_33) (i := x_22.2) (off := 0) Try.pu37 Try.pi37 rfl rfl rfl (Ty.vmono _ (FS.le.trans hle_9 hle_24) h_4) hx_34 (FieldAt.self _) (by decide)) ?_
          intro v_35 h_36
          obtain rfl := t_Gdiff_Leq_v.1 h_36
          refine JA_op (i := 9) (by kernel_rfl) rfl rfl (op_buildSlice (T := t_Gdiff_Leq) (vs := [.agg #[.int .i64 x_29.X, .int .i64 x_29.Y, .int .i64 x_29.C], .agg #[.int .i64 x_33.X, .int .i64 x_33.Y, .int .i64 x_33.C]]) (xs := [x_29, x_33]) rfl Try.pu22 Try.pi37 rfl rfl rfl rfl rfl rfl ⟨(t_Gdiff_Leq_v.2 rfl), (t_Gdiff_Leq_v.2 rfl), trivial⟩ ?_)
          intro v_37
          have hS_39 : HeldOK s_23 [] s_23 [.row Gdiff_Leq t_Gdiff_Leq 37 v_37 (⟨[x_29, x_33], true⟩ : Sl Gdiff_Leq), .row Gdiff_Leq t_Gdiff_Leq 37 v_25 x_22.1] := HeldOK.same trivial
          refine ⟨hS_39, ?_⟩
          refine JA_op (i := 10) (by kernel_rfl) rfl rfl (op_append (v := v_25) (u := v_37) (T := t_Gdiff_Leq) (ts := [x_29, x_33]) 1 rfl Try.pu22 Try.pi37 rfl rfl rfl rfl rfl rfl rfl (source_row (s := (⟨[x_29, x_33], true⟩ : Sl Gdiff_Leq)) 0 rfl) ?_)
          intro s_40 v_42 ha_41
          have hS_43 : HeldOK s_23 [] s_23 [.row Gdiff_Leq t_Gdiff_Leq 37 v_37 (⟨[x_29, x_33], true⟩ : Sl Gdiff_Leq), .row Gdiff_Leq t_Gdiff_Leq 37 v_42 s_40] := HeldOK.same trivial
          refine ⟨hS_43, ?_⟩
          refine JA_take 11 rfl hns (by kernel_rfl) (by kernel_rfl) hS_43 rfl rfl rfl (r_assign (v := v_42) rfl) ?_
          refine JA_done (by kernel_rfl) ?_
          refine J_in_normal ?_
          refine J_then ?_
          refine J_region ?_
          refine JL_op rfl (op_read rfl rfl (r_move (v := .int .i64 x_22.2) rfl) ?_)
          refine JL_op rfl (op_read rfl rfl (r_sub rfl rfl) ?_)
          refine JL_op rfl (op_read rfl rfl (r_assign (v := .int .i64 (IntKind.i64.wrap (x_22.2 - 1))) rfl) ?_)
          refine JL_nil ?_
          refine J_select (PV' := [.row Gdiff_Leq t_Gdiff_Leq 37 v_42 s_40]) [1] (by decide) rfl ?_
          refine J_next _ ?_ ⟨v_42, hle_24, rfl, rfl⟩
          exact ⟨rfl, rfl, rfl, rfl, trivial⟩
        · refine J_exit ?_
          refine J_then_exit ?_
          refine J_done trivial _ ?_ ⟨rfl, v_25, hle_24, rfl, rfl⟩
          exact ⟨rfl, rfl, rfl, trivial⟩
      · rintro y_44 _ _ b s_45 _ ⟨rfl, ⟨v_47, hle_46, rfl, rfl⟩⟩
        refine J_in_exit ?_
        refine J_then ?_
        refine J_seq ?_
        refine J_region ?_
        refine JL_op rfl (op_read rfl rfl (r_move (v := .int .i64 n_1) rfl) ?_)
        refine JL_op rfl (op_read rfl rfl (r_move (v := v_3) rfl) ?_)
        refine JL_op rfl (op_call (f := 10) (fn := Try.f10) (args := [.int .i64 n_1, v_3]) (post := diff_Solve_post) rfl rfl rfl Try.func10 Try.pn10 rfl rfl (fun y w hy hs => diff_Solve_ref w _ hs n_1 v_3 facts_2 (Ty.vmono _ (FS.le.trans hle_9 hle_46) h_4) y hy) ?_)
        intro r_49 v_51 s_52 PV_54 hy_50 hle_53 hp_55
        obtain ⟨v_56, v_58, rfl, rfl⟩ := hp_55
        refine JL_op rfl (op_read rfl rfl (r_move (v := .tuple #[v_56, v_58, .int .i64 r_49.2.2]) rfl) ?_)
        refine JL_op rfl (op_read rfl rfl (r_extract (v := v_56) rfl rfl) ?_)
        refine JL_op rfl (op_read rfl rfl (r_extract (v := v_58) rfl rfl) ?_)
        refine JL_op rfl (op_read rfl rfl (r_extract (v := .int .i64 r_49.2.2) rfl rfl) ?_)
        refine JL_op rfl (op_read rfl rfl (r_assign (v := v_56) rfl) ?_)
        refine JL_op rfl (op_read rfl rfl (r_assign (v := v_58) rfl) ?_)
        refine JL_op rfl (op_read rfl rfl (r_assign (v := .int .i64 r_49.2.2) rfl) ?_)
        refine JL_nil ?_
        refine J_then ?_
        refine J_seq ?_
        refine J_region ?_
        refine JL_op rfl (op_read rfl rfl (r_move (v := .int .i64 n_1) rfl) ?_)
        refine JL_op rfl (op_read rfl rfl (r_move (v := v_47) rfl) ?_)
        refine JL_op rfl (op_call_lend (f := 10) (fn := Try.f10) (args := [.int .i64 n_1, v_47]) (post := diff_Solve_post) rfl rfl rfl Try.func10 Try.pn10 rfl rfl (fun y w τ hy hle hs hrow => diff_Solve_ref w τ hs n_1 v_47 y_44 (hrow 2 _ _ _ _ _ rfl) y hy) (fun y σ' PV' v hp => by obtain ⟨_, _, rfl, rfl⟩ := hp; exact ⟨⟨inferInstance⟩, ⟨⟨inferInstance⟩, trivial⟩⟩) ?_)
        intro r_60 v_62 s_63 PV_65 hy_61 hp_66
        obtain ⟨v_67, v_69, rfl, rfl⟩ := hp_66
        refine JL_op rfl (op_read rfl rfl (r_move (v := .tuple #[v_67, v_69, .int .i64 r_60.2.2]) rfl) ?_)
        refine JL_op rfl (op_read rfl rfl (r_extract (v := v_67) rfl rfl) ?_)
        refine JL_op rfl (op_read rfl rfl (r_extract (v := v_69) rfl rfl) ?_)
        refine JL_op rfl (op_read rfl rfl (r_extract (v := .int .i64 r_60.2.2) rfl rfl) ?_)
        refine JL_op rfl (op_read rfl rfl (r_assign (v := v_67) rfl) ?_)
        refine JL_op rfl (op_read rfl rfl (r_assign (v := v_69) rfl) ?_)
        refine JL_op rfl (op_read rfl rfl (r_assign (v := .int .i64 r_60.2.2) rfl) ?_)
        refine JL_nil ?_
        refine J_then ?_
        refine J_seq ?_
        refine J_seq ?_
        refine J_region ?_
        refine JL_op rfl (op_read rfl rfl (r_move (v := .int .i64 r_49.2.2) rfl) ?_)
        refine JL_op rfl (op_read rfl rfl (r_move (v := .int .i64 r_60.2.2) rfl) ?_)
        refine JL_op rfl (op_read rfl rfl (r_neq rfl rfl) ?_)
        refine JL_op rfl (op_read rfl rfl (r_move (v := .bool (decide (r_49.2.2 ≠ r_60.2.2))) rfl) ?_)
        refine J_forkL (e := (decide (r_49.2.2 ≠ r_60.2.2))) 6 [(5, v_47), (7, v_56), (8, v_58), (10, v_67), (11, v_69), (63, .bool (decide (r_49.2.2 ≠ r_60.2.2) || decide (r_49.1.len ≠ r_60.1.len)))] (fun hc_71 hk => ?_) (fun hc_71 hk => ?_) (fun b => ?_)
        · refine JL_skip rfl rfl hc_71 rfl rfl ?_
          refine JL_skip rfl rfl hc_71 rfl rfl ?_
          refine JL_skip rfl rfl hc_71 rfl rfl ?_
          refine JL_skip rfl rfl hc_71 rfl rfl ?_
          refine JL_skip rfl rfl hc_71 rfl rfl ?_
          refine JL_op rfl (op_read rfl rfl (r_pick_t (v := .bool true) rfl hc_71 rfl) ?_)
          refine J_prune [(5, v_47), (7, v_56), (8, v_58), (10, v_67), (11, v_69), (63, .bool (decide (r_49.2.2 ≠ r_60.2.2) || decide (r_49.1.len ≠ r_60.1.len)))] ⟨rfl, rfl, rfl, rfl, rfl, (by show Value.bool _ = Value.bool _; rw [hc_71]; rfl), trivial⟩ hk
        · refine JL_opg rfl rfl hc_71 (op_read rfl rfl (r_move (v := v_56) rfl) ?_)
          refine JL_opg rfl rfl hc_71 (op_read rfl rfl (r_len_row (v := v_56) 2 Try.pu23 rfl rfl) ?_)
          refine JL_opg rfl rfl hc_71 (op_read rfl rfl (r_move (v := v_67) rfl) ?_)
          refine JL_opg rfl rfl hc_71 (op_read rfl rfl (r_len_row (v := v_67) 0 Try.pu23 rfl rfl) ?_)
          refine JL_opg rfl rfl hc_71 (op_read rfl rfl (r_neq rfl rfl) ?_)
          refine JL_op rfl (op_read rfl rfl (r_pick_f (v := .bool (decide (r_49.1.len ≠ r_60.1.len))) rfl hc_71 rfl) ?_)
          refine J_prune [(5, v_47), (7, v_56), (8, v_58), (10, v_67), (11, v_69), (63, .bool (decide (r_49.2.2 ≠ r_60.2.2) || decide (r_49.1.len ≠ r_60.1.len)))] ⟨rfl, rfl, rfl, rfl, rfl, (by show Value.bool _ = Value.bool _; rw [hc_71]; rfl), trivial⟩ hk
        · refine JL_op rfl (op_read rfl rfl (r_move (v := .bool (decide (r_49.2.2 ≠ r_60.2.2) || decide (r_49.1.len ≠ r_60.1.len))) rfl) ?_)
          refine J_forkL (e := (decide (r_49.2.2 ≠ r_60.2.2) || decide (r_49.1.len ≠ r_60.1.len))) 8 [(5, v_47), (7, v_56), (10, v_67), (11, v_69), (72, .bool ((decide (r_49.2.2 ≠ r_60.2.2) || decide (r_49.1.len ≠ r_60.1.len)) || ((decide (0 < r_49.2.1.len)) != (decide (0 < r_60.2.1.len)))))] (fun hc_72 hk => ?_) (fun hc_72 hk => ?_) (fun b => ?_)
          · refine JL_skip rfl rfl hc_72 rfl rfl ?_
            refine JL_skip rfl rfl hc_72 rfl rfl ?_
            refine JL_skip rfl rfl hc_72 rfl rfl ?_
            refine JL_skip rfl rfl hc_72 rfl rfl ?_
            refine JL_skip rfl rfl hc_72 rfl rfl ?_
            refine JL_skip rfl rfl hc_72 rfl rfl ?_
            refine JL_skip rfl rfl hc_72 rfl rfl ?_
            refine JL_op rfl (op_read rfl rfl (r_pick_t (v := .bool true) rfl hc_72 rfl) ?_)
            refine J_prune [(5, v_47), (7, v_56), (10, v_67), (11, v_69), (72, .bool ((decide (r_49.2.2 ≠ r_60.2.2) || decide (r_49.1.len ≠ r_60.1.len)) || ((decide (0 < r_49.2.1.len)) != (decide (0 < r_60.2.1.len)))))] ⟨rfl, rfl, rfl, rfl, (by show Value.bool _ = Value.bool _; rw [hc_72]; rfl), trivial⟩ hk
          · refine JL_opg rfl rfl hc_72 (op_read rfl rfl (r_move (v := v_58) rfl) ?_)
            refine JL_opg rfl rfl hc_72 (op_read rfl rfl (r_len_row (v := v_58) 3 Try.pu24 rfl rfl) ?_)
            refine JL_opg rfl rfl hc_72 (op_read rfl rfl (r_gtr rfl rfl) ?_)
            refine JL_opg rfl rfl hc_72 (op_read rfl rfl (r_move (v := v_69) rfl) ?_)
            refine JL_opg rfl rfl hc_72 (op_read rfl rfl (r_len_row (v := v_69) 1 Try.pu24 rfl rfl) ?_)
            refine JL_opg rfl rfl hc_72 (op_read rfl rfl (r_gtr rfl rfl) ?_)
            refine JL_opg rfl rfl hc_72 (op_read rfl rfl (r_bneq Try.pu4 rfl rfl) ?_)
            refine JL_op rfl (op_read rfl rfl (r_pick_f (v := .bool ((decide (0 < r_49.2.1.len)) != (decide (0 < r_60.2.1.len)))) rfl hc_72 rfl) ?_)
            refine J_prune [(5, v_47), (7, v_56), (10, v_67), (11, v_69), (72, .bool ((decide (r_49.2.2 ≠ r_60.2.2) || decide (r_49.1.len ≠ r_60.1.len)) || ((decide (0 < r_49.2.1.len)) != (decide (0 < r_60.2.1.len)))))] ⟨rfl, rfl, rfl, rfl, (by show Value.bool _ = Value.bool _; rw [hc_72]; rfl), trivial⟩ hk
          · refine JL_nil ?_
            refine J_then ?_
            refine J_cond rfl (fun hc_73 => ?_) (fun hc_73 => ?_)
            · refine J_seq ?_
              refine J_region ?_
              refine JL_op rfl (op_read rfl rfl (r_assign (v := .bool false) rfl) ?_)
              refine JL_nil ?_
              refine J_then ?_
              refine J_ret ?_
              refine J_then_ret ?_
              refine J_select (PV' := []) [] (by decide) rfl ?_
              exact J_return1 rfl ⟨rfl, rfl⟩
            · refine J_skip ?_
              refine J_then ?_
              refine J_seq ?_
              refine J_seq ?_
              refine J_region ?_
              refine JL_op rfl (op_read rfl rfl (r_move (v := v_56) rfl) ?_)
              refine JL_op rfl (op_read rfl rfl (r_len_row (v := v_56) 2 Try.pu23 rfl rfl) ?_)
              refine JL_op rfl (op_read rfl rfl (r_move (v := .int .i64 0) rfl) ?_)
              refine JL_nil ?_
              refine J_then ?_
              refine J_block ?_
              refine J_select (PV' := [.row Int (tInt .i64) 2 v_67 r_60.1, .row Int (tInt .i64) 3 v_69 r_60.2.1, .row Int (tInt .i64) 2 v_56 r_49.1, .row Gdiff_Leq t_Gdiff_Leq 37 v_47 y_44]) [0, 1, 2, 4] (by decide) rfl ?_
              refine J_loop (fun (y : Int) L τ PV => s_52.le τ ∧ L = [(5, v_47), (7, v_56), (10, v_67), (11, v_69), (74, .int .i64 r_49.1.len), (75, .int .i64 y)] ∧ PV = [.row Int (tInt .i64) 2 v_67 r_60.1, .row Int (tInt .i64) 3 v_69 r_60.2.1, .row Int (tInt .i64) 2 v_56 r_49.1, .row Gdiff_Leq t_Gdiff_Leq 37 v_47 y_44]) (fun (y : W2 Unit Unit) e L τ PV => match y, e with | .a y, e => e = .exit 2 ∧ (s_52.le τ ∧ L = [(5, v_47), (11, v_69)] ∧ PV = [.row Int (tInt .i64) 3 v_69 r_60.2.1, .row Gdiff_Leq t_Gdiff_Leq 37 v_47 y_44]) | .b y, e => e = .ret ∧ (s_52.le τ ∧ L = [(4, .bool false)] ∧ PV = [])) _ ?_ ⟨(FS.le.refl _), rfl, rfl⟩ ?_ ?_
              · exact ⟨rfl, rfl, rfl, rfl, rfl, rfl, trivial⟩
              · rintro x_74 _ b s_75 _ ⟨hle_76, rfl, rfl⟩
                unfold lychgatelaw04_DiffTurned_L2
                refine J_seq ?_
                refine J_region ?_
                refine JL_op rfl (op_read rfl rfl (r_lss rfl rfl) ?_)
                refine JL_nil ?_
                refine J_then ?_
                refine J_seq ?_
                refine J_cond rfl (fun hc_77 => ?_) (fun hc_77 => ?_)
                · refine J_skip ?_
                  refine J_then ?_
                  refine J_seq ?_
                  refine J_block ?_
                  refine J_seq ?_
                  refine J_region ?_
                  refine JL_op rfl (op_read rfl rfl (r_move (v := .int .i64 x_74) rfl) ?_)
                  refine JL_op rfl (op_read rfl rfl (r_assign (v := .int .i64 x_74) rfl) ?_)
                  refine JL_nil ?_
                  refine J_then ?_
                  refine J_seq ?_
                  refine J_region_any [.row Int (tInt .i64) 2 v_67 r_60.1, .row Int (tInt .i64) 3 v_69 r_60.2.1, .row Int (tInt .i64) 2 v_56 r_49.1, .row Gdiff_Leq t_Gdiff_Leq 37 v_47 y_44] Try.mixed (by kernel_rfl) fun hns => ?_
                  have hS_78 : HeldOK s_75 [.row Int (tInt .i64) 2 v_67 r_60.1, .row Int (tInt .i64) 3 v_69 r_60.2.1, .row Int (tInt .i64) 2 v_56 r_49.1, .row Gdiff_Leq t_Gdiff_Leq 37 v_47 y_44] s_75 [.row Int (tInt .i64) 2 v_67 r_60.1, .row Int (tInt .i64) 3 v_69 r_60.2.1, .row Int (tInt .i64) 2 v_56 r_49.1, .row Gdiff_Leq t_Gdiff_Leq 37 v_47 y_44] := HeldOK.same ⟨⟨0, rfl⟩, ⟨1, rfl⟩, ⟨2, rfl⟩, ⟨3, rfl⟩, trivial⟩
                  refine JA_take 0 rfl hns (by kernel_rfl) (by kernel_rfl) hS_78 rfl rfl rfl (r_move (v := v_56) rfl) ?_
                  refine JA_take 1 rfl hns (by kernel_rfl) (by kernel_rfl) hS_78 rfl rfl rfl (r_move (v := .int .i64 x_74) rfl) ?_
                  refine J_bind fun x_79 hx_80 => ?_
                  refine JA_take 2 rfl hns (by kernel_rfl) (by kernel_rfl) hS_78 rfl rfl rfl (r_index_row (v := v_56) (T := (tInt .i64)) (q := x_79) 2 Try.pu23 Try.pi2 rfl rfl rfl rfl hx_80) ?_
                  refine JA_takes 3 rfl hns (by kernel_rfl) (by kernel_rfl) hS_78 rfl rfl rfl (l_elem_row (v := v_56) (T := (tInt .i64)) (Tf := (tInt .i64)) (q := x_79) (i := x_74) (off := 0) 2 Try.pu2 Try.pi2 rfl rfl rfl rfl hx_80 (FieldAt.self _) (by decide)) ?_
                  intro v_81 h_82
                  obtain rfl := tInt_v.1 h_82
                  refine JA_take 4 rfl hns (by kernel_rfl) (by kernel_rfl) hS_78 rfl rfl rfl (r_move (v := v_67) rfl) ?_
                  refine JA_take 5 rfl hns (by kernel_rfl) (by kernel_rfl) hS_78 rfl rfl rfl (r_move (v := .int .i64 x_74) rfl) ?_
                  refine J_bind fun x_83 hx_84 => ?_
                  refine JA_take 6 rfl hns (by kernel_rfl) (by kernel_rfl) hS_78 rfl rfl rfl (r_index_row (v := v_67) (T := (tInt .i64)) (q := x_83) 0 Try.pu23 Try.pi2 rfl rfl rfl rfl hx_84) ?_
                  refine JA_takes 7 rfl hns (by kernel_rfl) (by kernel_rfl) hS_78 rfl rfl rfl (l_elem_row (v := v_67) (T := (tInt .i64)) (Tf := (tInt .i64)) (q := x_83) (i := x_74) (off := 0) 0 Try.pu2 Try.pi2 rfl rfl rfl rfl hx_84 (FieldAt.self _) (by decide)) ?_
                  intro v_85 h_86
                  obtain rfl := tInt_v.1 h_86
                  refine JA_take 8 rfl hns (by kernel_rfl) (by kernel_rfl) hS_78 rfl rfl rfl (r_neq rfl rfl) ?_
                  refine JA_done (by kernel_rfl) ?_
                  refine J_then ?_
                  refine J_cond rfl (fun hc_87 => ?_) (fun hc_87 => ?_)
                  · refine J_seq ?_
                    refine J_region ?_
                    refine JL_op rfl (op_read rfl rfl (r_assign (v := .bool false) rfl) ?_)
                    refine JL_nil ?_
                    refine J_then ?_
                    refine J_ret ?_
                    refine J_in_ret ?_
                    refine J_then_ret ?_
                    refine J_select (PV' := []) [] (by decide) rfl ?_
                    refine J_done trivial _ ?_ ⟨rfl, hle_76, rfl, rfl⟩
                    exact ⟨rfl, trivial⟩
                  · refine J_skip ?_
                    refine J_in_normal ?_
                    refine J_then ?_
                    refine J_region ?_
                    refine JL_op rfl (op_read rfl rfl (r_add rfl rfl) ?_)
                    refine JL_op rfl (op_read rfl rfl (r_move (v := .int .i64 (IntKind.i64.wrap (x_74 + 1))) rfl) ?_)
                    refine JL_nil ?_
                    refine J_next _ ?_ ⟨hle_76, rfl, rfl⟩
                    exact ⟨rfl, rfl, rfl, rfl, rfl, rfl, trivial⟩
                · refine J_exit ?_
                  refine J_then_exit ?_
                  refine J_select (PV' := [.row Int (tInt .i64) 3 v_69 r_60.2.1, .row Gdiff_Leq t_Gdiff_Leq 37 v_47 y_44]) [1, 3] (by decide) rfl ?_
                  refine J_done trivial _ ?_ ⟨rfl, hle_76, rfl, rfl⟩
                  exact ⟨rfl, rfl, trivial⟩
              · rintro (y_89 | y_103) e L b τ PV ht
                · obtain ⟨rfl, ht⟩ := ht
                  revert ht; revert PV; revert τ; revert b; revert L
                  rintro _ b s_90 _ ⟨hle_91, rfl, rfl⟩
                  refine J_in_exit ?_
                  refine J_then ?_
                  refine J_seq ?_
                  refine J_region ?_
                  refine JL_op rfl (op_read rfl rfl (r_move (v := v_69) rfl) ?_)
                  refine JL_op rfl (op_read rfl rfl (r_len_row (v := v_69) 0 Try.pu24 rfl rfl) ?_)
                  refine JL_op rfl (op_read rfl rfl (r_eql rfl rfl) ?_)
                  refine JL_op rfl (op_read rfl rfl (r_move (v := .bool (decide (r_60.2.1.len = 0))) rfl) ?_)
                  refine J_forkLB (e := (decide (r_60.2.1.len = 0))) 4 (fun (b_93 : Bool) L τ PV => s_90.le τ ∧ L = [(95, .bool b_93)] ∧ PV = [.row Int (tInt .i64) 3 v_69 r_60.2.1, .row Gdiff_Leq t_Gdiff_Leq 37 v_47 y_44]) (fun hc_92 hk => ?_) (fun hc_92 hk => ?_) ?_
                  · refine JL_skip rfl rfl hc_92 rfl rfl ?_
                    refine JL_skip rfl rfl hc_92 rfl rfl ?_
                    refine JL_skip rfl rfl hc_92 rfl rfl ?_
                    refine JL_op rfl (op_read rfl rfl (r_pick_t (v := .bool true) rfl hc_92 rfl) ?_)
                    refine J_prune _ ?_ fun b => hk true _ b _ _ ⟨(FS.le.refl _), rfl, rfl⟩
                    exact ⟨rfl, trivial⟩
                  · refine JL_opg rfl rfl hc_92 (op_read rfl rfl (r_move (v := v_47) rfl) ?_)
                    refine JL_opg rfl rfl hc_92 (op_read rfl rfl (r_move (v := v_69) rfl) ?_)
                    refine J_assoc ?_
                    refine JL_opg rfl rfl hc_92 (op_call_lend (f := 15) (fn := Try.f15) (args := [v_47, v_69]) (post := lychgatelaw04_circle_post) rfl rfl rfl Try.func15 Try.pn15 rfl rfl (fun y w τ hy hle hs hrow => lychgatelaw04_circle_ref w τ hs v_47 y_44 (hrow 1 _ _ _ _ _ rfl) v_69 r_60.2.1 (hrow 0 _ _ _ _ _ rfl) y hy) (fun y σ' PV' v hp => by obtain ⟨rfl, rfl⟩ := hp; exact trivial) ?_)
                    intro r_94 v_96 s_97 PV_99 hy_95 hp_100
                    obtain ⟨rfl, rfl⟩ := hp_100
                    refine JL_op rfl (op_read rfl rfl (r_pick_f (v := .bool r_94) rfl hc_92 rfl) ?_)
                    refine J_prune _ ?_ fun b => hk r_94 _ b _ _ ⟨(FS.le.refl _), rfl, rfl⟩
                    exact ⟨rfl, trivial⟩
                  · rintro b_93 _ b s_101 _ ⟨hle_102, rfl, rfl⟩
                    refine JL_op rfl (op_read rfl rfl (r_assign (v := .bool b_93) rfl) ?_)
                    refine JL_nil ?_
                    refine J_then ?_
                    refine J_ret ?_
                    refine J_select (PV' := []) [] (by decide) rfl ?_
                    exact J_return1 rfl ⟨rfl, rfl⟩
                · obtain ⟨rfl, ht⟩ := ht
                  revert ht; revert PV; revert τ; revert b; revert L
                  rintro _ b s_104 _ ⟨hle_105, rfl, rfl⟩
                  refine J_in_ret ?_
                  refine J_then_ret ?_
                  exact J_return1 rfl ⟨rfl, rfl⟩
end Go.Px
