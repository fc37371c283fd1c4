/- The calls do what the models say, part 11. -/
import Derived.Test.YtdgfgjdoahoadaaMd
import Derived.Test.YtdgfgjdoahoadaaRf1
import Derived.Test.YtdgfgjdoahoadaaRf2
import Derived.Test.YtdgfgjdoahoadaaRf3
namespace Go.Px
open Go.Proofs
set_option linter.unusedVariables false
def lychgatelaw13_sym_post (σ0 : FS) (a_1 : Addr) (v_2 : Value) (x_3 : Sl Gheap_Chunk) (Vars_4 : Int) (v_5 : Value) (x_6 : Sl Gdiff_Leq) (v_7 : Value) (s_8 : Gheap_Sym) (r : Gheap_Sym) (σ : FS) (PV : List Priv) (v : Value) : Prop :=
  σ0 = σ ∧ .agg #[.int .i64 r.Kind, .int .i64 r.Var, .int .i64 r.K, .int .i64 r.Block] = v ∧ PV = [.cell a_1 [v_2, .int .i64 Vars_4, v_5], .row o_Gheap_Chunk 49 v_2 x_3, .row (t_Gdiff_Leq).o 39 v_5 x_6]
set_option maxRecDepth 100000 in
theorem lychgatelaw13_sym_ref (s : Start) (σ : FS) (a_1 : Addr) (v_2 : Value) (x_3 : Sl Gheap_Chunk) (Vars_4 : Int) (v_5 : Value) (x_6 : Sl Gdiff_Leq) (v_7 : Value) (s_8 : Gheap_Sym) (h_9 : t_Gheap_Sym.vrel σ v_7 s_8) (hs : Pre s σ [.cell a_1 [v_2, .int .i64 Vars_4, v_5], .row o_Gheap_Chunk 49 v_2 x_3, .row (t_Gdiff_Leq).o 39 v_5 x_6]) (r : Gheap_Sym) (hr : lychgatelaw13_sym x_3 Vars_4 x_6 s_8 = some r) : Does Try.prog 10 [.pointer (some (Addr.add a_1 0)), v_7] s σ (lychgatelaw13_sym_post σ a_1 v_2 x_3 Vars_4 v_5 x_6 v_7 s_8 r) := by
  unfold lychgatelaw13_sym at hr
  obtain rfl := t_Gheap_Sym_v.1 h_9
  refine does_of_J Try.func10 rfl (n := 38) rfl rfl hs hr ?_
  refine J_seq ?_
  refine J_region ?_
  refine JL_op rfl (op_box (cs := [.int .i64 s_8.Kind, .int .i64 s_8.Var, .int .i64 s_8.K, .int .i64 s_8.Block]) rfl rfl ?_)
  intro c_10
  refine JL_op rfl (op_alloc (cs := [.int .i64 0, .int .i64 0, .int .i64 0, .int .i64 0]) rfl Try.pi33 rfl rfl ?_)
  intro c_12
  refine JL_nil ?_
  refine J_then ?_
  refine J_seq ?_
  refine J_seq ?_
  refine J_region ?_
  refine JL_op rfl (op_read rfl rfl (r_fieldAddr (r := Addr.add c_10 0) Try.pu33 (f := Try.pf33.getD 0 default) rfl Try.pi31 (by decide) rfl (Addr.add_add _ _ _)) ?_)
  refine JL_op rfl (op_read rfl rfl (r_load_priv (a := c_10) (off := 0) (cs' := [.int .i64 s_8.Kind]) (v := .int .i64 s_8.Kind) 1 Try.pu31 Try.pi31 rfl rfl rfl rfl (by decide) rfl) ?_)
  refine JL_nil ?_
  refine J_then ?_
  refine J_cut (fun (y : W2 Unit Gheap_Sym) e L τ PV => match y, e with | .a y, e => e = .normal ∧ (σ = τ ∧ L = [(4, .pointer (some (Addr.add c_12 0)))] ∧ PV = [.cell c_12 [.int .i64 0, .int .i64 0, .int .i64 0, .int .i64 0], .cell a_1 [v_2, .int .i64 Vars_4, v_5], .row o_Gheap_Chunk 49 v_2 x_3, .row (t_Gdiff_Leq).o 39 v_5 x_6]) | .b y, e => e = .ret ∧ (σ = τ ∧ L = [(4, .pointer (some (Addr.add c_12 0)))] ∧ PV = [.cell c_12 [.int .i64 y.Kind, .int .i64 y.Var, .int .i64 y.K, .int .i64 y.Block], .cell a_1 [v_2, .int .i64 Vars_4, v_5], .row o_Gheap_Chunk 49 v_2 x_3, .row (t_Gdiff_Leq).o 39 v_5 x_6])) ?_ ?_
  · refine J_block ?_
    refine J_seq ?_
    refine J_region ?_
    refine JL_op rfl (op_read rfl rfl (r_eql rfl rfl) ?_)
    refine JL_op rfl (op_read rfl rfl (r_assign (v := .bool (decide (s_8.Kind = 1))) rfl) ?_)
    refine JL_nil ?_
    refine J_then ?_
    refine J_cut (fun (y : W2 Unit Gheap_Sym) e L τ PV => match y, e with | .a y, e => e = .normal ∧ (σ = τ ∧ L = [(4, .pointer (some (Addr.add c_12 0)))] ∧ PV = [.cell c_12 [.int .i64 0, .int .i64 0, .int .i64 0, .int .i64 0], .cell a_1 [v_2, .int .i64 Vars_4, v_5], .row o_Gheap_Chunk 49 v_2 x_3, .row (t_Gdiff_Leq).o 39 v_5 x_6]) | .b y, e => e = .ret ∧ (σ = τ ∧ L = [(4, .pointer (some (Addr.add c_12 0)))] ∧ PV = [.cell c_12 [.int .i64 y.Kind, .int .i64 y.Var, .int .i64 y.K, .int .i64 y.Block], .cell a_1 [v_2, .int .i64 Vars_4, v_5], .row o_Gheap_Chunk 49 v_2 x_3, .row (t_Gdiff_Leq).o 39 v_5 x_6])) ?_ ?_
    · refine J_cond rfl (fun hc_14 => ?_) (fun hc_14 => ?_)
      · refine J_seq ?_
        refine J_region_any 12 [.cell c_12 [.int .i64 0, .int .i64 0, .int .i64 0, .int .i64 0], .cell c_10 [.int .i64 s_8.Kind, .int .i64 s_8.Var, .int .i64 s_8.K, .int .i64 s_8.Block], .cell a_1 [v_2, .int .i64 Vars_4, v_5], .row (t_Gdiff_Leq).o 39 v_5 x_6] Try.mixed (by kernel_rfl) fun hns => ?_
        refine JA_takep 0 rfl hns (by kernel_rfl) (by kernel_rfl) rfl (.inr (by exact HeldOK.same [0, 1, 2, 4] (by decide) rfl)) rfl rfl rfl (r_fieldAddr (r := Addr.add c_10 1) Try.pu33 (f := Try.pf33.getD 1 default) rfl Try.pi3 (by decide) rfl (Addr.add_add _ _ _)) ?_
        refine JA_take 1 rfl hns (by kernel_rfl) (by kernel_rfl) (by kernel_rfl) rfl (by kernel_rfl) (by exact HeldOK.same [0, 1, 2, 4] (by decide) rfl) rfl rfl rfl (r_load_priv (a := c_10) (off := 1) (cs' := [.int .i64 s_8.Var]) (v := .int .i64 s_8.Var) 1 Try.pu3 Try.pi3 rfl rfl rfl rfl (by decide) rfl) ?_
        refine JA_takep 2 rfl hns (by kernel_rfl) (by kernel_rfl) rfl (.inr (by exact HeldOK.same [0, 1, 2, 4] (by decide) rfl)) rfl rfl rfl (r_max rfl rfl) ?_
        refine JA_takep 3 rfl hns (by kernel_rfl) (by kernel_rfl) rfl (.inr (by exact HeldOK.same [0, 1, 2, 4] (by decide) rfl)) rfl rfl rfl (r_move (v := .pointer (some (Addr.add a_1 0))) rfl) ?_
        refine JA_takep 4 rfl hns (by kernel_rfl) (by kernel_rfl) rfl (.inr (by exact HeldOK.same [0, 1, 2, 4] (by decide) rfl)) rfl rfl rfl (r_nilCheck (a := (Addr.add a_1 0)) rfl) ?_
        refine JA_takep 5 rfl hns (by kernel_rfl) (by kernel_rfl) rfl (.inr (by exact HeldOK.same [0, 1, 2, 4] (by decide) rfl)) rfl rfl rfl (r_fieldAddr (r := Addr.add a_1 1) Try.pu28 (f := Try.pf28.getD 1 default) rfl Try.pi3 (by decide) rfl (Addr.add_add _ _ _)) ?_
        refine JA_take 6 rfl hns (by kernel_rfl) (by kernel_rfl) (by kernel_rfl) rfl (by kernel_rfl) (by exact HeldOK.same [0, 1, 2, 4] (by decide) rfl) rfl rfl rfl (r_load_priv (a := a_1) (off := 1) (cs' := [.int .i64 Vars_4]) (v := .int .i64 Vars_4) 2 Try.pu3 Try.pi3 rfl rfl rfl rfl (by decide) rfl) ?_
        refine J_bind fun q_16 hq_17 => ?_
        refine JA_takep 7 rfl hns (by kernel_rfl) (by kernel_rfl) rfl (.inr (by exact HeldOK.same [0, 1, 2, 4] (by decide) rfl)) rfl rfl rfl (r_rem rfl rfl hq_17) ?_
        refine JA_takep 8 rfl hns (by kernel_rfl) (by kernel_rfl) rfl (.inr (by exact HeldOK.same [0, 1, 2, 4] (by decide) rfl)) rfl rfl rfl (r_fieldAddr (r := Addr.add c_10 2) Try.pu33 (f := Try.pf33.getD 2 default) rfl Try.pi2 (by decide) rfl (Addr.add_add _ _ _)) ?_
        refine JA_take 9 rfl hns (by kernel_rfl) (by kernel_rfl) (by kernel_rfl) rfl (by kernel_rfl) (by exact HeldOK.same [0, 1, 2, 4] (by decide) rfl) rfl rfl rfl (r_load_priv (a := c_10) (off := 2) (cs' := [.int .i64 s_8.K]) (v := .int .i64 s_8.K) 1 Try.pu2 Try.pi2 rfl rfl rfl rfl (by decide) rfl) ?_
        refine JA_op (i := 10) (by kernel_rfl) rfl rfl (op_callN (f := 9) (fn := Try.f9) (args := [.int .i64 s_8.K]) (post := lychgatelaw13_cut_post σ s_8.K) 0 rfl rfl rfl Try.func9 Try.pn9 rfl rfl (fun y st hy hpre => lychgatelaw13_cut_ref st σ s_8.K hpre y hy) ?_)
        intro r_18 v_20 s_23 PV_21 hr_19 hle_24 hp_22
        obtain ⟨rfl, rfl, rfl⟩ := hp_22
        refine ⟨.inr (by exact HeldOK.same [0, 1, 2, 4] (by decide) rfl), ?_⟩
        refine JA_takep 11 rfl hns (by kernel_rfl) (by kernel_rfl) rfl (.inr (by exact HeldOK.same [0, 1, 2, 4] (by decide) rfl)) rfl rfl rfl (r_build (cs := [.int .i64 1, .int .i64 q_16, .int .i64 (if (-1099511627776) < (if 1099511627776 < s_8.K then 1099511627776 else s_8.K) then (if 1099511627776 < s_8.K then 1099511627776 else s_8.K) else (-1099511627776)), .int .i64 0]) (vs := [(0, .int .i64 1), (1, .int .i64 q_16), (2, .int .i64 (if (-1099511627776) < (if 1099511627776 < s_8.K then 1099511627776 else s_8.K) then (if 1099511627776 < s_8.K then 1099511627776 else s_8.K) else (-1099511627776)))]) (pcs := [(0, [.int .i64 1]), (1, [.int .i64 q_16]), (2, [.int .i64 (if (-1099511627776) < (if 1099511627776 < s_8.K then 1099511627776 else s_8.K) then (if 1099511627776 < s_8.K then 1099511627776 else s_8.K) else (-1099511627776))])]) (pls := [(0, 1), (1, 1), (2, 1), (3, 1)]) Try.pu33 Try.pi33 rfl (by kernel_rfl) rfl ⟨rfl, rfl, ⟨rfl, rfl, ⟨rfl, rfl, trivial⟩⟩⟩ rfl) ?_
        refine JA_op (i := 12) (by kernel_rfl) rfl rfl (op_store_priv (a := c_12) (off := 0) (vs := [.int .i64 1, .int .i64 q_16, .int .i64 (if (-1099511627776) < (if 1099511627776 < s_8.K then 1099511627776 else s_8.K) then (if 1099511627776 < s_8.K then 1099511627776 else s_8.K) else (-1099511627776)), .int .i64 0]) (cs' := [.int .i64 1, .int .i64 q_16, .int .i64 (if (-1099511627776) < (if 1099511627776 < s_8.K then 1099511627776 else s_8.K) then (if 1099511627776 < s_8.K then 1099511627776 else s_8.K) else (-1099511627776)), .int .i64 0]) (PV' := [.cell c_12 [.int .i64 1, .int .i64 q_16, .int .i64 (if (-1099511627776) < (if 1099511627776 < s_8.K then 1099511627776 else s_8.K) then (if 1099511627776 < s_8.K then 1099511627776 else s_8.K) else (-1099511627776)), .int .i64 0], .cell c_10 [.int .i64 s_8.Kind, .int .i64 s_8.Var, .int .i64 s_8.K, .int .i64 s_8.Block], .cell a_1 [v_2, .int .i64 Vars_4, v_5], .row o_Gheap_Chunk 49 v_2 x_3, .row (t_Gdiff_Leq).o 39 v_5 x_6]) 0 Try.pi33 rfl rfl rfl ⟨rfl, rfl, rfl, rfl, trivial⟩ rfl rfl rfl rfl rfl ?_)
        refine ⟨.inl (.inl rfl), ?_⟩
        refine JA_done (by kernel_rfl) ?_
        refine J_then ?_
        refine J_ret ?_
        refine J_keep [true, false, true, true, true] ?_
        refine J_cut_end _ ?_ ⟨rfl, rfl, rfl, rfl⟩ trivial
        exact ⟨rfl, trivial⟩
      · refine J_seq ?_
        refine J_region ?_
        refine JL_op rfl (op_read rfl rfl (r_eql rfl rfl) ?_)
        refine JL_op rfl (op_read rfl rfl (r_assign (v := .bool (decide (s_8.Kind = 2))) rfl) ?_)
        refine JL_nil ?_
        refine J_then ?_
        refine J_cut (fun (y : W2 Unit Gheap_Sym) e L τ PV => match y, e with | .a y, e => e = .normal ∧ (σ = τ ∧ L = [(4, .pointer (some (Addr.add c_12 0)))] ∧ PV = [.cell c_12 [.int .i64 0, .int .i64 0, .int .i64 0, .int .i64 0], .cell a_1 [v_2, .int .i64 Vars_4, v_5], .row o_Gheap_Chunk 49 v_2 x_3, .row (t_Gdiff_Leq).o 39 v_5 x_6]) | .b y, e => e = .ret ∧ (σ = τ ∧ L = [(4, .pointer (some (Addr.add c_12 0)))] ∧ PV = [.cell c_12 [.int .i64 y.Kind, .int .i64 y.Var, .int .i64 y.K, .int .i64 y.Block], .cell a_1 [v_2, .int .i64 Vars_4, v_5], .row o_Gheap_Chunk 49 v_2 x_3, .row (t_Gdiff_Leq).o 39 v_5 x_6])) ?_ ?_
        · refine J_cond rfl (fun hc_26 => ?_) (fun hc_26 => ?_)
          · refine J_seq ?_
            refine J_region ?_
            refine JL_op rfl (op_read rfl rfl (r_move (v := .pointer (some (Addr.add a_1 0))) rfl) ?_)
            refine JL_op rfl (op_read rfl rfl (r_nilCheck (a := (Addr.add a_1 0)) rfl) ?_)
            refine JL_op rfl (op_read rfl rfl (r_fieldAddr (r := Addr.add a_1 0) Try.pu28 (f := Try.pf28.getD 0 default) rfl Try.pi26 (by decide) rfl (Addr.add_add _ _ _)) ?_)
            refine JL_op rfl (op_read rfl rfl (r_load_priv (a := a_1) (off := 0) (cs' := [v_2]) (v := v_2) 2 Try.pu26 Try.pi26 rfl rfl rfl rfl (by decide) rfl) ?_)
            refine JL_op rfl (op_read rfl rfl (r_len_row (v := v_2) 3 Try.pu26 rfl rfl) ?_)
            refine JL_op rfl (op_read rfl rfl (r_assign (v := .int .i64 x_3.len) rfl) ?_)
            refine JL_nil ?_
            refine J_then ?_
            refine J_seq ?_
            refine J_region ?_
            refine JL_op rfl (op_read rfl rfl (r_move (v := .int .i64 x_3.len) rfl) ?_)
            refine JL_op rfl (op_read rfl rfl (r_gtr rfl rfl) ?_)
            refine JL_nil ?_
            refine J_then ?_
            refine J_cond rfl (fun hc_27 => ?_) (fun hc_27 => ?_)
            · refine J_seq ?_
              refine J_region ?_
              refine JL_op rfl (op_read rfl rfl (r_fieldAddr (r := Addr.add c_10 3) Try.pu33 (f := Try.pf33.getD 3 default) rfl Try.pi3 (by decide) rfl (Addr.add_add _ _ _)) ?_)
              refine JL_op rfl (op_read rfl rfl (r_load_priv (a := c_10) (off := 3) (cs' := [.int .i64 s_8.Block]) (v := .int .i64 s_8.Block) 1 Try.pu3 Try.pi3 rfl rfl rfl rfl (by decide) rfl) ?_)
              refine JL_op rfl (op_read rfl rfl (r_max rfl rfl) ?_)
              refine JL_op rfl (op_read rfl rfl (r_move (v := .int .i64 x_3.len) rfl) ?_)
              refine J_bind fun q_28 hq_29 => ?_
              refine JL_op rfl (op_read rfl rfl (r_rem rfl rfl hq_29) ?_)
              refine JL_op rfl (op_read rfl rfl (r_build (cs := [.int .i64 2, .int .i64 0, .int .i64 0, .int .i64 q_28]) (vs := [(0, .int .i64 2), (3, .int .i64 q_28)]) (pcs := [(0, [.int .i64 2]), (3, [.int .i64 q_28])]) (pls := [(0, 1), (1, 1), (2, 1), (3, 1)]) Try.pu33 Try.pi33 rfl (by kernel_rfl) rfl ⟨rfl, rfl, ⟨rfl, rfl, trivial⟩⟩ rfl) ?_)
              refine JL_op rfl (op_store_priv (a := c_12) (off := 0) (vs := [.int .i64 2, .int .i64 0, .int .i64 0, .int .i64 q_28]) (cs' := [.int .i64 2, .int .i64 0, .int .i64 0, .int .i64 q_28]) (PV' := [.cell c_12 [.int .i64 2, .int .i64 0, .int .i64 0, .int .i64 q_28], .cell c_10 [.int .i64 s_8.Kind, .int .i64 s_8.Var, .int .i64 s_8.K, .int .i64 s_8.Block], .cell a_1 [v_2, .int .i64 Vars_4, v_5], .row o_Gheap_Chunk 49 v_2 x_3, .row (t_Gdiff_Leq).o 39 v_5 x_6]) 0 Try.pi33 rfl rfl rfl ⟨rfl, rfl, rfl, rfl, trivial⟩ rfl rfl rfl rfl rfl ?_)
              refine JL_nil ?_
              refine J_then ?_
              refine J_ret ?_
              refine J_keep [true, false, true, true, true] ?_
              refine J_cut_end _ ?_ ⟨rfl, rfl, rfl, rfl⟩ trivial
              exact ⟨rfl, trivial⟩
            · refine J_skip ?_
              refine J_keep [true, false, true, true, true] ?_
              refine J_cut_end _ ?_ ⟨rfl, rfl, rfl, rfl⟩ trivial
              exact ⟨rfl, trivial⟩
          · refine J_skip ?_
            refine J_keep [true, false, true, true, true] ?_
            refine J_cut_end _ ?_ ⟨rfl, rfl, rfl, rfl⟩ trivial
            exact ⟨rfl, trivial⟩
        · rintro (y_31 | y_35) e L b τ PV ht
          · obtain ⟨rfl, ht⟩ := ht
            revert ht; revert PV; revert τ; revert b; revert L
            rintro _ b s_34 _ ⟨rfl, rfl, rfl⟩
            refine J_cut_end _ ?_ ⟨rfl, rfl, rfl, rfl⟩ trivial
            exact ⟨rfl, trivial⟩
          · obtain ⟨rfl, ht⟩ := ht
            revert ht; revert PV; revert τ; revert b; revert L
            rintro _ b s_38 _ ⟨rfl, rfl, rfl⟩
            refine J_cut_end _ ?_ ⟨rfl, rfl, rfl, rfl⟩ trivial
            exact ⟨rfl, trivial⟩
    · rintro (y_40 | y_44) e L b τ PV ht
      · obtain ⟨rfl, ht⟩ := ht
        revert ht; revert PV; revert τ; revert b; revert L
        rintro _ b s_43 _ ⟨rfl, rfl, rfl⟩
        refine J_in_normal ?_
        refine J_cut_end _ ?_ ⟨rfl, rfl, rfl, rfl⟩ trivial
        exact ⟨rfl, trivial⟩
      · obtain ⟨rfl, ht⟩ := ht
        revert ht; revert PV; revert τ; revert b; revert L
        rintro _ b s_47 _ ⟨rfl, rfl, rfl⟩
        refine J_in_ret ?_
        refine J_cut_end _ ?_ ⟨rfl, rfl, rfl, rfl⟩ trivial
        exact ⟨rfl, trivial⟩
  · rintro (y_49 | y_53) e L b τ PV ht
    · obtain ⟨rfl, ht⟩ := ht
      revert ht; revert PV; revert τ; revert b; revert L
      rintro _ b s_52 _ ⟨rfl, rfl, rfl⟩
      refine J_then ?_
      refine J_seq ?_
      refine J_region ?_
      refine JL_op rfl (op_read rfl rfl (r_build (cs := [.int .i64 0, .int .i64 0, .int .i64 0, .int .i64 0]) (vs := []) (pcs := []) (pls := [(0, 1), (1, 1), (2, 1), (3, 1)]) Try.pu33 Try.pi33 rfl (by kernel_rfl) rfl trivial rfl) ?_)
      refine JL_op rfl (op_store_priv (a := c_12) (off := 0) (vs := [.int .i64 0, .int .i64 0, .int .i64 0, .int .i64 0]) (cs' := [.int .i64 0, .int .i64 0, .int .i64 0, .int .i64 0]) (PV' := [.cell c_12 [.int .i64 0, .int .i64 0, .int .i64 0, .int .i64 0], .cell a_1 [v_2, .int .i64 Vars_4, v_5], .row o_Gheap_Chunk 49 v_2 x_3, .row (t_Gdiff_Leq).o 39 v_5 x_6]) 0 Try.pi33 rfl rfl rfl ⟨rfl, rfl, rfl, rfl, trivial⟩ rfl rfl rfl rfl rfl ?_)
      refine JL_nil ?_
      refine J_then ?_
      refine J_ret ?_
      exact J_returnV1 (PV' := [.cell a_1 [v_2, .int .i64 Vars_4, v_5], .row o_Gheap_Chunk 49 v_2 x_3, .row (t_Gdiff_Leq).o 39 v_5 x_6]) rfl (rv_cell (cs := [.int .i64 0, .int .i64 0, .int .i64 0, .int .i64 0]) (v := .agg #[.int .i64 0, .int .i64 0, .int .i64 0, .int .i64 0]) 0 Try.pu33 Try.pi33 rfl rfl rfl (by decide) rfl) [1, 2, 3] (by decide) rfl ⟨rfl, rfl, rfl⟩
    · obtain ⟨rfl, ht⟩ := ht
      revert ht; revert PV; revert τ; revert b; revert L
      rintro _ b s_56 _ ⟨rfl, rfl, rfl⟩
      refine J_then_ret ?_
      exact J_returnV1 (PV' := [.cell a_1 [v_2, .int .i64 Vars_4, v_5], .row o_Gheap_Chunk 49 v_2 x_3, .row (t_Gdiff_Leq).o 39 v_5 x_6]) rfl (rv_cell (cs := [.int .i64 y_53.Kind, .int .i64 y_53.Var, .int .i64 y_53.K, .int .i64 y_53.Block]) (v := .agg #[.int .i64 y_53.Kind, .int .i64 y_53.Var, .int .i64 y_53.K, .int .i64 y_53.Block]) 0 Try.pu33 Try.pi33 rfl rfl rfl (by decide) rfl) [1, 2, 3] (by decide) rfl ⟨rfl, rfl, rfl⟩
def lychgatelaw13_HeapOver_1_post (σ0 : FS) (v_1 : Int) (a_2 : Addr) (v_3 : Value) (x_4 : Sl Int) (a_5 : Addr) (v_6 : Value) (x_7 : Sl Gheap_Sym) (r : Int) (σ : FS) (PV : List Priv) (v : Value) : Prop :=
  σ0 = σ ∧ .int .i64 r = v ∧ PV = [.cell a_2 [v_3], .row ((tInt .i64)).o 2 v_3 x_4, .cell a_5 [v_6], .row (t_Gheap_Sym).o 33 v_6 x_7]
set_option maxRecDepth 100000 in
theorem lychgatelaw13_HeapOver_1_ref (s : Start) (σ : FS) (v_1 : Int) (a_2 : Addr) (v_3 : Value) (x_4 : Sl Int) (a_5 : Addr) (v_6 : Value) (x_7 : Sl Gheap_Sym) (hs : Pre s σ [.cell a_2 [v_3], .row ((tInt .i64)).o 2 v_3 x_4, .cell a_5 [v_6], .row (t_Gheap_Sym).o 33 v_6 x_7]) (r : Int) (hr : lychgatelaw13_HeapOver_1 v_1 x_4 x_7 = some r) : Does Try.prog 13 [.int .i64 v_1, .pointer (some (Addr.add a_2 0)), .pointer (some (Addr.add a_5 0))] s σ (lychgatelaw13_HeapOver_1_post σ v_1 a_2 v_3 x_4 a_5 v_6 x_7 r) := by
  unfold lychgatelaw13_HeapOver_1 at hr
  refine does_of_J Try.func13 rfl (n := 23) rfl rfl hs hr ?_
  refine J_seq ?_
  refine J_region ?_
  refine JL_op rfl (op_read rfl rfl (r_assign (v := .int .i64 0) rfl) ?_)
  refine JL_nil ?_
  refine J_then ?_
  refine J_seq ?_
  refine J_seq ?_
  refine J_region ?_
  refine JL_op rfl (op_read rfl rfl (r_move (v := .int .i64 v_1) rfl) ?_)
  refine JL_op rfl (op_read rfl rfl (r_eql rfl rfl) ?_)
  refine JL_nil ?_
  refine J_then ?_
  refine J_cond rfl (fun hc_8 => ?_) (fun hc_8 => ?_)
  · refine J_seq ?_
    refine J_region ?_
    refine JL_op rfl (op_read rfl rfl (r_assign (v := .int .i64 0) rfl) ?_)
    refine JL_nil ?_
    refine J_then ?_
    refine J_ret ?_
    refine J_then_ret ?_
    exact J_returnV1 (PV' := [.cell a_2 [v_3], .row ((tInt .i64)).o 2 v_3 x_4, .cell a_5 [v_6], .row (t_Gheap_Sym).o 33 v_6 x_7]) rfl rv_tmp [0, 1, 2, 3] (by decide) rfl ⟨rfl, rfl, rfl⟩
  · refine J_skip ?_
    refine J_then ?_
    refine J_seq ?_
    refine J_region_any 17 [.cell a_2 [v_3], .row ((tInt .i64)).o 2 v_3 x_4, .cell a_5 [v_6], .row (t_Gheap_Sym).o 33 v_6 x_7] Try.mixed (by kernel_rfl) fun hns => ?_
    refine JA_take 0 rfl hns (by kernel_rfl) (by kernel_rfl) (by kernel_rfl) rfl (by kernel_rfl) (by exact HeldOK.same [0, 1, 2, 3] (by decide) rfl) rfl rfl rfl (r_load_priv (a := a_2) (off := 0) (cs' := [v_3]) (v := v_3) 0 Try.pu24 Try.pi24 rfl rfl rfl rfl (by decide) rfl) ?_
    refine JA_take 1 rfl hns (by kernel_rfl) (by kernel_rfl) (by kernel_rfl) rfl (by kernel_rfl) (by exact HeldOK.same [0, 1, 2, 3] (by decide) rfl) rfl rfl rfl (r_load_priv (a := a_5) (off := 0) (cs' := [v_6]) (v := v_6) 2 Try.pu23 Try.pi23 rfl rfl rfl rfl (by decide) rfl) ?_
    refine JA_takep 2 rfl hns (by kernel_rfl) (by kernel_rfl) rfl (.inr (by exact HeldOK.same [0, 1, 2, 3] (by decide) rfl)) rfl rfl rfl (r_move (v := .int .i64 v_1) rfl) ?_
    refine JA_takep 3 rfl hns (by kernel_rfl) (by kernel_rfl) rfl (.inr (by exact HeldOK.same [0, 1, 2, 3] (by decide) rfl)) rfl rfl rfl (r_sub rfl rfl) ?_
    refine J_bind fun x_10 hx_11 => ?_
    refine JA_take 4 rfl hns (by kernel_rfl) (by kernel_rfl) (by kernel_rfl) rfl (by kernel_rfl) (by exact HeldOK.same [0, 1, 2, 3] (by decide) rfl) rfl rfl rfl (r_index_row (v := v_6) (T := (t_Gheap_Sym).o) (q := x_10) 3 Try.pu23 Try.pi33 rfl rfl rfl rfl hx_11) ?_
    refine JA_takep 5 rfl hns (by kernel_rfl) (by kernel_rfl) rfl (.inr (by exact HeldOK.same [0, 1, 2, 3] (by decide) rfl)) rfl rfl rfl (r_fieldAddr (r := elemAddr v_6 ((IntKind.i64.wrap (v_1 - 1)).toNat * ((t_Gheap_Sym).o).size + 1)) Try.pu33 (f := Try.pf33.getD 1 default) rfl Try.pi3 (by decide) rfl (elemAddr_add _ _ _)) ?_
    refine JA_takes 6 rfl hns (by kernel_rfl) (by kernel_rfl) (by kernel_rfl) rfl (by kernel_rfl) (by exact HeldOK.same [0, 1, 2, 3] (by decide) rfl) rfl rfl rfl (l_elem_orow (v := v_6) (T := (t_Gheap_Sym).o) (Tf := (tInt .i64)) (q := x_10) (i := (IntKind.i64.wrap (v_1 - 1))) (off := 1) 3 Try.pu3 Try.pi3 rfl rfl rfl rfl hx_11 (OFieldAt.of f_Gheap_Sym_Var) (by decide)) ?_
    intro v_12 h_13
    obtain rfl := tInt_v.1 h_13
    refine J_bind fun x_14 hx_15 => ?_
    refine JA_take 7 rfl hns (by kernel_rfl) (by kernel_rfl) (by kernel_rfl) rfl (by kernel_rfl) (by exact HeldOK.same [0, 1, 2, 3] (by decide) rfl) rfl rfl rfl (r_index_row (v := v_3) (T := ((tInt .i64)).o) (q := x_14) 1 Try.pu24 Try.pi2 rfl rfl rfl rfl hx_15) ?_
    refine JA_takes 8 rfl hns (by kernel_rfl) (by kernel_rfl) (by kernel_rfl) rfl (by kernel_rfl) (by exact HeldOK.same [0, 1, 2, 3] (by decide) rfl) rfl rfl rfl (l_elem_orow (v := v_3) (T := ((tInt .i64)).o) (Tf := (tInt .i64)) (q := x_14) (i := x_10.Var) (off := 0) 1 Try.pu2 Try.pi2 rfl rfl rfl rfl hx_15 (OFieldAt.self (T := ((tInt .i64)).o)) (by decide)) ?_
    intro v_16 h_17
    obtain rfl := tInt_v.1 h_17
    refine JA_take 9 rfl hns (by kernel_rfl) (by kernel_rfl) (by kernel_rfl) rfl (by kernel_rfl) (by exact HeldOK.same [0, 1, 2, 3] (by decide) rfl) rfl rfl rfl (r_load_priv (a := a_5) (off := 0) (cs' := [v_6]) (v := v_6) 2 Try.pu23 Try.pi23 rfl rfl rfl rfl (by decide) rfl) ?_
    refine JA_takep 10 rfl hns (by kernel_rfl) (by kernel_rfl) rfl (.inr (by exact HeldOK.same [0, 1, 2, 3] (by decide) rfl)) rfl rfl rfl (r_move (v := .int .i64 v_1) rfl) ?_
    refine JA_takep 11 rfl hns (by kernel_rfl) (by kernel_rfl) rfl (.inr (by exact HeldOK.same [0, 1, 2, 3] (by decide) rfl)) rfl rfl rfl (r_sub rfl rfl) ?_
    refine JA_take 12 rfl hns (by kernel_rfl) (by kernel_rfl) (by kernel_rfl) rfl (by kernel_rfl) (by exact HeldOK.same [0, 1, 2, 3] (by decide) rfl) rfl rfl rfl (r_index_row (v := v_6) (T := (t_Gheap_Sym).o) (q := x_10) 3 Try.pu23 Try.pi33 rfl rfl rfl rfl hx_11) ?_
    refine JA_takep 13 rfl hns (by kernel_rfl) (by kernel_rfl) rfl (.inr (by exact HeldOK.same [0, 1, 2, 3] (by decide) rfl)) rfl rfl rfl (r_fieldAddr (r := elemAddr v_6 ((IntKind.i64.wrap (v_1 - 1)).toNat * ((t_Gheap_Sym).o).size + 2)) Try.pu33 (f := Try.pf33.getD 2 default) rfl Try.pi2 (by decide) rfl (elemAddr_add _ _ _)) ?_
    refine JA_takes 14 rfl hns (by kernel_rfl) (by kernel_rfl) (by kernel_rfl) rfl (by kernel_rfl) (by exact HeldOK.same [0, 1, 2, 3] (by decide) rfl) rfl rfl rfl (l_elem_orow (v := v_6) (T := (t_Gheap_Sym).o) (Tf := (tInt .i64)) (q := x_10) (i := (IntKind.i64.wrap (v_1 - 1))) (off := 2) 3 Try.pu2 Try.pi2 rfl rfl rfl rfl hx_11 (OFieldAt.of f_Gheap_Sym_K) (by decide)) ?_
    intro v_18 h_19
    obtain rfl := tInt_v.1 h_19
    refine JA_takep 15 rfl hns (by kernel_rfl) (by kernel_rfl) rfl (.inr (by exact HeldOK.same [0, 1, 2, 3] (by decide) rfl)) rfl rfl rfl (r_add rfl rfl) ?_
    refine JA_takep 16 rfl hns (by kernel_rfl) (by kernel_rfl) rfl (.inr (by exact HeldOK.same [0, 1, 2, 3] (by decide) rfl)) rfl rfl rfl (r_assign (v := .int .i64 (IntKind.i64.wrap (x_14 + x_10.K))) rfl) ?_
    refine JA_done (by kernel_rfl) ?_
    refine J_then ?_
    refine J_ret ?_
    exact J_returnV1 (PV' := [.cell a_2 [v_3], .row ((tInt .i64)).o 2 v_3 x_4, .cell a_5 [v_6], .row (t_Gheap_Sym).o 33 v_6 x_7]) rfl rv_tmp [0, 1, 2, 3] (by decide) rfl ⟨rfl, rfl, rfl⟩
def lychgatelaw13_HeapOver_post (σ0 : FS) (v_1 : Value) (l_2 : Sl Gdiff_Leq) (v_4 : Value) (cells_5 : Sl Gheap_Sym) (v_7 : Value) (numbers_8 : Sl Int) (r : Bool) (σ : FS) (PV : List Priv) (v : Value) : Prop :=
  σ0 = σ ∧ .bool r = v ∧ PV = []
set_option maxRecDepth 100000 in
theorem lychgatelaw13_HeapOver_ref (s : Start) (σ : FS) (v_1 : Value) (l_2 : Sl Gdiff_Leq) (h_3 : (tSl t_Gdiff_Leq).vrel σ v_1 l_2) (v_4 : Value) (cells_5 : Sl Gheap_Sym) (h_6 : (tSl t_Gheap_Sym).vrel σ v_4 cells_5) (v_7 : Value) (numbers_8 : Sl Int) (h_9 : (tSl (tInt .i64)).vrel σ v_7 numbers_8) (hs : Pre s σ []) (r : Bool) (hr : lychgatelaw13_HeapOver l_2 cells_5 numbers_8 = some r) : Does Try.prog 3 [v_1, v_4, v_7] s σ (lychgatelaw13_HeapOver_post σ v_1 l_2 v_4 cells_5 v_7 numbers_8 r) := by
  unfold lychgatelaw13_HeapOver at hr
  refine does_of_J Try.func3 rfl (n := 123) rfl rfl hs hr ?_
  refine J_seq ?_
  refine J_region ?_
  refine JL_op rfl (op_read rfl rfl (r_assign (v := .bool false) rfl) ?_)
  refine JL_nil ?_
  refine J_then ?_
  refine J_seq ?_
  refine J_region ?_
  refine JL_op rfl (op_read rfl rfl (r_move (v := v_7) rfl) ?_)
  refine JL_op rfl (op_read rfl rfl (r_len_frozen (v := v_7) Try.pu24 rfl h_9) ?_)
  refine JL_op rfl (op_read rfl rfl (r_min rfl rfl) ?_)
  refine JL_op rfl (op_read rfl rfl (r_add rfl rfl) ?_)
  refine JL_op rfl (op_read rfl rfl (r_build (cs := [.slice none 0 0, .int .i64 (IntKind.i64.wrap (1 + (if 9 < numbers_8.len then 9 else numbers_8.len))), .slice none 0 0]) (vs := [(1, .int .i64 (IntKind.i64.wrap (1 + (if 9 < numbers_8.len then 9 else numbers_8.len))))]) (pcs := [(1, [.int .i64 (IntKind.i64.wrap (1 + (if 9 < numbers_8.len then 9 else numbers_8.len)))])]) (pls := [(0, 1), (1, 1), (2, 1)]) Try.pu28 Try.pi28 rfl (by kernel_rfl) rfl ⟨rfl, rfl, trivial⟩ rfl) ?_)
  refine JL_op rfl (op_box (cs := [.slice none 0 0, .int .i64 (IntKind.i64.wrap (1 + (if 9 < numbers_8.len then 9 else numbers_8.len))), .slice none 0 0]) rfl rfl ?_)
  intro c_10
  refine JL_op rfl (op_read rfl rfl (r_assign (v := .pointer (some (Addr.add c_10 0))) rfl) ?_)
  refine JL_nil ?_
  refine J_then ?_
  refine J_seq ?_
  refine J_seq ?_
  refine J_region ?_
  refine JL_op rfl (op_callN (f := 8) (fn := Try.f8) (args := []) (post := lychgatelaw13_wakes_post σ) 0 rfl rfl rfl Try.func8 Try.pn8 rfl rfl (fun y st hy hpre => lychgatelaw13_wakes_ref st σ  hpre y hy) ?_)
  intro r_12 v_14 s_17 PV_15 hr_13 hle_18 hp_16
  obtain ⟨rfl, rfl, rfl⟩ := hp_16
  refine JL_op rfl (op_read rfl rfl (r_not rfl) ?_)
  refine JL_nil ?_
  refine J_then ?_
  refine J_cond rfl (fun hc_19 => ?_) (fun hc_19 => ?_)
  · refine J_seq ?_
    refine J_region ?_
    refine JL_op rfl (op_read rfl rfl (r_assign (v := .bool false) rfl) ?_)
    refine JL_nil ?_
    refine J_then ?_
    refine J_ret ?_
    refine J_then_ret ?_
    exact J_returnV1 (PV' := []) rfl rv_tmp [] (by decide) rfl ⟨rfl, rfl, rfl⟩
  · refine J_skip ?_
    refine J_then ?_
    refine J_seq ?_
    refine J_region ?_
    refine JL_op rfl (op_read rfl rfl (r_move (v := .pointer (some (Addr.add c_10 0))) rfl) ?_)
    refine JL_op rfl (op_read rfl rfl (r_nilCheck (a := (Addr.add c_10 0)) rfl) ?_)
    refine JL_op rfl (op_read rfl rfl (r_fieldAddr (r := Addr.add c_10 1) Try.pu28 (f := Try.pf28.getD 1 default) rfl Try.pi3 (by decide) rfl (Addr.add_add _ _ _)) ?_)
    refine JL_op rfl (op_read rfl rfl (r_load_priv (a := c_10) (off := 1) (cs' := [.int .i64 (IntKind.i64.wrap (1 + (if 9 < numbers_8.len then 9 else numbers_8.len)))]) (v := .int .i64 (IntKind.i64.wrap (1 + (if 9 < numbers_8.len then 9 else numbers_8.len)))) 0 Try.pu3 Try.pi3 rfl rfl rfl rfl (by decide) rfl) ?_)
    refine JL_op rfl (op_make (ti := Try.t2) (T := ((tInt .i64)).o) (q := 0) rfl Try.pu24 Try.pi2 rfl rfl rfl rfl rfl (fun σ => rfl) ?_)
    intro s_22 v_20 hs_23
    refine JL_op rfl (op_alloc (cs := [.slice none 0 0]) rfl Try.pi24 rfl rfl ?_)
    intro c_24
    refine J_row_one 1 rfl fun h_26 => ?_
    refine JL_op rfl (op_store_priv (a := c_24) (off := 0) (vs := [v_20]) (cs' := [v_20]) (PV' := [.cell c_24 [v_20], .row ((tInt .i64)).o 2 v_20 s_22, .cell c_10 [.slice none 0 0, .int .i64 (IntKind.i64.wrap (1 + (if 9 < numbers_8.len then 9 else numbers_8.len))), .slice none 0 0]]) 0 Try.pi24 rfl (one_cells h_26) rfl ⟨h_26, trivial⟩ rfl rfl rfl rfl rfl ?_)
    refine JL_nil ?_
    refine J_then ?_
    refine J_seq ?_
    refine J_seq ?_
    refine J_region ?_
    refine JL_op rfl (op_read rfl rfl (r_move (v := .pointer (some (Addr.add c_10 0))) rfl) ?_)
    refine JL_op rfl (op_read rfl rfl (r_nilCheck (a := (Addr.add c_10 0)) rfl) ?_)
    refine JL_op rfl (op_read rfl rfl (r_fieldAddr (r := Addr.add c_10 1) Try.pu28 (f := Try.pf28.getD 1 default) rfl Try.pi3 (by decide) rfl (Addr.add_add _ _ _)) ?_)
    refine JL_op rfl (op_read rfl rfl (r_load_priv (a := c_10) (off := 1) (cs' := [.int .i64 (IntKind.i64.wrap (1 + (if 9 < numbers_8.len then 9 else numbers_8.len)))]) (v := .int .i64 (IntKind.i64.wrap (1 + (if 9 < numbers_8.len then 9 else numbers_8.len)))) 2 Try.pu3 Try.pi3 rfl rfl rfl rfl (by decide) rfl) ?_)
    refine JL_op rfl (op_read rfl rfl (r_sub rfl rfl) ?_)
    refine JL_op rfl (op_read rfl rfl (r_move (v := .int .i64 0) rfl) ?_)
    refine JL_nil ?_
    refine J_then ?_
    refine J_block ?_
    refine J_nil_row o_Gheap_Chunk 49 ?_
    refine J_nil_row (t_Gdiff_Leq).o 39 ?_
    refine J_front [4, 1] ?_
    refine J_loop (fun (y : (Sl Gheap_Chunk) × (Sl Gdiff_Leq) × (Sl Int) × Int) L τ PV => ∃ (w0 : Value) (w1 : Value), σ = τ ∧ L = [(0, v_1), (1, v_4), (2, v_7), (7, .pointer (some (Addr.add c_10 0))), (8, .pointer (some (Addr.add c_24 0))), (35, .int .i64 (IntKind.i64.wrap ((IntKind.i64.wrap (1 + (if 9 < numbers_8.len then 9 else numbers_8.len))) - 1))), (36, .int .i64 y.2.2.2)] ∧ PV = [.cell c_10 [w0, .int .i64 (IntKind.i64.wrap (1 + (if 9 < numbers_8.len then 9 else numbers_8.len))), w1], .row o_Gheap_Chunk 49 w0 y.1, .row (t_Gdiff_Leq).o 39 w1 y.2.1, .cell c_24 [v_20], .row ((tInt .i64)).o 2 v_20 y.2.2.1]) (fun (y : (Sl Gheap_Chunk) × (Sl Gdiff_Leq) × (Sl Int)) e L τ PV => e = .exit 0 ∧ (∃ (w0 : Value) (w1 : Value), σ = τ ∧ L = [(0, v_1), (1, v_4), (7, .pointer (some (Addr.add c_10 0))), (8, .pointer (some (Addr.add c_24 0)))] ∧ PV = [.cell c_10 [w0, .int .i64 (IntKind.i64.wrap (1 + (if 9 < numbers_8.len then 9 else numbers_8.len))), w1], .row o_Gheap_Chunk 49 w0 y.1, .row (t_Gdiff_Leq).o 39 w1 y.2.1, .cell c_24 [v_20], .row ((tInt .i64)).o 2 v_20 y.2.2])) _ ?_ ⟨(.slice none 0 0), (.slice none 0 0), rfl, rfl, rfl⟩ ?_ ?_
    · exact ⟨rfl, rfl, rfl, rfl, rfl, rfl, rfl, trivial⟩
    · rintro x_29 _ b s_36 _ ⟨v_33, v_35, rfl, rfl, rfl⟩
      unfold lychgatelaw13_HeapOver_L1
      refine J_seq ?_
      refine J_region ?_
      refine JL_op rfl (op_read rfl rfl (r_lss rfl rfl) ?_)
      refine JL_nil ?_
      refine J_then ?_
      refine J_seq ?_
      refine J_cond rfl (fun hc_37 => ?_) (fun hc_37 => ?_)
      · refine J_skip ?_
        refine J_then ?_
        refine J_seq ?_
        refine J_block ?_
        refine J_seq ?_
        refine J_region ?_
        refine JL_op rfl (op_read rfl rfl (r_move (v := .int .i64 x_29.2.2.2) rfl) ?_)
        refine JL_op rfl (op_read rfl rfl (r_assign (v := .int .i64 x_29.2.2.2) rfl) ?_)
        refine JL_nil ?_
        refine J_then ?_
        refine J_region_any 9 [.cell c_10 [v_33, .int .i64 (IntKind.i64.wrap (1 + (if 9 < numbers_8.len then 9 else numbers_8.len))), v_35], .row (t_Gdiff_Leq).o 39 v_35 x_29.2.1, .cell c_24 [v_20], .row ((tInt .i64)).o 2 v_20 x_29.2.2.1] Try.mixed (by kernel_rfl) fun hns => ?_
        refine JA_take 0 rfl hns (by kernel_rfl) (by kernel_rfl) (by kernel_rfl) rfl (by kernel_rfl) (by exact HeldOK.same [0, 2, 3, 4] (by decide) rfl) rfl rfl rfl (r_load_priv (a := c_24) (off := 0) (cs' := [v_20]) (v := v_20) 2 Try.pu24 Try.pi24 rfl rfl rfl rfl (by decide) rfl) ?_
        refine JA_takep 1 rfl hns (by kernel_rfl) (by kernel_rfl) rfl (.inr (by exact HeldOK.same [0, 2, 3, 4] (by decide) rfl)) rfl rfl rfl (r_move (v := .int .i64 x_29.2.2.2) rfl) ?_
        refine JA_takep 2 rfl hns (by kernel_rfl) (by kernel_rfl) rfl (.inr (by exact HeldOK.same [0, 2, 3, 4] (by decide) rfl)) rfl rfl rfl (r_add rfl rfl) ?_
        refine JA_takep 3 rfl hns (by kernel_rfl) (by kernel_rfl) rfl (.inr (by exact HeldOK.same [0, 2, 3, 4] (by decide) rfl)) rfl rfl rfl (r_move (v := v_7) rfl) ?_
        refine JA_takep 4 rfl hns (by kernel_rfl) (by kernel_rfl) rfl (.inr (by exact HeldOK.same [0, 2, 3, 4] (by decide) rfl)) rfl rfl rfl (r_move (v := .int .i64 x_29.2.2.2) rfl) ?_
        refine J_bind fun x_39 hx_40 => ?_
        refine JA_takep 5 rfl hns (by kernel_rfl) (by kernel_rfl) rfl (.inr (by exact HeldOK.same [0, 2, 3, 4] (by decide) rfl)) rfl rfl rfl (r_index_frozen (v := v_7) (T := (tInt .i64)) (q := x_39) Try.pu24 Try.pi2 rfl rfl rfl h_9 hx_40) ?_
        refine JA_takes 6 rfl hns (by kernel_rfl) (by kernel_rfl) (by kernel_rfl) rfl (by kernel_rfl) (by exact HeldOK.same [0, 2, 3, 4] (by decide) rfl) rfl rfl rfl (l_elem_frozen (v := v_7) (T := (tInt .i64)) (Tf := (tInt .i64)) (q := x_39) (i := x_29.2.2.2) (off := 0) Try.pu2 Try.pi2 rfl rfl rfl h_9 hx_40 (FieldAt.self _) (by decide)) ?_
        intro v_41 h_42
        obtain rfl := tInt_v.1 h_42
        refine JA_op (i := 7) (by kernel_rfl) rfl rfl (op_callN (f := 9) (fn := Try.f9) (args := [.int .i64 x_39]) (post := lychgatelaw13_cut_post σ x_39) 0 rfl rfl rfl Try.func9 Try.pn9 rfl rfl (fun y st hy hpre => lychgatelaw13_cut_ref st σ x_39 hpre y hy) ?_)
        intro r_43 v_45 s_48 PV_46 hr_44 hle_49 hp_47
        obtain ⟨rfl, rfl, rfl⟩ := hp_47
        refine ⟨.inr (by exact HeldOK.same [0, 2, 3, 4] (by decide) rfl), ?_⟩
        refine J_bind fun x_51 hx_52 => ?_
        refine JA_take 8 rfl hns (by kernel_rfl) (by kernel_rfl) (by kernel_rfl) rfl (by kernel_rfl) (by exact HeldOK.same [0, 2, 3, 4] (by decide) rfl) rfl rfl rfl (r_index_row (v := v_20) (T := ((tInt .i64)).o) (q := x_51) 3 Try.pu24 Try.pi2 rfl rfl rfl rfl hx_52) ?_
        refine J_front [4] ?_
        refine JA_op (i := 9) (by kernel_rfl) rfl rfl (op_store_row (v := v_20) (u := (.int .i64 (if (-1099511627776) < (if 1099511627776 < x_39 then 1099511627776 else x_39) then (if 1099511627776 < x_39 then 1099511627776 else x_39) else (-1099511627776)))) (T := ((tInt .i64)).o) (q := (if (-1099511627776) < (if 1099511627776 < x_39 then 1099511627776 else x_39) then (if 1099511627776 < x_39 then 1099511627776 else x_39) else (-1099511627776))) (i := (IntKind.i64.wrap (x_29.2.2.2 + 1))) [] [.cell c_10 [v_33, .int .i64 (IntKind.i64.wrap (1 + (if 9 < numbers_8.len then 9 else numbers_8.len))), v_35], .row o_Gheap_Chunk 49 v_33 x_29.1, .row (t_Gdiff_Leq).o 39 v_35 x_29.2.1, .cell c_24 [v_20]] Try.pi2 rfl rfl rfl rfl (fix_vrel (T := ((tInt .i64)).o) rfl (tInt_v.2 rfl)) ?_)
        intro s_53 hs_54
        refine ⟨.inl (.inl rfl), ?_⟩
        refine JA_done (by kernel_rfl) ?_
        refine J_in_normal ?_
        refine J_then ?_
        refine J_region ?_
        refine JL_op rfl (op_read rfl rfl (r_add rfl rfl) ?_)
        refine JL_op rfl (op_read rfl rfl (r_move (v := .int .i64 (IntKind.i64.wrap (x_29.2.2.2 + 1))) rfl) ?_)
        refine JL_nil ?_
        refine J_front [1, 1, 1, 1] ?_
        refine J_next _ ?_ ⟨v_33, v_35, rfl, rfl, rfl⟩
        exact ⟨rfl, rfl, rfl, rfl, rfl, rfl, rfl, trivial⟩
      · refine J_exit ?_
        refine J_then_exit ?_
        refine J_done trivial _ ?_ ⟨rfl, v_33, v_35, rfl, rfl, rfl⟩
        exact ⟨rfl, rfl, rfl, rfl, trivial⟩
    · rintro y_56 _ _ b s_63 _ ⟨rfl, ⟨v_60, v_62, rfl, rfl, rfl⟩⟩
      refine J_in_exit ?_
      refine J_then ?_
      refine J_seq ?_
      refine J_region ?_
      refine JL_op rfl (op_alloc (cs := [.slice none 0 0]) rfl Try.pi23 rfl rfl ?_)
      intro c_64
      refine JL_nil ?_
      refine J_then ?_
      refine J_seq ?_
      refine J_seq ?_
      refine J_region ?_
      refine JL_op rfl (op_read rfl rfl (r_move (v := v_4) rfl) ?_)
      refine JL_op rfl (op_read rfl rfl (r_move (v := v_4) rfl) ?_)
      refine JL_op rfl (op_read rfl rfl (r_len_frozen (v := v_4) Try.pu23 rfl h_6) ?_)
      refine JL_op rfl (op_read rfl rfl (r_min rfl rfl) ?_)
      refine J_bind fun s_68 hs_69 => ?_
      refine JL_op rfl (op_reads rfl rfl (l_slice_frozen (v := v_4) (T := t_Gheap_Sym) (s' := s_68) (i := 0) (j := (if 9 < cells_5.len then 9 else cells_5.len)) Try.pu23 Try.pi33 rfl rfl h_6 rfl ⟨_, rfl⟩ hs_69) ?_)
      intro v_66 h_67
      refine JL_op rfl (op_read rfl rfl (r_len_frozen (v := v_66) Try.pu23 rfl h_67) ?_)
      refine JL_op rfl (op_read rfl rfl (r_move (v := .int .i64 0) rfl) ?_)
      refine JL_nil ?_
      refine J_then ?_
      refine J_block ?_
      refine J_nil_row (t_Gheap_Sym).o 33 ?_
      refine J_front [6, 1] ?_
      refine J_front [3, 3, 3, 3] ?_
      refine J_loop (fun (y : Int × (Sl Gheap_Sym) × Int) L τ PV => ∃ (w0 : Value), σ = τ ∧ L = [(0, v_1), (7, .pointer (some (Addr.add c_10 0))), (8, .pointer (some (Addr.add c_24 0))), (10, .pointer (some (Addr.add c_64 0))), (53, v_66), (54, .int .i64 s_68.len), (55, .int .i64 y.2.2)] ∧ PV = [.cell c_10 [v_60, .int .i64 y.1, v_62], .row o_Gheap_Chunk 49 v_60 y_56.1, .row (t_Gdiff_Leq).o 39 v_62 y_56.2.1, .cell c_24 [v_20], .row ((tInt .i64)).o 2 v_20 y_56.2.2, .cell c_64 [w0], .row (t_Gheap_Sym).o 33 w0 y.2.1]) (fun (y : (Sl Gheap_Sym)) e L τ PV => e = .exit 2 ∧ (∃ (w0 : Value), σ = τ ∧ L = [(0, v_1), (8, .pointer (some (Addr.add c_24 0))), (10, .pointer (some (Addr.add c_64 0)))] ∧ PV = [.cell c_24 [v_20], .row ((tInt .i64)).o 2 v_20 y_56.2.2, .cell c_64 [w0], .row (t_Gheap_Sym).o 33 w0 y])) _ ?_ ⟨(.slice none 0 0), rfl, rfl, rfl⟩ ?_ ?_
      · exact ⟨rfl, rfl, rfl, rfl, rfl, rfl, rfl, trivial⟩
      · rintro x_71 _ b s_76 _ ⟨v_75, rfl, rfl, rfl⟩
        unfold lychgatelaw13_HeapOver_L2
        refine J_seq ?_
        refine J_region ?_
        refine JL_op rfl (op_read rfl rfl (r_lss rfl rfl) ?_)
        refine JL_nil ?_
        refine J_then ?_
        refine J_seq ?_
        refine J_cond rfl (fun hc_77 => ?_) (fun hc_77 => ?_)
        · refine J_skip ?_
          refine J_then ?_
          refine J_seq ?_
          refine J_block ?_
          refine J_seq ?_
          refine J_region ?_
          refine J_bind fun x_78 hx_79 => ?_
          refine JL_op rfl (op_read rfl rfl (r_index_frozen (v := v_66) (T := t_Gheap_Sym) (q := x_78) Try.pu23 Try.pi33 rfl rfl rfl h_67 hx_79) ?_)
          refine JL_op rfl (op_reads rfl rfl (l_elem_frozen (v := v_66) (T := t_Gheap_Sym) (Tf := t_Gheap_Sym) (q := x_78) (i := x_71.2.2) (off := 0) Try.pu33 Try.pi33 rfl rfl rfl h_67 hx_79 (FieldAt.self _) (by decide)) ?_)
          intro v_80 h_81
          obtain rfl := t_Gheap_Sym_v.1 h_81
          refine JL_op rfl (op_alloc (cs := [.int .i64 0, .int .i64 0, .int .i64 0, .int .i64 0]) rfl Try.pi33 rfl rfl ?_)
          intro c_82
          refine JL_op rfl (op_store_priv (a := c_82) (off := 0) (vs := [.int .i64 x_78.Kind, .int .i64 x_78.Var, .int .i64 x_78.K, .int .i64 x_78.Block]) (cs' := [.int .i64 x_78.Kind, .int .i64 x_78.Var, .int .i64 x_78.K, .int .i64 x_78.Block]) (PV' := [.cell c_82 [.int .i64 x_78.Kind, .int .i64 x_78.Var, .int .i64 x_78.K, .int .i64 x_78.Block], .cell c_10 [v_60, .int .i64 x_71.1, v_62], .row o_Gheap_Chunk 49 v_60 y_56.1, .row (t_Gdiff_Leq).o 39 v_62 y_56.2.1, .cell c_24 [v_20], .row ((tInt .i64)).o 2 v_20 y_56.2.2, .cell c_64 [v_75], .row (t_Gheap_Sym).o 33 v_75 x_71.2.1]) 0 Try.pi33 rfl rfl rfl ⟨rfl, rfl, rfl, rfl, trivial⟩ rfl rfl rfl rfl rfl ?_)
          refine JL_nil ?_
          refine J_then ?_
          refine J_region_any 9 [.cell c_82 [.int .i64 x_78.Kind, .int .i64 x_78.Var, .int .i64 x_78.K, .int .i64 x_78.Block], .cell c_10 [v_60, .int .i64 x_71.1, v_62], .row (t_Gdiff_Leq).o 39 v_62 y_56.2.1, .cell c_24 [v_20], .row ((tInt .i64)).o 2 v_20 y_56.2.2, .cell c_64 [v_75], .row (t_Gheap_Sym).o 33 v_75 x_71.2.1] Try.mixed (by kernel_rfl) fun hns => ?_
          refine JA_take 0 rfl hns (by kernel_rfl) (by kernel_rfl) (by kernel_rfl) rfl (by kernel_rfl) (by exact HeldOK.same [0, 1, 3, 4, 5, 6, 7] (by decide) rfl) rfl rfl rfl (r_load_priv (a := c_64) (off := 0) (cs' := [v_75]) (v := v_75) 5 Try.pu23 Try.pi23 rfl rfl rfl rfl (by decide) rfl) ?_
          refine JA_takep 1 rfl hns (by kernel_rfl) (by kernel_rfl) rfl (.inr (by exact HeldOK.same [0, 1, 3, 4, 5, 6, 7] (by decide) rfl)) rfl rfl rfl (r_move (v := .pointer (some (Addr.add c_10 0))) rfl) ?_
          refine JA_takep 2 rfl hns (by kernel_rfl) (by kernel_rfl) rfl (.inr (by exact HeldOK.same [0, 1, 3, 4, 5, 6, 7] (by decide) rfl)) rfl rfl rfl (r_fieldAddr (r := Addr.add c_82 1) Try.pu33 (f := Try.pf33.getD 1 default) rfl Try.pi3 (by decide) rfl (Addr.add_add _ _ _)) ?_
          refine JA_take 3 rfl hns (by kernel_rfl) (by kernel_rfl) (by kernel_rfl) rfl (by kernel_rfl) (by exact HeldOK.same [0, 1, 3, 4, 5, 6, 7] (by decide) rfl) rfl rfl rfl (r_load_priv (a := c_82) (off := 1) (cs' := [.int .i64 x_78.Var]) (v := .int .i64 x_78.Var) 0 Try.pu3 Try.pi3 rfl rfl rfl rfl (by decide) rfl) ?_
          refine JA_takep 4 rfl hns (by kernel_rfl) (by kernel_rfl) rfl (.inr (by exact HeldOK.same [0, 1, 3, 4, 5, 6, 7] (by decide) rfl)) rfl rfl rfl (r_fieldAddr (r := Addr.add c_82 2) Try.pu33 (f := Try.pf33.getD 2 default) rfl Try.pi2 (by decide) rfl (Addr.add_add _ _ _)) ?_
          refine JA_take 5 rfl hns (by kernel_rfl) (by kernel_rfl) (by kernel_rfl) rfl (by kernel_rfl) (by exact HeldOK.same [0, 1, 3, 4, 5, 6, 7] (by decide) rfl) rfl rfl rfl (r_load_priv (a := c_82) (off := 2) (cs' := [.int .i64 x_78.K]) (v := .int .i64 x_78.K) 0 Try.pu2 Try.pi2 rfl rfl rfl rfl (by decide) rfl) ?_
          refine JA_takep 6 rfl hns (by kernel_rfl) (by kernel_rfl) rfl (.inr (by exact HeldOK.same [0, 1, 3, 4, 5, 6, 7] (by decide) rfl)) rfl rfl rfl (r_build (cs := [.int .i64 1, .int .i64 x_78.Var, .int .i64 x_78.K, .int .i64 0]) (vs := [(0, .int .i64 1), (1, .int .i64 x_78.Var), (2, .int .i64 x_78.K)]) (pcs := [(0, [.int .i64 1]), (1, [.int .i64 x_78.Var]), (2, [.int .i64 x_78.K])]) (pls := [(0, 1), (1, 1), (2, 1), (3, 1)]) Try.pu33 Try.pi33 rfl (by kernel_rfl) rfl ⟨rfl, rfl, ⟨rfl, rfl, ⟨rfl, rfl, trivial⟩⟩⟩ rfl) ?_
          refine J_front [1, 1, 1] ?_
          refine JA_op (i := 7) (by kernel_rfl) rfl rfl (op_callN (f := 10) (fn := Try.f10) (args := [.pointer (some (Addr.add c_10 0)), .agg #[.int .i64 1, .int .i64 x_78.Var, .int .i64 x_78.K, .int .i64 0]]) (post := lychgatelaw13_sym_post σ c_10 v_60 y_56.1 x_71.1 v_62 y_56.2.1 (.agg #[.int .i64 1, .int .i64 x_78.Var, .int .i64 x_78.K, .int .i64 0]) (⟨1, x_78.Var, x_78.K, 0⟩ : Gheap_Sym)) 3 rfl rfl rfl Try.func10 Try.pn10 rfl rfl (fun y st hy hpre => lychgatelaw13_sym_ref st σ c_10 v_60 y_56.1 x_71.1 v_62 y_56.2.1 (.agg #[.int .i64 1, .int .i64 x_78.Var, .int .i64 x_78.K, .int .i64 0]) (⟨1, x_78.Var, x_78.K, 0⟩ : Gheap_Sym) (t_Gheap_Sym_v.2 rfl) hpre y hy) ?_)
          intro r_85 v_87 s_90 PV_88 hr_86 hle_91 hp_89
          obtain ⟨rfl, rfl, rfl⟩ := hp_89
          refine ⟨.inr (by exact HeldOK.same [3, 0, 2, 4, 5, 6, 7] (by decide) rfl), ?_⟩
          refine JA_op (i := 8) (by kernel_rfl) rfl rfl (op_buildSlice (T := (t_Gheap_Sym).o) (vs := [.agg #[.int .i64 r_85.Kind, .int .i64 r_85.Var, .int .i64 r_85.K, .int .i64 r_85.Block]]) (xs := [r_85]) [] [.cell c_10 [v_60, .int .i64 x_71.1, v_62], .row o_Gheap_Chunk 49 v_60 y_56.1, .row (t_Gdiff_Leq).o 39 v_62 y_56.2.1, .cell c_82 [.int .i64 x_78.Kind, .int .i64 x_78.Var, .int .i64 x_78.K, .int .i64 x_78.Block], .cell c_24 [v_20], .row ((tInt .i64)).o 2 v_20 y_56.2.2, .cell c_64 [v_75], .row (t_Gheap_Sym).o 33 v_75 x_71.2.1] rfl Try.pu23 Try.pi33 rfl rfl rfl rfl rfl rfl (relsO_cons (A := []) (B := []) (u := .agg #[.int .i64 r_85.Kind, .int .i64 r_85.Var, .int .i64 r_85.K, .int .i64 r_85.Block]) (x := r_85) (fix_vrel (T := (t_Gheap_Sym).o) rfl (t_Gheap_Sym_v.2 rfl)) relsO_nil) ?_)
          intro v_94
          refine ⟨.inr (by exact HeldOK.same [4, 1, 3, 5, 6, 7, 8] (by decide) rfl), ?_⟩
          refine J_front [8] ?_
          refine JA_op (i := 9) (by kernel_rfl) rfl rfl (op_append (v := v_75) (u := v_94) (T := (t_Gheap_Sym).o) (ts := [r_85]) [] [.row (t_Gheap_Sym).o 33 v_94 (⟨[r_85], true⟩ : Sl Gheap_Sym), .cell c_10 [v_60, .int .i64 x_71.1, v_62], .row o_Gheap_Chunk 49 v_60 y_56.1, .row (t_Gdiff_Leq).o 39 v_62 y_56.2.1, .cell c_82 [.int .i64 x_78.Kind, .int .i64 x_78.Var, .int .i64 x_78.K, .int .i64 x_78.Block], .cell c_24 [v_20], .row ((tInt .i64)).o 2 v_20 y_56.2.2, .cell c_64 [v_75]] rfl Try.pu23 Try.pi33 rfl rfl rfl rfl rfl rfl (source_copy (s := (⟨[r_85], true⟩ : Sl Gheap_Sym)) 1 rfl) ?_)
          intro s_98 v_97 hs_99
          refine ⟨.inl (.inl rfl), ?_⟩
          refine J_row_one 0 rfl fun h_101 => ?_
          refine JA_op (i := 10) (by kernel_rfl) rfl rfl (op_store_priv (a := c_64) (off := 0) (vs := [v_97]) (cs' := [v_97]) (PV' := [.row (t_Gheap_Sym).o 33 v_97 s_98, .row (t_Gheap_Sym).o 33 v_94 (⟨[r_85], true⟩ : Sl Gheap_Sym), .cell c_10 [v_60, .int .i64 x_71.1, v_62], .row o_Gheap_Chunk 49 v_60 y_56.1, .row (t_Gdiff_Leq).o 39 v_62 y_56.2.1, .cell c_82 [.int .i64 x_78.Kind, .int .i64 x_78.Var, .int .i64 x_78.K, .int .i64 x_78.Block], .cell c_24 [v_20], .row ((tInt .i64)).o 2 v_20 y_56.2.2, .cell c_64 [v_97]]) 8 Try.pi23 rfl (one_cells h_101) rfl ⟨h_101, trivial⟩ rfl rfl rfl rfl rfl ?_)
          refine ⟨.inl (.inr rfl), ?_⟩
          refine JA_done (by kernel_rfl) ?_
          refine J_in_normal ?_
          refine J_then ?_
          refine J_region ?_
          refine JL_op rfl (op_read rfl rfl (r_add rfl rfl) ?_)
          refine JL_op rfl (op_read rfl rfl (r_move (v := .int .i64 (IntKind.i64.wrap (x_71.2.2 + 1))) rfl) ?_)
          refine JL_nil ?_
          refine J_keep [true, false, true, true, true, false, true, true, true] ?_
          refine J_front [5, 5] ?_
          refine J_front [3, 3, 3, 3] ?_
          refine J_next _ ?_ ⟨v_97, rfl, rfl, rfl⟩
          exact ⟨rfl, rfl, rfl, rfl, rfl, rfl, rfl, trivial⟩
        · refine J_exit ?_
          refine J_then_exit ?_
          refine J_keep [false, false, false, true, true, true, true] ?_
          refine J_done trivial _ ?_ ⟨rfl, v_75, rfl, rfl, rfl⟩
          exact ⟨rfl, rfl, rfl, trivial⟩
      · rintro y_103 _ _ b s_108 _ ⟨rfl, ⟨v_107, rfl, rfl, rfl⟩⟩
        refine J_in_exit ?_
        refine J_then ?_
        refine J_seq ?_
        refine J_region ?_
        refine JL_op rfl (op_read rfl rfl (r_move (v := v_1) rfl) ?_)
        refine JL_op rfl (op_read rfl rfl (r_load_priv (a := c_64) (off := 0) (cs' := [v_107]) (v := v_107) 2 Try.pu23 Try.pi23 rfl rfl rfl rfl (by decide) rfl) ?_)
        refine JL_op rfl (op_read rfl rfl (r_len_row (v := v_107) 3 Try.pu23 rfl rfl) ?_)
        refine JL_op rfl (op_read rfl rfl (r_add rfl rfl) ?_)
        refine JL_op rfl (op_callN (f := 11) (fn := Try.f11) (args := [v_1, .int .i64 (IntKind.i64.wrap (y_103.len + 1))]) (post := lychgatelaw13_facts_post σ v_1 l_2 (IntKind.i64.wrap (y_103.len + 1))) 0 rfl rfl rfl Try.func11 Try.pn11 rfl rfl (fun y st hy hpre => lychgatelaw13_facts_ref st σ v_1 l_2 h_3 (IntKind.i64.wrap (y_103.len + 1)) hpre y hy) ?_)
        intro r_109 v_111 s_114 PV_112 hr_110 hle_115 hp_113
        obtain ⟨v_117, rfl, rfl, rfl⟩ := hp_113
        refine JL_op rfl (op_read rfl rfl (r_assign (v := v_117) rfl) ?_)
        refine JL_nil ?_
        refine J_then ?_
        refine J_seq ?_
        refine J_region ?_
        refine JL_op rfl (op_read rfl rfl (r_move (v := v_117) rfl) ?_)
        refine JL_op rfl (op_read rfl rfl (r_load_priv (a := c_64) (off := 0) (cs' := [v_107]) (v := v_107) 3 Try.pu23 Try.pi23 rfl rfl rfl rfl (by decide) rfl) ?_)
        refine J_front [0, 3] ?_
        refine JL_op rfl (op_callN (f := 12) (fn := Try.f12) (args := [v_117, v_107]) (post := heap_Over_v2_post σ v_117 r_109 v_107 y_103) 2 rfl rfl rfl Try.func12 Try.pn12 rfl rfl (fun y st hy hpre => heap_Over_v2_ref st σ v_117 r_109 v_107 y_103 hpre y hy) ?_)
        intro r_118 v_120 s_123 PV_121 hr_119 hle_124 hp_122
        obtain ⟨v_126, rfl, rfl, rfl⟩ := hp_122
        refine JL_op rfl (op_read rfl rfl (r_assign (v := v_126) rfl) ?_)
        refine JL_nil ?_
        refine J_then ?_
        refine J_seq ?_
        refine J_seq ?_
        refine J_region ?_
        refine JL_op rfl (op_read rfl rfl (r_move (v := v_126) rfl) ?_)
        refine JL_op rfl (op_read rfl rfl (r_len_row (v := v_126) 0 Try.pu22 rfl rfl) ?_)
        refine JL_op rfl (op_read rfl rfl (r_move (v := v_117) rfl) ?_)
        refine JL_op rfl (op_read rfl rfl (r_len_row (v := v_117) 1 Try.pu22 rfl rfl) ?_)
        refine JL_op rfl (op_read rfl rfl (r_neq rfl rfl) ?_)
        refine JL_nil ?_
        refine J_then ?_
        refine J_cond rfl (fun hc_127 => ?_) (fun hc_127 => ?_)
        · refine J_seq ?_
          refine J_region ?_
          refine JL_op rfl (op_read rfl rfl (r_assign (v := .bool false) rfl) ?_)
          refine JL_nil ?_
          refine J_then ?_
          refine J_ret ?_
          refine J_then_ret ?_
          exact J_returnV1 (PV' := []) rfl rv_tmp [] (by decide) rfl ⟨rfl, rfl, rfl⟩
        · refine J_skip ?_
          refine J_then ?_
          refine J_seq ?_
          refine J_region ?_
          refine JL_op rfl (op_read rfl rfl (r_makeFunc (fs := []) (cs := [.pointer (some (Addr.add c_24 0)), .pointer (some (Addr.add c_64 0))]) rfl rfl) ?_)
          refine JL_op rfl (op_read rfl rfl (r_assign (v := .func (.func 13) #[] #[.pointer (some (Addr.add c_24 0)), .pointer (some (Addr.add c_64 0))]) rfl) ?_)
          refine JL_nil ?_
          refine J_then ?_
          refine J_seq ?_
          refine J_seq ?_
          refine J_region ?_
          refine JL_op rfl (op_read rfl rfl (r_move (v := v_117) rfl) ?_)
          refine JL_op rfl (op_read rfl rfl (r_len_row (v := v_117) 1 Try.pu22 rfl rfl) ?_)
          refine JL_op rfl (op_read rfl rfl (r_move (v := .int .i64 0) rfl) ?_)
          refine JL_nil ?_
          refine J_then ?_
          refine J_block ?_
          refine J_front [2] ?_
          refine J_front [3, 3, 1, 2] ?_
          refine J_loop (fun (y : Int) L τ PV => σ = τ ∧ L = [(8, .pointer (some (Addr.add c_24 0))), (13, v_126), (14, .func (.func 13) #[] #[.pointer (some (Addr.add c_24 0)), .pointer (some (Addr.add c_64 0))]), (84, v_117), (85, .int .i64 r_109.len), (86, .int .i64 y)] ∧ PV = [.cell c_24 [v_20], .row ((tInt .i64)).o 2 v_20 y_56.2.2, .row (t_Gdiff_Leq).o 39 v_126 r_118, .cell c_64 [v_107], .row (t_Gheap_Sym).o 33 v_107 y_103, .row (t_Gdiff_Leq).o 39 v_117 r_109]) (fun (y : W2 Unit Unit) e L τ PV => match y, e with | .a y, e => e = .exit 4 ∧ (σ = τ ∧ L = [] ∧ PV = []) | .b y, e => e = .ret ∧ (σ = τ ∧ L = [(6, .bool false)] ∧ PV = [])) _ ?_ ⟨rfl, rfl, rfl⟩ ?_ ?_
          · exact ⟨rfl, rfl, rfl, rfl, rfl, rfl, trivial⟩
          · rintro x_128 _ b s_131 _ ⟨rfl, rfl, rfl⟩
            unfold lychgatelaw13_HeapOver_L3
            refine J_seq ?_
            refine J_region ?_
            refine JL_op rfl (op_read rfl rfl (r_lss rfl rfl) ?_)
            refine JL_nil ?_
            refine J_then ?_
            refine J_seq ?_
            refine J_cond rfl (fun hc_132 => ?_) (fun hc_132 => ?_)
            · refine J_skip ?_
              refine J_then ?_
              refine J_seq ?_
              refine J_block ?_
              refine J_seq ?_
              refine J_region ?_
              refine JL_op rfl (op_read rfl rfl (r_move (v := .int .i64 x_128) rfl) ?_)
              refine J_bind fun x_133 hx_134 => ?_
              refine JL_op rfl (op_read rfl rfl (r_index_row (v := v_117) (T := (t_Gdiff_Leq).o) (q := x_133) 5 Try.pu22 Try.pi39 rfl rfl rfl rfl hx_134) ?_)
              refine JL_op rfl (op_reads rfl rfl (l_elem_orow (v := v_117) (T := (t_Gdiff_Leq).o) (Tf := t_Gdiff_Leq) (q := x_133) (i := x_128) (off := 0) 5 Try.pu39 Try.pi39 rfl rfl rfl rfl hx_134 (OFieldAt.self (T := (t_Gdiff_Leq).o)) (by decide)) ?_)
              intro v_135 h_136
              obtain rfl := t_Gdiff_Leq_v.1 h_136
              refine JL_op rfl (op_alloc (cs := [.int .i64 0, .int .i64 0, .int .i64 0]) rfl Try.pi39 rfl rfl ?_)
              intro c_137
              refine JL_op rfl (op_read rfl rfl (r_assign (v := .int .i64 x_128) rfl) ?_)
              refine JL_op rfl (op_store_priv (a := c_137) (off := 0) (vs := [.int .i64 x_133.X, .int .i64 x_133.Y, .int .i64 x_133.C]) (cs' := [.int .i64 x_133.X, .int .i64 x_133.Y, .int .i64 x_133.C]) (PV' := [.cell c_137 [.int .i64 x_133.X, .int .i64 x_133.Y, .int .i64 x_133.C], .cell c_24 [v_20], .row ((tInt .i64)).o 2 v_20 y_56.2.2, .row (t_Gdiff_Leq).o 39 v_126 r_118, .cell c_64 [v_107], .row (t_Gheap_Sym).o 33 v_107 y_103, .row (t_Gdiff_Leq).o 39 v_117 r_109]) 0 Try.pi39 rfl rfl rfl ⟨rfl, rfl, rfl, trivial⟩ rfl rfl rfl rfl rfl ?_)
              refine JL_nil ?_
              refine J_then ?_
              refine J_seq ?_
              refine J_region ?_
              refine JL_op rfl (op_read rfl rfl (r_move (v := v_126) rfl) ?_)
              refine JL_op rfl (op_read rfl rfl (r_move (v := .int .i64 x_128) rfl) ?_)
              refine J_bind fun x_139 hx_140 => ?_
              refine JL_op rfl (op_read rfl rfl (r_index_row (v := v_126) (T := (t_Gdiff_Leq).o) (q := x_139) 3 Try.pu22 Try.pi39 rfl rfl rfl rfl hx_140) ?_)
              refine JL_op rfl (op_reads rfl rfl (l_elem_orow (v := v_126) (T := (t_Gdiff_Leq).o) (Tf := t_Gdiff_Leq) (q := x_139) (i := x_128) (off := 0) 3 Try.pu39 Try.pi39 rfl rfl rfl rfl hx_140 (OFieldAt.self (T := (t_Gdiff_Leq).o)) (by decide)) ?_)
              intro v_141 h_142
              obtain rfl := t_Gdiff_Leq_v.1 h_142
              refine JL_op rfl (op_alloc (cs := [.int .i64 0, .int .i64 0, .int .i64 0]) rfl Try.pi39 rfl rfl ?_)
              intro c_143
              refine JL_op rfl (op_store_priv (a := c_143) (off := 0) (vs := [.int .i64 x_139.X, .int .i64 x_139.Y, .int .i64 x_139.C]) (cs' := [.int .i64 x_139.X, .int .i64 x_139.Y, .int .i64 x_139.C]) (PV' := [.cell c_143 [.int .i64 x_139.X, .int .i64 x_139.Y, .int .i64 x_139.C], .cell c_137 [.int .i64 x_133.X, .int .i64 x_133.Y, .int .i64 x_133.C], .cell c_24 [v_20], .row ((tInt .i64)).o 2 v_20 y_56.2.2, .row (t_Gdiff_Leq).o 39 v_126 r_118, .cell c_64 [v_107], .row (t_Gheap_Sym).o 33 v_107 y_103, .row (t_Gdiff_Leq).o 39 v_117 r_109]) 0 Try.pi39 rfl rfl rfl ⟨rfl, rfl, rfl, trivial⟩ rfl rfl rfl rfl rfl ?_)
              refine JL_nil ?_
              refine J_then ?_
              refine J_seq ?_
              refine J_region_any 27 [.cell c_143 [.int .i64 x_139.X, .int .i64 x_139.Y, .int .i64 x_139.C], .cell c_137 [.int .i64 x_133.X, .int .i64 x_133.Y, .int .i64 x_133.C], .cell c_24 [v_20], .row ((tInt .i64)).o 2 v_20 y_56.2.2, .row (t_Gdiff_Leq).o 39 v_126 r_118, .cell c_64 [v_107], .row (t_Gheap_Sym).o 33 v_107 y_103, .row (t_Gdiff_Leq).o 39 v_117 r_109] Try.mixed (by kernel_rfl) fun hns => ?_
              refine JA_takep 0 rfl hns (by kernel_rfl) (by kernel_rfl) rfl (.inr (by exact HeldOK.same [0, 1, 2, 3, 4, 5, 6, 7] (by decide) rfl)) rfl rfl rfl (r_move (v := .func (.func 13) #[] #[.pointer (some (Addr.add c_24 0)), .pointer (some (Addr.add c_64 0))]) rfl) ?_
              refine JA_takep 1 rfl hns (by kernel_rfl) (by kernel_rfl) rfl (.inr (by exact HeldOK.same [0, 1, 2, 3, 4, 5, 6, 7] (by decide) rfl)) rfl rfl rfl (r_fieldAddr (r := Addr.add c_137 0) Try.pu39 (f := Try.pf39.getD 0 default) rfl Try.pi3 (by decide) rfl (Addr.add_add _ _ _)) ?_
              refine JA_take 2 rfl hns (by kernel_rfl) (by kernel_rfl) (by kernel_rfl) rfl (by kernel_rfl) (by exact HeldOK.same [0, 1, 2, 3, 4, 5, 6, 7] (by decide) rfl) rfl rfl rfl (r_load_priv (a := c_137) (off := 0) (cs' := [.int .i64 x_133.X]) (v := .int .i64 x_133.X) 1 Try.pu3 Try.pi3 rfl rfl rfl rfl (by decide) rfl) ?_
              refine JA_takep 4 rfl hns (by kernel_rfl) (by kernel_rfl) rfl (.inr (by exact HeldOK.same [0, 1, 2, 3, 4, 5, 6, 7] (by decide) rfl)) rfl rfl rfl (r_move (v := .func (.func 13) #[] #[.pointer (some (Addr.add c_24 0)), .pointer (some (Addr.add c_64 0))]) rfl) ?_
              refine JA_takep 5 rfl hns (by kernel_rfl) (by kernel_rfl) rfl (.inr (by exact HeldOK.same [0, 1, 2, 3, 4, 5, 6, 7] (by decide) rfl)) rfl rfl rfl (r_fieldAddr (r := Addr.add c_137 1) Try.pu39 (f := Try.pf39.getD 1 default) rfl Try.pi3 (by decide) rfl (Addr.add_add _ _ _)) ?_
              refine JA_take 6 rfl hns (by kernel_rfl) (by kernel_rfl) (by kernel_rfl) rfl (by kernel_rfl) (by exact HeldOK.same [0, 1, 2, 3, 4, 5, 6, 7] (by decide) rfl) rfl rfl rfl (r_load_priv (a := c_137) (off := 1) (cs' := [.int .i64 x_133.Y]) (v := .int .i64 x_133.Y) 1 Try.pu3 Try.pi3 rfl rfl rfl rfl (by decide) rfl) ?_
              refine JA_takep 9 rfl hns (by kernel_rfl) (by kernel_rfl) rfl (.inr (by exact HeldOK.same [0, 1, 2, 3, 4, 5, 6, 7] (by decide) rfl)) rfl rfl rfl (r_fieldAddr (r := Addr.add c_137 2) Try.pu39 (f := Try.pf39.getD 2 default) rfl Try.pi2 (by decide) rfl (Addr.add_add _ _ _)) ?_
              refine JA_take 10 rfl hns (by kernel_rfl) (by kernel_rfl) (by kernel_rfl) rfl (by kernel_rfl) (by exact HeldOK.same [0, 1, 2, 3, 4, 5, 6, 7] (by decide) rfl) rfl rfl rfl (r_load_priv (a := c_137) (off := 2) (cs' := [.int .i64 x_133.C]) (v := .int .i64 x_133.C) 1 Try.pu2 Try.pi2 rfl rfl rfl rfl (by decide) rfl) ?_
              refine JA_take 12 rfl hns (by kernel_rfl) (by kernel_rfl) (by kernel_rfl) rfl (by kernel_rfl) (by exact HeldOK.same [0, 1, 2, 3, 4, 5, 6, 7] (by decide) rfl) rfl rfl rfl (r_load_priv (a := c_24) (off := 0) (cs' := [v_20]) (v := v_20) 2 Try.pu24 Try.pi24 rfl rfl rfl rfl (by decide) rfl) ?_
              refine JA_takep 13 rfl hns (by kernel_rfl) (by kernel_rfl) rfl (.inr (by exact HeldOK.same [0, 1, 2, 3, 4, 5, 6, 7] (by decide) rfl)) rfl rfl rfl (r_fieldAddr (r := Addr.add c_143 0) Try.pu39 (f := Try.pf39.getD 0 default) rfl Try.pi3 (by decide) rfl (Addr.add_add _ _ _)) ?_
              refine JA_take 14 rfl hns (by kernel_rfl) (by kernel_rfl) (by kernel_rfl) rfl (by kernel_rfl) (by exact HeldOK.same [0, 1, 2, 3, 4, 5, 6, 7] (by decide) rfl) rfl rfl rfl (r_load_priv (a := c_143) (off := 0) (cs' := [.int .i64 x_139.X]) (v := .int .i64 x_139.X) 0 Try.pu3 Try.pi3 rfl rfl rfl rfl (by decide) rfl) ?_
              refine J_bind fun x_146 hx_147 => ?_
              refine JA_take 15 rfl hns (by kernel_rfl) (by kernel_rfl) (by kernel_rfl) rfl (by kernel_rfl) (by exact HeldOK.same [0, 1, 2, 3, 4, 5, 6, 7] (by decide) rfl) rfl rfl rfl (r_index_row (v := v_20) (T := ((tInt .i64)).o) (q := x_146) 3 Try.pu24 Try.pi2 rfl rfl rfl rfl hx_147) ?_
              refine JA_takes 16 rfl hns (by kernel_rfl) (by kernel_rfl) (by kernel_rfl) rfl (by kernel_rfl) (by exact HeldOK.same [0, 1, 2, 3, 4, 5, 6, 7] (by decide) rfl) rfl rfl rfl (l_elem_orow (v := v_20) (T := ((tInt .i64)).o) (Tf := (tInt .i64)) (q := x_146) (i := x_139.X) (off := 0) 3 Try.pu2 Try.pi2 rfl rfl rfl rfl hx_147 (OFieldAt.self (T := ((tInt .i64)).o)) (by decide)) ?_
              intro v_148 h_149
              obtain rfl := tInt_v.1 h_149
              refine JA_take 17 rfl hns (by kernel_rfl) (by kernel_rfl) (by kernel_rfl) rfl (by kernel_rfl) (by exact HeldOK.same [0, 1, 2, 3, 4, 5, 6, 7] (by decide) rfl) rfl rfl rfl (r_load_priv (a := c_24) (off := 0) (cs' := [v_20]) (v := v_20) 2 Try.pu24 Try.pi24 rfl rfl rfl rfl (by decide) rfl) ?_
              refine JA_takep 18 rfl hns (by kernel_rfl) (by kernel_rfl) rfl (.inr (by exact HeldOK.same [0, 1, 2, 3, 4, 5, 6, 7] (by decide) rfl)) rfl rfl rfl (r_fieldAddr (r := Addr.add c_143 1) Try.pu39 (f := Try.pf39.getD 1 default) rfl Try.pi3 (by decide) rfl (Addr.add_add _ _ _)) ?_
              refine JA_take 19 rfl hns (by kernel_rfl) (by kernel_rfl) (by kernel_rfl) rfl (by kernel_rfl) (by exact HeldOK.same [0, 1, 2, 3, 4, 5, 6, 7] (by decide) rfl) rfl rfl rfl (r_load_priv (a := c_143) (off := 1) (cs' := [.int .i64 x_139.Y]) (v := .int .i64 x_139.Y) 0 Try.pu3 Try.pi3 rfl rfl rfl rfl (by decide) rfl) ?_
              refine J_bind fun x_150 hx_151 => ?_
              refine JA_take 20 rfl hns (by kernel_rfl) (by kernel_rfl) (by kernel_rfl) rfl (by kernel_rfl) (by exact HeldOK.same [0, 1, 2, 3, 4, 5, 6, 7] (by decide) rfl) rfl rfl rfl (r_index_row (v := v_20) (T := ((tInt .i64)).o) (q := x_150) 3 Try.pu24 Try.pi2 rfl rfl rfl rfl hx_151) ?_
              refine JA_takes 21 rfl hns (by kernel_rfl) (by kernel_rfl) (by kernel_rfl) rfl (by kernel_rfl) (by exact HeldOK.same [0, 1, 2, 3, 4, 5, 6, 7] (by decide) rfl) rfl rfl rfl (l_elem_orow (v := v_20) (T := ((tInt .i64)).o) (Tf := (tInt .i64)) (q := x_150) (i := x_139.Y) (off := 0) 3 Try.pu2 Try.pi2 rfl rfl rfl rfl hx_151 (OFieldAt.self (T := ((tInt .i64)).o)) (by decide)) ?_
              intro v_152 h_153
              obtain rfl := tInt_v.1 h_153
              refine JA_takep 22 rfl hns (by kernel_rfl) (by kernel_rfl) rfl (.inr (by exact HeldOK.same [0, 1, 2, 3, 4, 5, 6, 7] (by decide) rfl)) rfl rfl rfl (r_sub rfl rfl) ?_
              refine JA_takep 23 rfl hns (by kernel_rfl) (by kernel_rfl) rfl (.inr (by exact HeldOK.same [0, 1, 2, 3, 4, 5, 6, 7] (by decide) rfl)) rfl rfl rfl (r_fieldAddr (r := Addr.add c_143 2) Try.pu39 (f := Try.pf39.getD 2 default) rfl Try.pi2 (by decide) rfl (Addr.add_add _ _ _)) ?_
              refine JA_take 24 rfl hns (by kernel_rfl) (by kernel_rfl) (by kernel_rfl) rfl (by kernel_rfl) (by exact HeldOK.same [0, 1, 2, 3, 4, 5, 6, 7] (by decide) rfl) rfl rfl rfl (r_load_priv (a := c_143) (off := 2) (cs' := [.int .i64 x_139.C]) (v := .int .i64 x_139.C) 0 Try.pu2 Try.pi2 rfl rfl rfl rfl (by decide) rfl) ?_
              refine JA_takep 25 rfl hns (by kernel_rfl) (by kernel_rfl) rfl (.inr (by exact HeldOK.same [0, 1, 2, 3, 4, 5, 6, 7] (by decide) rfl)) rfl rfl rfl (r_leq rfl rfl) ?_
              refine J_front [2, 2, 3, 3] ?_
              refine JA_op (i := 3) (by kernel_rfl) rfl rfl (op_callN (f := 13) (fn := Try.f13) (args := [.int .i64 x_133.X, .pointer (some (Addr.add c_24 0)), .pointer (some (Addr.add c_64 0))]) (post := lychgatelaw13_HeapOver_1_post σ x_133.X c_24 v_20 y_56.2.2 c_64 v_107 y_103) 4 rfl rfl rfl Try.func13 Try.pn13 rfl rfl (fun y st hy hpre => lychgatelaw13_HeapOver_1_ref st σ x_133.X c_24 v_20 y_56.2.2 c_64 v_107 y_103 hpre y hy) ?_)
              intro r_154 v_156 s_159 PV_157 hr_155 hle_160 hp_158
              obtain ⟨rfl, rfl, rfl⟩ := hp_158
              refine ⟨.inr (by exact HeldOK.same [4, 5, 0, 1, 6, 2, 3, 7] (by decide) rfl), ?_⟩
              refine JA_op (i := 7) (by kernel_rfl) rfl rfl (op_callN (f := 13) (fn := Try.f13) (args := [.int .i64 x_133.Y, .pointer (some (Addr.add c_24 0)), .pointer (some (Addr.add c_64 0))]) (post := lychgatelaw13_HeapOver_1_post σ x_133.Y c_24 v_20 y_56.2.2 c_64 v_107 y_103) 4 rfl rfl rfl Try.func13 Try.pn13 rfl rfl (fun y st hy hpre => lychgatelaw13_HeapOver_1_ref st σ x_133.Y c_24 v_20 y_56.2.2 c_64 v_107 y_103 hpre y hy) ?_)
              intro r_163 v_165 s_168 PV_166 hr_164 hle_169 hp_167
              obtain ⟨rfl, rfl, rfl⟩ := hp_167
              refine ⟨.inr (by exact HeldOK.same [4, 5, 0, 1, 6, 2, 3, 7] (by decide) rfl), ?_⟩
              refine JA_takep 8 rfl hns (by kernel_rfl) (by kernel_rfl) rfl (.inr (by exact HeldOK.same [4, 5, 0, 1, 6, 2, 3, 7] (by decide) rfl)) rfl rfl rfl (r_sub rfl rfl) ?_
              refine JA_takep 11 rfl hns (by kernel_rfl) (by kernel_rfl) rfl (.inr (by exact HeldOK.same [4, 5, 0, 1, 6, 2, 3, 7] (by decide) rfl)) rfl rfl rfl (r_leq rfl rfl) ?_
              refine JA_takep 26 rfl hns (by kernel_rfl) (by kernel_rfl) rfl (.inr (by exact HeldOK.same [4, 5, 0, 1, 6, 2, 3, 7] (by decide) rfl)) rfl rfl rfl (r_bneq Try.pu4 rfl rfl) ?_
              refine JA_done (by kernel_rfl) ?_
              refine J_then ?_
              refine J_cond rfl (fun hc_171 => ?_) (fun hc_171 => ?_)
              · refine J_seq ?_
                refine J_region ?_
                refine JL_op rfl (op_read rfl rfl (r_assign (v := .bool false) rfl) ?_)
                refine JL_nil ?_
                refine J_then ?_
                refine J_ret ?_
                refine J_in_ret ?_
                refine J_then_ret ?_
                refine J_keep [false, false, false, false, false, false, false, false] ?_
                refine J_done trivial _ ?_ ⟨rfl, rfl, rfl, rfl⟩
                exact ⟨rfl, trivial⟩
              · refine J_skip ?_
                refine J_in_normal ?_
                refine J_then ?_
                refine J_region ?_
                refine JL_op rfl (op_read rfl rfl (r_add rfl rfl) ?_)
                refine JL_op rfl (op_read rfl rfl (r_move (v := .int .i64 (IntKind.i64.wrap (x_128 + 1))) rfl) ?_)
                refine JL_nil ?_
                refine J_keep [true, true, true, true, false, false, true, true] ?_
                refine J_front [0, 0, 2] ?_
                refine J_next _ ?_ ⟨rfl, rfl, rfl⟩
                exact ⟨rfl, rfl, rfl, rfl, rfl, rfl, trivial⟩
            · refine J_exit ?_
              refine J_then_exit ?_
              refine J_keep [false, false, false, false, false, false] ?_
              refine J_done trivial _ ?_ ⟨rfl, rfl, rfl, rfl⟩
              exact trivial
          · rintro (y_173 | y_177) e L b τ PV ht
            · obtain ⟨rfl, ht⟩ := ht
              revert ht; revert PV; revert τ; revert b; revert L
              rintro _ b s_176 _ ⟨rfl, rfl, rfl⟩
              refine J_in_exit ?_
              refine J_then ?_
              refine J_seq ?_
              refine J_region ?_
              refine JL_op rfl (op_read rfl rfl (r_assign (v := .bool true) rfl) ?_)
              refine JL_nil ?_
              refine J_then ?_
              refine J_ret ?_
              exact J_returnV1 (PV' := []) rfl rv_tmp [] (by decide) rfl ⟨rfl, rfl, rfl⟩
            · obtain ⟨rfl, ht⟩ := ht
              revert ht; revert PV; revert τ; revert b; revert L
              rintro _ b s_180 _ ⟨rfl, rfl, rfl⟩
              refine J_in_ret ?_
              refine J_then_ret ?_
              exact J_returnV1 (PV' := []) rfl rv_tmp [] (by decide) rfl ⟨rfl, rfl, rfl⟩
end Go.Px
