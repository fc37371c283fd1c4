/- The calls do what the models say, part 2. -/
import Derived.Test.YtdpnogldgiomnaaRf1
namespace Go.Px
open Go.Proofs
set_option linter.unusedVariables false
def lychgatelaw04_DiffSolves_post (r : Bool) (σ : FS) (PV : List Priv) (v : Value) : Prop :=
  v = .bool r ∧ PV = []
set_option maxRecDepth 100000 in
theorem lychgatelaw04_DiffSolves_ref (w : World) (σ : FS) (hs : σ.sub w) (n_1 : Int) (v_3 : Value) (facts_2 : Sl Gdiff_Leq) (h_4 : (tSl t_Gdiff_Leq).vrel σ v_3 facts_2) (r : Bool) (hr : lychgatelaw04_DiffSolves n_1 facts_2 = some r) : Does Try.prog 3 [.int .i64 n_1, v_3] w σ (lychgatelaw04_DiffSolves_post r) := by
  unfold lychgatelaw04_DiffSolves at hr
  refine does_of_J Try.func3 rfl (n := 93) rfl rfl hs hr ?_
  refine J_seq ?_
  refine J_region ?_
  refine JL_op rfl (op_read rfl rfl (r_assign (v := .bool false) rfl) ?_)
  refine JL_nil ?_
  refine J_then ?_
  refine J_seq ?_
  refine J_region ?_
  refine JL_op rfl (op_read rfl rfl (r_move (v := v_3) rfl) ?_)
  refine J_nil_row t_Gdiff_Leq 37 ?_
  refine JL_op rfl (op_append (v := (.slice none 0 0)) (u := v_3) (T := t_Gdiff_Leq) (ts := facts_2.xs) 0 rfl Try.pu22 Try.pi37 rfl rfl rfl rfl rfl rfl rfl (source_frozen h_4) ?_)
  intro s_6 v_8 ha_7
  refine JL_op rfl (op_read rfl rfl (r_assign (v := v_8) rfl) ?_)
  refine JL_nil ?_
  refine J_then ?_
  refine J_seq ?_
  refine J_region ?_
  refine JL_op rfl (op_read rfl rfl (r_move (v := .int .i64 n_1) rfl) ?_)
  refine JL_op rfl (op_read rfl rfl (r_move (v := v_8) rfl) ?_)
  refine JL_op rfl (op_call_lend (f := 10) (fn := Try.f10) (args := [.int .i64 n_1, v_8]) (post := diff_Solve_post) rfl rfl rfl Try.func10 Try.pn10 rfl rfl (fun y w τ hy hle hs hrow => diff_Solve_ref w τ hs n_1 v_8 s_6 (hrow 0 _ _ _ _ _ rfl) y hy) (fun y σ' PV' v hp => by obtain ⟨_, _, rfl, rfl⟩ := hp; exact ⟨⟨inferInstance⟩, ⟨⟨inferInstance⟩, trivial⟩⟩) ?_)
  intro r_9 v_11 s_12 PV_14 hy_10 hp_15
  obtain ⟨v_16, v_18, rfl, rfl⟩ := hp_15
  refine JL_op rfl (op_read rfl rfl (r_move (v := .tuple #[v_16, v_18, .int .i64 r_9.2.2]) rfl) ?_)
  refine JL_op rfl (op_read rfl rfl (r_extract (v := v_16) rfl rfl) ?_)
  refine JL_op rfl (op_read rfl rfl (r_extract (v := v_18) rfl rfl) ?_)
  refine JL_op rfl (op_read rfl rfl (r_extract (v := .int .i64 r_9.2.2) rfl rfl) ?_)
  refine JL_op rfl (op_read rfl rfl (r_assign (v := v_16) rfl) ?_)
  refine JL_op rfl (op_read rfl rfl (r_assign (v := v_18) rfl) ?_)
  refine JL_op rfl (op_read rfl rfl (r_assign (v := .int .i64 r_9.2.2) rfl) ?_)
  refine JL_nil ?_
  refine J_then ?_
  refine J_seq ?_
  refine J_region ?_
  refine JL_op rfl (op_read rfl rfl (r_move (v := .int .i64 n_1) rfl) ?_)
  refine JL_op rfl (op_read rfl rfl (r_move (v := v_3) rfl) ?_)
  refine JL_op rfl (op_call (f := 12) (fn := Try.f12) (args := [v_3]) (post := lychgatelaw04_refs_post) rfl rfl rfl Try.func12 Try.pn12 rfl rfl (fun y w hy hs => lychgatelaw04_refs_ref w _ hs v_3 facts_2 h_4 y hy) ?_)
  intro r_20 v_22 s_23 PV_25 hy_21 hle_24 hp_26
  obtain ⟨_, rfl, rfl⟩ := hp_26
  refine JL_op rfl (op_call_lend (f := 11) (fn := Try.f11) (args := [.int .i64 n_1, v_22]) (post := lychgateref04_Fit_post) rfl rfl rfl Try.func11 Try.pn11 rfl rfl (fun y w τ hy hle hs hrow => lychgateref04_Fit_ref w τ hs n_1 v_22 r_20 (hrow 0 _ _ _ _ _ rfl) y hy) (fun y σ' PV' v hp => by obtain ⟨rfl, rfl⟩ := hp; exact trivial) ?_)
  intro r_28 v_30 s_31 PV_33 hy_29 hp_34
  obtain ⟨rfl, rfl⟩ := hp_34
  refine JL_op rfl (op_read rfl rfl (r_assign (v := .int .i64 r_28) rfl) ?_)
  refine JL_nil ?_
  refine J_then ?_
  refine J_seq ?_
  refine J_seq ?_
  refine J_region ?_
  refine JL_op rfl (op_call (f := 13) (fn := Try.f13) (args := []) (post := lychgatelaw04_wakes_post) rfl rfl rfl Try.func13 Try.pn13 rfl rfl (fun y w hy hs => lychgatelaw04_wakes_ref w _ hs  y hy) ?_)
  intro r_35 v_37 s_38 PV_40 hy_36 hle_39 hp_41
  obtain ⟨rfl, rfl⟩ := hp_41
  refine JL_op rfl (op_read rfl rfl (r_not rfl) ?_)
  refine JL_op rfl (op_read rfl rfl (r_move (v := .bool (!r_35)) rfl) ?_)
  refine J_forkL (e := (!r_35)) 4 [(0, .int .i64 n_1), (1, v_3), (6, v_16), (7, v_18), (9, .int .i64 r_28), (32, .bool (!r_35 || decide (r_9.2.2 ≠ r_28)))] (fun hc_42 hk => ?_) (fun hc_42 hk => ?_) (fun b => ?_)
  · refine JL_skip rfl rfl hc_42 rfl rfl ?_
    refine JL_skip rfl rfl hc_42 rfl rfl ?_
    refine JL_skip rfl rfl hc_42 rfl rfl ?_
    refine JL_op rfl (op_read rfl rfl (r_pick_t (v := .bool true) rfl hc_42 rfl) ?_)
    refine J_prune [(0, .int .i64 n_1), (1, v_3), (6, v_16), (7, v_18), (9, .int .i64 r_28), (32, .bool (!r_35 || decide (r_9.2.2 ≠ r_28)))] ⟨rfl, rfl, rfl, rfl, rfl, (by show Value.bool _ = Value.bool _; rw [hc_42]; rfl), trivial⟩ hk
  · refine JL_opg rfl rfl hc_42 (op_read rfl rfl (r_move (v := .int .i64 r_9.2.2) rfl) ?_)
    refine JL_opg rfl rfl hc_42 (op_read rfl rfl (r_move (v := .int .i64 r_28) rfl) ?_)
    refine JL_opg rfl rfl hc_42 (op_read rfl rfl (r_neq rfl rfl) ?_)
    refine JL_op rfl (op_read rfl rfl (r_pick_f (v := .bool (decide (r_9.2.2 ≠ r_28))) rfl hc_42 rfl) ?_)
    refine J_prune [(0, .int .i64 n_1), (1, v_3), (6, v_16), (7, v_18), (9, .int .i64 r_28), (32, .bool (!r_35 || decide (r_9.2.2 ≠ r_28)))] ⟨rfl, rfl, rfl, rfl, rfl, (by show Value.bool _ = Value.bool _; rw [hc_42]; rfl), trivial⟩ hk
  · refine JL_nil ?_
    refine J_then ?_
    refine J_cond rfl (fun hc_43 => ?_) (fun hc_43 => ?_)
    · refine J_seq ?_
      refine J_region ?_
      refine JL_op rfl (op_read rfl rfl (r_assign (v := .bool false) rfl) ?_)
      refine JL_nil ?_
      refine J_then ?_
      refine J_ret ?_
      refine J_then_ret ?_
      refine J_select (PV' := []) [] (by decide) rfl ?_
      exact J_return1 rfl ⟨rfl, rfl⟩
    · refine J_skip ?_
      refine J_then ?_
      refine J_seq ?_
      refine J_seq ?_
      refine J_region ?_
      refine JL_op rfl (op_read rfl rfl (r_move (v := .int .i64 r_28) rfl) ?_)
      refine JL_op rfl (op_read rfl rfl (r_neq rfl rfl) ?_)
      refine JL_nil ?_
      refine J_then ?_
      refine J_cond rfl (fun hc_44 => ?_) (fun hc_44 => ?_)
      · refine J_seq ?_
        refine J_region ?_
        refine JL_op rfl (op_read rfl rfl (r_move (v := v_16) rfl) ?_)
        refine JL_op rfl (op_read rfl rfl (r_len_row (v := v_16) 1 Try.pu23 rfl rfl) ?_)
        refine JL_op rfl (op_read rfl rfl (r_eql rfl rfl) ?_)
        refine JL_op rfl (op_read rfl rfl (r_move (v := .bool (decide (r_9.1.len = 0))) rfl) ?_)
        refine J_forkL (e := (decide (r_9.1.len = 0))) 4 [(42, .bool (decide (r_9.1.len = 0) && decide (r_9.2.1.len = 0)))] (fun hc_45 hk => ?_) (fun hc_45 hk => ?_) (fun b => ?_)
        · refine JL_opg rfl rfl hc_45 (op_read rfl rfl (r_move (v := v_18) rfl) ?_)
          refine JL_opg rfl rfl hc_45 (op_read rfl rfl (r_len_row (v := v_18) 2 Try.pu24 rfl rfl) ?_)
          refine JL_opg rfl rfl hc_45 (op_read rfl rfl (r_eql rfl rfl) ?_)
          refine JL_op rfl (op_read rfl rfl (r_pick_t (v := .bool (decide (r_9.2.1.len = 0))) rfl hc_45 rfl) ?_)
          refine J_prune [(42, .bool (decide (r_9.1.len = 0) && decide (r_9.2.1.len = 0)))] ⟨(by show Value.bool _ = Value.bool _; rw [hc_45]; rfl), trivial⟩ hk
        · refine JL_skip rfl rfl hc_45 rfl rfl ?_
          refine JL_skip rfl rfl hc_45 rfl rfl ?_
          refine JL_skip rfl rfl hc_45 rfl rfl ?_
          refine JL_op rfl (op_read rfl rfl (r_pick_f (v := .bool false) rfl hc_45 rfl) ?_)
          refine J_prune [(42, .bool (decide (r_9.1.len = 0) && decide (r_9.2.1.len = 0)))] ⟨(by show Value.bool _ = Value.bool _; rw [hc_45]; rfl), trivial⟩ hk
        · refine JL_op rfl (op_read rfl rfl (r_assign (v := .bool (decide (r_9.1.len = 0) && decide (r_9.2.1.len = 0))) rfl) ?_)
          refine JL_nil ?_
          refine J_then ?_
          refine J_ret ?_
          refine J_then_ret ?_
          refine J_select (PV' := []) [] (by decide) rfl ?_
          exact J_return1 rfl ⟨rfl, rfl⟩
      · refine J_skip ?_
        refine J_then ?_
        refine J_seq ?_
        refine J_seq ?_
        refine J_region ?_
        refine JL_op rfl (op_read rfl rfl (r_move (v := .int .i64 n_1) rfl) ?_)
        refine JL_op rfl (op_read rfl rfl (r_gtr rfl rfl) ?_)
        refine JL_nil ?_
        refine J_then ?_
        refine J_cond rfl (fun hc_46 => ?_) (fun hc_46 => ?_)
        · refine J_seq ?_
          refine J_region ?_
          refine JL_op rfl (op_read rfl rfl (r_assign (v := .bool true) rfl) ?_)
          refine JL_nil ?_
          refine J_then ?_
          refine J_ret ?_
          refine J_then_ret ?_
          refine J_select (PV' := []) [] (by decide) rfl ?_
          exact J_return1 rfl ⟨rfl, rfl⟩
        · refine J_skip ?_
          refine J_then ?_
          refine J_seq ?_
          refine J_region ?_
          refine JL_op rfl (op_read rfl rfl (r_move (v := .int .i64 n_1) rfl) ?_)
          refine JL_op rfl (op_read rfl rfl (r_move (v := v_3) rfl) ?_)
          refine JL_op rfl (op_call (f := 12) (fn := Try.f12) (args := [v_3]) (post := lychgatelaw04_refs_post) rfl rfl rfl Try.func12 Try.pn12 rfl rfl (fun y w hy hs => lychgatelaw04_refs_ref w _ hs v_3 facts_2 (Ty.vmono _ (FS.le.trans hle_24 hle_39) h_4) y hy) ?_)
          intro r_47 v_49 s_50 PV_52 hy_48 hle_51 hp_53
          obtain ⟨_, rfl, rfl⟩ := hp_53
          refine JL_op rfl (op_call_lend (f := 14) (fn := Try.f14) (args := [.int .i64 n_1, v_49]) (post := lychgateref04_Plain_post) rfl rfl rfl Try.func14 Try.pn14 rfl rfl (fun y w τ hy hle hs hrow => lychgateref04_Plain_ref w τ hs n_1 v_49 r_47 (hrow 0 _ _ _ _ _ rfl) y hy) (fun y σ' PV' v hp => by obtain ⟨_, rfl, rfl⟩ := hp; exact ⟨⟨inferInstance⟩, trivial⟩) ?_)
          intro r_55 v_57 s_58 PV_60 hy_56 hp_61
          obtain ⟨v_62, rfl, rfl⟩ := hp_61
          refine JL_op rfl (op_read rfl rfl (r_move (v := .tuple #[v_62, .bool r_55.2]) rfl) ?_)
          refine JL_op rfl (op_read rfl rfl (r_extract (v := v_62) rfl rfl) ?_)
          refine JL_op rfl (op_read rfl rfl (r_extract (v := .bool r_55.2) rfl rfl) ?_)
          refine JL_op rfl (op_read rfl rfl (r_assign (v := v_62) rfl) ?_)
          refine JL_op rfl (op_read rfl rfl (r_assign (v := .bool r_55.2) rfl) ?_)
          refine JL_nil ?_
          refine J_then ?_
          refine J_seq ?_
          refine J_seq ?_
          refine J_region ?_
          refine JL_op rfl (op_read rfl rfl (r_move (v := .bool r_55.2) rfl) ?_)
          refine JL_op rfl (op_read rfl rfl (r_not rfl) ?_)
          refine JL_nil ?_
          refine J_then ?_
          refine J_cond rfl (fun hc_64 => ?_) (fun hc_64 => ?_)
          · refine J_seq ?_
            refine J_region ?_
            refine JL_op rfl (op_read rfl rfl (r_move (v := v_16) rfl) ?_)
            refine JL_op rfl (op_read rfl rfl (r_len_row (v := v_16) 3 Try.pu23 rfl rfl) ?_)
            refine JL_op rfl (op_read rfl rfl (r_eql rfl rfl) ?_)
            refine JL_op rfl (op_read rfl rfl (r_move (v := .bool (decide (r_9.1.len = 0))) rfl) ?_)
            refine J_forkLB (e := (decide (r_9.1.len = 0))) 4 (fun (b_66 : Bool) L τ PV => s_50.le τ ∧ L = [(0, .int .i64 n_1), (7, v_18), (61, .bool b_66)] ∧ PV = [.row Int (tInt .i64) 2 v_62 r_55.1, .row Glychgateref04_Leq t_Glychgateref04_Leq 41 v_49 r_47, .row Glychgateref04_Leq t_Glychgateref04_Leq 41 v_22 r_20, .row Int (tInt .i64) 2 v_16 r_9.1, .row Int (tInt .i64) 3 v_18 r_9.2.1, .row Gdiff_Leq t_Gdiff_Leq 37 v_8 s_6]) (fun hc_65 hk => ?_) (fun hc_65 hk => ?_) ?_
            · refine JL_opg rfl rfl hc_65 (op_read rfl rfl (r_move (v := v_3) rfl) ?_)
              refine JL_opg rfl rfl hc_65 (op_read rfl rfl (r_move (v := v_18) rfl) ?_)
              refine J_assoc ?_
              refine JL_opg rfl rfl hc_65 (op_call_lend (f := 15) (fn := Try.f15) (args := [v_3, v_18]) (post := lychgatelaw04_circle_post) rfl rfl rfl Try.func15 Try.pn15 rfl rfl (fun y w τ hy hle hs hrow => lychgatelaw04_circle_ref w τ hs v_3 facts_2 (Ty.vmono _ hle (Ty.vmono _ (FS.le.trans (FS.le.trans hle_24 hle_39) hle_51) h_4)) v_18 r_9.2.1 (hrow 4 _ _ _ _ _ rfl) y hy) (fun y σ' PV' v hp => by obtain ⟨rfl, rfl⟩ := hp; exact trivial) ?_)
              intro r_67 v_69 s_70 PV_72 hy_68 hp_73
              obtain ⟨rfl, rfl⟩ := hp_73
              refine JL_op rfl (op_read rfl rfl (r_pick_t (v := .bool r_67) rfl hc_65 rfl) ?_)
              refine J_prune _ ?_ fun b => hk r_67 _ b _ _ ⟨(FS.le.refl _), rfl, rfl⟩
              exact ⟨rfl, rfl, rfl, trivial⟩
            · refine JL_skip rfl rfl hc_65 rfl rfl ?_
              refine JL_skip rfl rfl hc_65 rfl rfl ?_
              refine JL_skip rfl rfl hc_65 rfl rfl ?_
              refine JL_op rfl (op_read rfl rfl (r_pick_f (v := .bool false) rfl hc_65 rfl) ?_)
              refine J_prune _ ?_ fun b => hk false _ b _ _ ⟨(FS.le.refl _), rfl, rfl⟩
              exact ⟨rfl, rfl, rfl, trivial⟩
            · rintro b_66 _ b s_74 _ ⟨hle_75, rfl, rfl⟩
              refine JL_op rfl (op_read rfl rfl (r_move (v := .bool b_66) rfl) ?_)
              refine J_forkL (e := b_66) 5 [(67, .bool (b_66 && decide (r_9.2.1.len ≤ n_1)))] (fun hc_76 hk => ?_) (fun hc_76 hk => ?_) (fun b => ?_)
              · refine JL_opg rfl rfl hc_76 (op_read rfl rfl (r_move (v := v_18) rfl) ?_)
                refine JL_opg rfl rfl hc_76 (op_read rfl rfl (r_len_row (v := v_18) 4 Try.pu24 rfl rfl) ?_)
                refine JL_opg rfl rfl hc_76 (op_read rfl rfl (r_move (v := .int .i64 n_1) rfl) ?_)
                refine JL_opg rfl rfl hc_76 (op_read rfl rfl (r_leq rfl rfl) ?_)
                refine JL_op rfl (op_read rfl rfl (r_pick_t (v := .bool (decide (r_9.2.1.len ≤ n_1))) rfl hc_76 rfl) ?_)
                refine J_prune [(67, .bool (b_66 && decide (r_9.2.1.len ≤ n_1)))] ⟨(by show Value.bool _ = Value.bool _; rw [hc_76]; rfl), trivial⟩ hk
              · refine JL_skip rfl rfl hc_76 rfl rfl ?_
                refine JL_skip rfl rfl hc_76 rfl rfl ?_
                refine JL_skip rfl rfl hc_76 rfl rfl ?_
                refine JL_skip rfl rfl hc_76 rfl rfl ?_
                refine JL_op rfl (op_read rfl rfl (r_pick_f (v := .bool false) rfl hc_76 rfl) ?_)
                refine J_prune [(67, .bool (b_66 && decide (r_9.2.1.len ≤ n_1)))] ⟨(by show Value.bool _ = Value.bool _; rw [hc_76]; rfl), trivial⟩ hk
              · refine JL_op rfl (op_read rfl rfl (r_assign (v := .bool (b_66 && decide (r_9.2.1.len ≤ n_1))) rfl) ?_)
                refine JL_nil ?_
                refine J_then ?_
                refine J_ret ?_
                refine J_then_ret ?_
                refine J_select (PV' := []) [] (by decide) rfl ?_
                exact J_return1 rfl ⟨rfl, rfl⟩
          · refine J_skip ?_
            refine J_then ?_
            refine J_seq ?_
            refine J_seq ?_
            refine J_region ?_
            refine JL_op rfl (op_read rfl rfl (r_move (v := v_18) rfl) ?_)
            refine JL_op rfl (op_read rfl rfl (r_len_row (v := v_18) 4 Try.pu24 rfl rfl) ?_)
            refine JL_op rfl (op_read rfl rfl (r_neq rfl rfl) ?_)
            refine JL_op rfl (op_read rfl rfl (r_move (v := .bool (decide (r_9.2.1.len ≠ 0))) rfl) ?_)
            refine J_forkL (e := (decide (r_9.2.1.len ≠ 0))) 6 [(6, v_16), (10, v_62), (77, .bool (decide (r_9.2.1.len ≠ 0) || decide (r_9.1.len ≠ r_55.1.len)))] (fun hc_77 hk => ?_) (fun hc_77 hk => ?_) (fun b => ?_)
            · refine JL_skip rfl rfl hc_77 rfl rfl ?_
              refine JL_skip rfl rfl hc_77 rfl rfl ?_
              refine JL_skip rfl rfl hc_77 rfl rfl ?_
              refine JL_skip rfl rfl hc_77 rfl rfl ?_
              refine JL_skip rfl rfl hc_77 rfl rfl ?_
              refine JL_op rfl (op_read rfl rfl (r_pick_t (v := .bool true) rfl hc_77 rfl) ?_)
              refine J_prune [(6, v_16), (10, v_62), (77, .bool (decide (r_9.2.1.len ≠ 0) || decide (r_9.1.len ≠ r_55.1.len)))] ⟨rfl, rfl, (by show Value.bool _ = Value.bool _; rw [hc_77]; rfl), trivial⟩ hk
            · refine JL_opg rfl rfl hc_77 (op_read rfl rfl (r_move (v := v_16) rfl) ?_)
              refine JL_opg rfl rfl hc_77 (op_read rfl rfl (r_len_row (v := v_16) 3 Try.pu23 rfl rfl) ?_)
              refine JL_opg rfl rfl hc_77 (op_read rfl rfl (r_move (v := v_62) rfl) ?_)
              refine JL_opg rfl rfl hc_77 (op_read rfl rfl (r_len_row (v := v_62) 0 Try.pu23 rfl rfl) ?_)
              refine JL_opg rfl rfl hc_77 (op_read rfl rfl (r_neq rfl rfl) ?_)
              refine JL_op rfl (op_read rfl rfl (r_pick_f (v := .bool (decide (r_9.1.len ≠ r_55.1.len))) rfl hc_77 rfl) ?_)
              refine J_prune [(6, v_16), (10, v_62), (77, .bool (decide (r_9.2.1.len ≠ 0) || decide (r_9.1.len ≠ r_55.1.len)))] ⟨rfl, rfl, (by show Value.bool _ = Value.bool _; rw [hc_77]; rfl), trivial⟩ hk
            · refine JL_nil ?_
              refine J_then ?_
              refine J_cond rfl (fun hc_78 => ?_) (fun hc_78 => ?_)
              · refine J_seq ?_
                refine J_region ?_
                refine JL_op rfl (op_read rfl rfl (r_assign (v := .bool false) rfl) ?_)
                refine JL_nil ?_
                refine J_then ?_
                refine J_ret ?_
                refine J_then_ret ?_
                refine J_select (PV' := []) [] (by decide) rfl ?_
                exact J_return1 rfl ⟨rfl, rfl⟩
              · refine J_skip ?_
                refine J_then ?_
                refine J_seq ?_
                refine J_seq ?_
                refine J_region ?_
                refine JL_op rfl (op_read rfl rfl (r_move (v := v_16) rfl) ?_)
                refine JL_op rfl (op_read rfl rfl (r_len_row (v := v_16) 3 Try.pu23 rfl rfl) ?_)
                refine JL_op rfl (op_read rfl rfl (r_move (v := .int .i64 0) rfl) ?_)
                refine JL_nil ?_
                refine J_then ?_
                refine J_block ?_
                refine J_select (PV' := [.row Int (tInt .i64) 2 v_62 r_55.1, .row Int (tInt .i64) 2 v_16 r_9.1]) [0, 3] (by decide) rfl ?_
                refine J_loop (fun (y : Int) L τ PV => s_50.le τ ∧ L = [(6, v_16), (10, v_62), (79, .int .i64 r_9.1.len), (80, .int .i64 y)] ∧ PV = [.row Int (tInt .i64) 2 v_62 r_55.1, .row Int (tInt .i64) 2 v_16 r_9.1]) (fun (y : W2 Unit Unit) e L τ PV => match y, e with | .a y, e => e = .exit 0 ∧ (s_50.le τ ∧ L = [] ∧ PV = []) | .b y, e => e = .ret ∧ (s_50.le τ ∧ L = [(4, .bool false)] ∧ PV = [])) _ ?_ ⟨(FS.le.refl _), rfl, rfl⟩ ?_ ?_
                · exact ⟨rfl, rfl, rfl, rfl, trivial⟩
                · rintro x_79 _ b s_80 _ ⟨hle_81, rfl, rfl⟩
                  unfold lychgatelaw04_DiffSolves_L1
                  refine J_seq ?_
                  refine J_region ?_
                  refine JL_op rfl (op_read rfl rfl (r_lss rfl rfl) ?_)
                  refine JL_nil ?_
                  refine J_then ?_
                  refine J_seq ?_
                  refine J_cond rfl (fun hc_82 => ?_) (fun hc_82 => ?_)
                  · refine J_skip ?_
                    refine J_then ?_
                    refine J_seq ?_
                    refine J_block ?_
                    refine J_seq ?_
                    refine J_region ?_
                    refine JL_op rfl (op_read rfl rfl (r_move (v := .int .i64 x_79) rfl) ?_)
                    refine JL_op rfl (op_read rfl rfl (r_assign (v := .int .i64 x_79) rfl) ?_)
                    refine JL_nil ?_
                    refine J_then ?_
                    refine J_seq ?_
                    refine J_region_any [.row Int (tInt .i64) 2 v_62 r_55.1, .row Int (tInt .i64) 2 v_16 r_9.1] Try.mixed (by kernel_rfl) fun hns => ?_
                    have hS_83 : HeldOK s_80 [.row Int (tInt .i64) 2 v_62 r_55.1, .row Int (tInt .i64) 2 v_16 r_9.1] s_80 [.row Int (tInt .i64) 2 v_62 r_55.1, .row Int (tInt .i64) 2 v_16 r_9.1] := HeldOK.same ⟨⟨0, rfl⟩, ⟨1, rfl⟩, trivial⟩
                    refine JA_take 0 rfl hns (by kernel_rfl) (by kernel_rfl) hS_83 rfl rfl rfl (r_move (v := v_16) rfl) ?_
                    refine JA_take 1 rfl hns (by kernel_rfl) (by kernel_rfl) hS_83 rfl rfl rfl (r_move (v := .int .i64 x_79) rfl) ?_
                    refine J_bind fun x_84 hx_85 => ?_
                    refine JA_take 2 rfl hns (by kernel_rfl) (by kernel_rfl) hS_83 rfl rfl rfl (r_index_row (v := v_16) (T := (tInt .i64)) (q := x_84) 1 Try.pu23 Try.pi2 rfl rfl rfl rfl hx_85) ?_
                    refine JA_takes 3 rfl hns (by kernel_rfl) (by kernel_rfl) hS_83 rfl rfl rfl (l_elem_row (v := v_16) (T := (tInt .i64)) (Tf := (tInt .i64)) (q := x_84) (i := x_79) (off := 0) 1 Try.pu2 Try.pi2 rfl rfl rfl rfl hx_85 (FieldAt.self _) (by decide)) ?_
                    intro v_86 h_87
                    obtain rfl := tInt_v.1 h_87
                    refine JA_take 4 rfl hns (by kernel_rfl) (by kernel_rfl) hS_83 rfl rfl rfl (r_move (v := v_62) rfl) ?_
                    refine JA_take 5 rfl hns (by kernel_rfl) (by kernel_rfl) hS_83 rfl rfl rfl (r_move (v := .int .i64 x_79) rfl) ?_
                    refine J_bind fun x_88 hx_89 => ?_
                    refine JA_take 6 rfl hns (by kernel_rfl) (by kernel_rfl) hS_83 rfl rfl rfl (r_index_row (v := v_62) (T := (tInt .i64)) (q := x_88) 0 Try.pu23 Try.pi2 rfl rfl rfl rfl hx_89) ?_
                    refine JA_takes 7 rfl hns (by kernel_rfl) (by kernel_rfl) hS_83 rfl rfl rfl (l_elem_row (v := v_62) (T := (tInt .i64)) (Tf := (tInt .i64)) (q := x_88) (i := x_79) (off := 0) 0 Try.pu2 Try.pi2 rfl rfl rfl rfl hx_89 (FieldAt.self _) (by decide)) ?_
                    intro v_90 h_91
                    obtain rfl := tInt_v.1 h_91
                    refine JA_take 8 rfl hns (by kernel_rfl) (by kernel_rfl) hS_83 rfl rfl rfl (r_neq rfl rfl) ?_
                    refine JA_done (by kernel_rfl) ?_
                    refine J_then ?_
                    refine J_cond rfl (fun hc_92 => ?_) (fun hc_92 => ?_)
                    · refine J_seq ?_
                      refine J_region ?_
                      refine JL_op rfl (op_read rfl rfl (r_assign (v := .bool false) rfl) ?_)
                      refine JL_nil ?_
                      refine J_then ?_
                      refine J_ret ?_
                      refine J_in_ret ?_
                      refine J_then_ret ?_
                      refine J_select (PV' := []) [] (by decide) rfl ?_
                      refine J_done trivial _ ?_ ⟨rfl, hle_81, rfl, rfl⟩
                      exact ⟨rfl, trivial⟩
                    · refine J_skip ?_
                      refine J_in_normal ?_
                      refine J_then ?_
                      refine J_region ?_
                      refine JL_op rfl (op_read rfl rfl (r_add rfl rfl) ?_)
                      refine JL_op rfl (op_read rfl rfl (r_move (v := .int .i64 (IntKind.i64.wrap (x_79 + 1))) rfl) ?_)
                      refine JL_nil ?_
                      refine J_next _ ?_ ⟨hle_81, rfl, rfl⟩
                      exact ⟨rfl, rfl, rfl, rfl, trivial⟩
                  · refine J_exit ?_
                    refine J_then_exit ?_
                    refine J_select (PV' := []) [] (by decide) rfl ?_
                    refine J_done trivial _ ?_ ⟨rfl, hle_81, rfl, rfl⟩
                    exact trivial
                · rintro (y_94 | y_97) e L b τ PV ht
                  · obtain ⟨rfl, ht⟩ := ht
                    revert ht; revert PV; revert τ; revert b; revert L
                    rintro _ b s_95 _ ⟨hle_96, rfl, rfl⟩
                    refine J_in_exit ?_
                    refine J_then ?_
                    refine J_seq ?_
                    refine J_region ?_
                    refine JL_op rfl (op_read rfl rfl (r_assign (v := .bool true) rfl) ?_)
                    refine JL_nil ?_
                    refine J_then ?_
                    refine J_ret ?_
                    exact J_return1 rfl ⟨rfl, rfl⟩
                  · obtain ⟨rfl, ht⟩ := ht
                    revert ht; revert PV; revert τ; revert b; revert L
                    rintro _ b s_98 _ ⟨hle_99, rfl, rfl⟩
                    refine J_in_ret ?_
                    refine J_then_ret ?_
                    exact J_return1 rfl ⟨rfl, rfl⟩
def lychgateref04_Entails_post (r : Bool) (σ : FS) (PV : List Priv) (v : Value) : Prop :=
  v = .bool r ∧ PV = []
set_option maxRecDepth 100000 in
theorem lychgateref04_Entails_ref (w : World) (σ : FS) (hs : σ.sub w) (n_1 : Int) (v_3 : Value) (goal_2 : Glychgateref04_Leq) (h_4 : t_Glychgateref04_Leq.vrel σ v_3 goal_2) (v_6 : Value) (facts_5 : Sl Glychgateref04_Leq) (h_7 : (tSl t_Glychgateref04_Leq).vrel σ v_6 facts_5) (r : Bool) (hr : lychgateref04_Entails n_1 goal_2 facts_5 = some r) : Does Try.prog 17 [.int .i64 n_1, v_3, v_6] w σ (lychgateref04_Entails_post r) := by
  unfold lychgateref04_Entails at hr
  obtain rfl := t_Glychgateref04_Leq_v.1 h_4
  refine does_of_J Try.func17 rfl (n := 30) rfl rfl hs hr ?_
  refine J_seq ?_
  refine J_region ?_
  refine JL_op rfl (op_box (cs := [.int .i64 goal_2.X, .int .i64 goal_2.Y, .int .i64 goal_2.C]) rfl rfl ?_)
  intro c_8
  refine JL_op rfl (op_read rfl rfl (r_assign (v := .bool false) rfl) ?_)
  refine JL_nil ?_
  refine J_then ?_
  refine J_seq ?_
  refine J_region ?_
  refine JL_op rfl (op_read rfl rfl (r_move (v := .int .i64 n_1) rfl) ?_)
  refine JL_op rfl (op_read rfl rfl (r_move (v := v_6) rfl) ?_)
  refine JL_op rfl (op_call (f := 20) (fn := Try.f20) (args := [.int .i64 n_1, v_6]) (post := lychgateref04_Table_post) rfl rfl rfl Try.func20 Try.pn20 rfl rfl (fun y w hy hs => lychgateref04_Table_ref w _ hs n_1 v_6 facts_5 h_7 y hy) ?_)
  intro r_10 v_12 s_13 PV_15 hy_11 hle_14 hp_16
  obtain ⟨v_17, rfl, rfl⟩ := hp_16
  refine JL_op rfl (op_read rfl rfl (r_move (v := .tuple #[v_17, .bool r_10.2]) rfl) ?_)
  refine JL_op rfl (op_read rfl rfl (r_extract (v := v_17) rfl rfl) ?_)
  refine JL_op rfl (op_read rfl rfl (r_extract (v := .bool r_10.2) rfl rfl) ?_)
  refine JL_op rfl (op_read rfl rfl (r_assign (v := v_17) rfl) ?_)
  refine JL_op rfl (op_read rfl rfl (r_assign (v := .bool r_10.2) rfl) ?_)
  refine JL_nil ?_
  refine J_then ?_
  refine J_seq ?_
  refine J_seq ?_
  refine J_region ?_
  refine JL_op rfl (op_read rfl rfl (r_move (v := .bool r_10.2) rfl) ?_)
  refine JL_op rfl (op_read rfl rfl (r_not rfl) ?_)
  refine JL_nil ?_
  refine J_then ?_
  refine J_cond rfl (fun hc_19 => ?_) (fun hc_19 => ?_)
  · refine J_seq ?_
    refine J_region ?_
    refine JL_op rfl (op_read rfl rfl (r_assign (v := .bool true) rfl) ?_)
    refine JL_nil ?_
    refine J_then ?_
    refine J_ret ?_
    refine J_then_ret ?_
    refine J_select (PV' := []) [] (by decide) rfl ?_
    exact J_return1 rfl ⟨rfl, rfl⟩
  · refine J_skip ?_
    refine J_then ?_
    refine J_seq ?_
    refine J_region_any [.row Int (tInt .i64) 2 v_17 r_10.1, .cell c_8 [.int .i64 goal_2.X, .int .i64 goal_2.Y, .int .i64 goal_2.C] 41] Try.mixed (by kernel_rfl) fun hns => ?_
    have hS_20 : HeldOK s_13 [.row Int (tInt .i64) 2 v_17 r_10.1, .cell c_8 [.int .i64 goal_2.X, .int .i64 goal_2.Y, .int .i64 goal_2.C] 41] s_13 [.row Int (tInt .i64) 2 v_17 r_10.1, .cell c_8 [.int .i64 goal_2.X, .int .i64 goal_2.Y, .int .i64 goal_2.C] 41] := HeldOK.same ⟨⟨0, rfl⟩, ⟨1, rfl⟩, trivial⟩
    refine JA_take 0 rfl hns (by kernel_rfl) (by kernel_rfl) hS_20 rfl rfl rfl (r_move (v := v_17) rfl) ?_
    refine JA_take 1 rfl hns (by kernel_rfl) (by kernel_rfl) hS_20 rfl rfl rfl (r_fieldAddr (r := ⟨c_8, 0, none⟩) Try.pu41 (f := Try.pf41.getD 0 default) rfl Try.pi3 (by decide) rfl rfl) ?_
    refine JA_take 2 rfl hns (by kernel_rfl) (by kernel_rfl) hS_20 rfl rfl rfl (r_load_priv (cs' := [.int .i64 goal_2.X]) (v := .int .i64 goal_2.X) 1 Try.pu3 Try.pi3 rfl rfl rfl rfl (by decide) rfl) ?_
    refine JA_take 3 rfl hns (by kernel_rfl) (by kernel_rfl) hS_20 rfl rfl rfl (r_move (v := .int .i64 n_1) rfl) ?_
    refine JA_take 4 rfl hns (by kernel_rfl) (by kernel_rfl) hS_20 rfl rfl rfl (r_mul rfl rfl) ?_
    refine JA_take 5 rfl hns (by kernel_rfl) (by kernel_rfl) hS_20 rfl rfl rfl (r_fieldAddr (r := ⟨c_8, 1, none⟩) Try.pu41 (f := Try.pf41.getD 1 default) rfl Try.pi3 (by decide) rfl rfl) ?_
    refine JA_take 6 rfl hns (by kernel_rfl) (by kernel_rfl) hS_20 rfl rfl rfl (r_load_priv (cs' := [.int .i64 goal_2.Y]) (v := .int .i64 goal_2.Y) 1 Try.pu3 Try.pi3 rfl rfl rfl rfl (by decide) rfl) ?_
    refine JA_take 7 rfl hns (by kernel_rfl) (by kernel_rfl) hS_20 rfl rfl rfl (r_add rfl rfl) ?_
    refine J_bind fun x_21 hx_22 => ?_
    refine JA_take 8 rfl hns (by kernel_rfl) (by kernel_rfl) hS_20 rfl rfl rfl (r_index_row (v := v_17) (T := (tInt .i64)) (q := x_21) 0 Try.pu23 Try.pi2 rfl rfl rfl rfl hx_22) ?_
    refine JA_takes 9 rfl hns (by kernel_rfl) (by kernel_rfl) hS_20 rfl rfl rfl (l_elem_row (v := v_17) (T := (tInt .i64)) (Tf := (tInt .i64)) (q := x_21) (i := (IntKind.i64.wrap ((IntKind.i64.wrap (goal_2.X * n_1)) + goal_2.Y))) (off := 0) 0 Try.pu2 Try.pi2 rfl rfl rfl rfl hx_22 (FieldAt.self _) (by decide)) ?_
    intro v_23 h_24
    obtain rfl := tInt_v.1 h_24
    refine JA_take 10 rfl hns (by kernel_rfl) (by kernel_rfl) hS_20 rfl rfl rfl (r_fieldAddr (r := ⟨c_8, 2, none⟩) Try.pu41 (f := Try.pf41.getD 2 default) rfl Try.pi2 (by decide) rfl rfl) ?_
    refine JA_take 11 rfl hns (by kernel_rfl) (by kernel_rfl) hS_20 rfl rfl rfl (r_load_priv (cs' := [.int .i64 goal_2.C]) (v := .int .i64 goal_2.C) 1 Try.pu2 Try.pi2 rfl rfl rfl rfl (by decide) rfl) ?_
    refine JA_take 12 rfl hns (by kernel_rfl) (by kernel_rfl) hS_20 rfl rfl rfl (r_leq rfl rfl) ?_
    refine JA_take 13 rfl hns (by kernel_rfl) (by kernel_rfl) hS_20 rfl rfl rfl (r_assign (v := .bool (decide (x_21 ≤ goal_2.C))) rfl) ?_
    refine JA_done (by kernel_rfl) ?_
    refine J_then ?_
    refine J_ret ?_
    refine J_select (PV' := []) [] (by decide) rfl ?_
    exact J_return1 rfl ⟨rfl, rfl⟩
def lychgatelaw04_DiffEntails_post (r : Bool) (σ : FS) (PV : List Priv) (v : Value) : Prop :=
  v = .bool r ∧ PV = []
set_option maxRecDepth 100000 in
theorem lychgatelaw04_DiffEntails_ref (w : World) (σ : FS) (hs : σ.sub w) (n_1 : Int) (v_3 : Value) (goal_2 : Gdiff_Leq) (h_4 : t_Gdiff_Leq.vrel σ v_3 goal_2) (v_6 : Value) (facts_5 : Sl Gdiff_Leq) (h_7 : (tSl t_Gdiff_Leq).vrel σ v_6 facts_5) (r : Bool) (hr : lychgatelaw04_DiffEntails n_1 goal_2 facts_5 = some r) : Does Try.prog 4 [.int .i64 n_1, v_3, v_6] w σ (lychgatelaw04_DiffEntails_post r) := by
  unfold lychgatelaw04_DiffEntails at hr
  obtain rfl := t_Gdiff_Leq_v.1 h_4
  refine does_of_J Try.func4 rfl (n := 64) rfl rfl hs hr ?_
  refine J_seq ?_
  refine J_region ?_
  refine JL_op rfl (op_box (cs := [.int .i64 goal_2.X, .int .i64 goal_2.Y, .int .i64 goal_2.C]) rfl rfl ?_)
  intro c_8
  refine JL_op rfl (op_read rfl rfl (r_assign (v := .bool false) rfl) ?_)
  refine JL_nil ?_
  refine J_then ?_
  refine J_seq ?_
  refine J_region ?_
  refine JL_op rfl (op_read rfl rfl (r_move (v := .int .i64 n_1) rfl) ?_)
  refine JL_op rfl (op_read rfl rfl (r_load_priv (cs' := [.int .i64 goal_2.X, .int .i64 goal_2.Y, .int .i64 goal_2.C]) (v := .agg #[.int .i64 goal_2.X, .int .i64 goal_2.Y, .int .i64 goal_2.C]) 0 Try.pu37 Try.pi37 rfl rfl rfl rfl (by decide) rfl) ?_)
  refine JL_op rfl (op_read rfl rfl (r_move (v := v_6) rfl) ?_)
  refine JL_op rfl (op_call (f := 16) (fn := Try.f16) (args := [.int .i64 n_1, .agg #[.int .i64 goal_2.X, .int .i64 goal_2.Y, .int .i64 goal_2.C], v_6]) (post := diff_Entails_post) rfl rfl rfl Try.func16 Try.pn16 rfl rfl (fun y w hy hs => diff_Entails_ref w _ hs n_1 (.agg #[.int .i64 goal_2.X, .int .i64 goal_2.Y, .int .i64 goal_2.C]) goal_2 (t_Gdiff_Leq_v.2 rfl) v_6 facts_5 h_7 y hy) ?_)
  intro r_10 v_12 s_13 PV_15 hy_11 hle_14 hp_16
  obtain ⟨rfl, rfl⟩ := hp_16
  refine JL_op rfl (op_read rfl rfl (r_move (v := .tuple #[.bool r_10.1, .int .i64 r_10.2]) rfl) ?_)
  refine JL_op rfl (op_read rfl rfl (r_extract (v := .bool r_10.1) rfl rfl) ?_)
  refine JL_op rfl (op_read rfl rfl (r_extract (v := .int .i64 r_10.2) rfl rfl) ?_)
  refine JL_op rfl (op_read rfl rfl (r_assign (v := .bool r_10.1) rfl) ?_)
  refine JL_op rfl (op_read rfl rfl (r_assign (v := .int .i64 r_10.2) rfl) ?_)
  refine JL_nil ?_
  refine J_then ?_
  refine J_seq ?_
  refine J_region_any [.cell c_8 [.int .i64 goal_2.X, .int .i64 goal_2.Y, .int .i64 goal_2.C] 37] Try.mixed (by kernel_rfl) fun hns => ?_
  have hS_17 : HeldOK s_13 [.cell c_8 [.int .i64 goal_2.X, .int .i64 goal_2.Y, .int .i64 goal_2.C] 37] s_13 [.cell c_8 [.int .i64 goal_2.X, .int .i64 goal_2.Y, .int .i64 goal_2.C] 37] := HeldOK.same ⟨⟨0, rfl⟩, trivial⟩
  refine JA_take 0 rfl hns (by kernel_rfl) (by kernel_rfl) hS_17 rfl rfl rfl (r_move (v := .int .i64 n_1) rfl) ?_
  refine JA_take 1 rfl hns (by kernel_rfl) (by kernel_rfl) hS_17 rfl rfl rfl (r_move (v := v_6) rfl) ?_
  refine JA_take 3 rfl hns (by kernel_rfl) (by kernel_rfl) hS_17 rfl rfl rfl (r_load_priv (cs' := [.int .i64 goal_2.X, .int .i64 goal_2.Y, .int .i64 goal_2.C]) (v := .agg #[.int .i64 goal_2.X, .int .i64 goal_2.Y, .int .i64 goal_2.C]) 0 Try.pu37 Try.pi37 rfl rfl rfl rfl (by decide) rfl) ?_
  refine J_meetD (fun y => lychgatelaw04_DiffEntails_K1 facts_5 goal_2 n_1 r_10 y) 0 #[true, true, true, true, true, true, true, true, true] (fun (y : Int) L τ PV => s_13.le τ ∧ L = [(0, .int .i64 n_1), (2, v_6), (4, .pointer (some ⟨c_8, 0, none⟩)), (7, .bool r_10.1), (8, .int .i64 r_10.2), (9, .int .i64 y)] ∧ PV = [.cell c_8 [.int .i64 goal_2.X, .int .i64 goal_2.Y, .int .i64 goal_2.C] 37]) (fun hk => ?_) ?_
  · refine JA_two (i := 2) (j := 4) (by kernel_rfl) ?_ ?_
    · refine J_nil_row t_Gdiff_Leq 37 ?_
      have hS_57 : HeldOK s_13 [.cell c_8 [.int .i64 goal_2.X, .int .i64 goal_2.Y, .int .i64 goal_2.C] 37] s_13 [.row Gdiff_Leq t_Gdiff_Leq 37 (.slice none 0 0) (⟨[], false⟩ : Sl Gdiff_Leq), .cell c_8 [.int .i64 goal_2.X, .int .i64 goal_2.Y, .int .i64 goal_2.C] 37] := HeldOK.same ⟨⟨1, rfl⟩, trivial⟩
      refine J1_op rfl rfl (op_append (v := (.slice none 0 0)) (u := v_6) (T := t_Gdiff_Leq) (ts := facts_5.xs) 0 rfl Try.pu22 Try.pi37 rfl rfl rfl rfl rfl rfl rfl (source_frozen (Ty.vmono _ hle_14 h_7)) ?_)
      intro s_58 v_60 ha_59
      have hS_61 : HeldOK s_13 [.cell c_8 [.int .i64 goal_2.X, .int .i64 goal_2.Y, .int .i64 goal_2.C] 37] s_13 [.row Gdiff_Leq t_Gdiff_Leq 37 v_60 s_58, .cell c_8 [.int .i64 goal_2.X, .int .i64 goal_2.Y, .int .i64 goal_2.C] 37] := HeldOK.same ⟨⟨1, rfl⟩, trivial⟩
      refine ⟨hS_61, ?_⟩
      refine JA_op (i := 4) (by kernel_rfl) rfl rfl (op_buildSlice (T := t_Gdiff_Leq) (vs := [.agg #[.int .i64 goal_2.X, .int .i64 goal_2.Y, .int .i64 goal_2.C]]) (xs := [goal_2]) rfl Try.pu22 Try.pi37 rfl rfl rfl rfl rfl rfl ⟨(t_Gdiff_Leq_v.2 rfl), trivial⟩ ?_)
      intro v_62
      have hS_64 : HeldOK s_13 [.cell c_8 [.int .i64 goal_2.X, .int .i64 goal_2.Y, .int .i64 goal_2.C] 37] s_13 [.row Gdiff_Leq t_Gdiff_Leq 37 v_62 (⟨[goal_2], true⟩ : Sl Gdiff_Leq), .row Gdiff_Leq t_Gdiff_Leq 37 v_60 s_58, .cell c_8 [.int .i64 goal_2.X, .int .i64 goal_2.Y, .int .i64 goal_2.C] 37] := HeldOK.same ⟨⟨2, rfl⟩, trivial⟩
      refine ⟨hS_64, ?_⟩
      refine JA_op (i := 5) (by kernel_rfl) rfl rfl (op_append (v := v_60) (u := v_62) (T := t_Gdiff_Leq) (ts := [goal_2]) 1 rfl Try.pu22 Try.pi37 rfl rfl rfl rfl rfl rfl rfl (source_row (s := (⟨[goal_2], true⟩ : Sl Gdiff_Leq)) 0 rfl) ?_)
      intro s_65 v_67 ha_66
      have hS_68 : HeldOK s_13 [.cell c_8 [.int .i64 goal_2.X, .int .i64 goal_2.Y, .int .i64 goal_2.C] 37] s_13 [.row Gdiff_Leq t_Gdiff_Leq 37 v_62 (⟨[goal_2], true⟩ : Sl Gdiff_Leq), .row Gdiff_Leq t_Gdiff_Leq 37 v_67 s_65, .cell c_8 [.int .i64 goal_2.X, .int .i64 goal_2.Y, .int .i64 goal_2.C] 37] := HeldOK.same ⟨⟨2, rfl⟩, trivial⟩
      refine ⟨hS_68, ?_⟩
      refine JA_op (i := 6) (by kernel_rfl) rfl rfl (op_call_lend (f := 12) (fn := Try.f12) (args := [v_67]) (post := lychgatelaw04_refs_post) rfl rfl rfl Try.func12 Try.pn12 rfl rfl (fun y w τ hy hle hs hrow => lychgatelaw04_refs_ref w τ hs v_67 s_65 (hrow 1 _ _ _ _ _ rfl) y hy) (fun y σ' PV' v hp => by obtain ⟨_, rfl, rfl⟩ := hp; exact ⟨⟨inferInstance⟩, trivial⟩) ?_)
      intro r_69 v_71 s_72 PV_74 hy_70 hp_75
      obtain ⟨_, rfl, rfl⟩ := hp_75
      have hS_77 : HeldOK s_13 [.cell c_8 [.int .i64 goal_2.X, .int .i64 goal_2.Y, .int .i64 goal_2.C] 37] s_13 [.row Glychgateref04_Leq t_Glychgateref04_Leq 41 v_71 r_69, .row Gdiff_Leq t_Gdiff_Leq 37 v_62 (⟨[goal_2], true⟩ : Sl Gdiff_Leq), .row Gdiff_Leq t_Gdiff_Leq 37 v_67 s_65, .cell c_8 [.int .i64 goal_2.X, .int .i64 goal_2.Y, .int .i64 goal_2.C] 37] := HeldOK.same ⟨⟨3, rfl⟩, trivial⟩
      refine ⟨hS_77, ?_⟩
      refine JA_op (i := 7) (by kernel_rfl) rfl rfl (op_call_lend (f := 11) (fn := Try.f11) (args := [.int .i64 n_1, v_71]) (post := lychgateref04_Fit_post) rfl rfl rfl Try.func11 Try.pn11 rfl rfl (fun y w τ hy hle hs hrow => lychgateref04_Fit_ref w τ hs n_1 v_71 r_69 (hrow 0 _ _ _ _ _ rfl) y hy) (fun y σ' PV' v hp => by obtain ⟨rfl, rfl⟩ := hp; exact trivial) ?_)
      intro r_78 v_80 s_81 PV_83 hy_79 hp_84
      obtain ⟨rfl, rfl⟩ := hp_84
      have hS_85 : HeldOK s_13 [.cell c_8 [.int .i64 goal_2.X, .int .i64 goal_2.Y, .int .i64 goal_2.C] 37] s_13 [.row Glychgateref04_Leq t_Glychgateref04_Leq 41 v_71 r_69, .row Gdiff_Leq t_Gdiff_Leq 37 v_62 (⟨[goal_2], true⟩ : Sl Gdiff_Leq), .row Gdiff_Leq t_Gdiff_Leq 37 v_67 s_65, .cell c_8 [.int .i64 goal_2.X, .int .i64 goal_2.Y, .int .i64 goal_2.C] 37] := HeldOK.same ⟨⟨3, rfl⟩, trivial⟩
      refine ⟨hS_85, ?_⟩
      refine JA_take 8 rfl hns (by kernel_rfl) (by kernel_rfl) hS_85 rfl rfl rfl (r_assign (v := .int .i64 r_78) rfl) ?_
      refine J_select (PV' := [.cell c_8 [.int .i64 goal_2.X, .int .i64 goal_2.Y, .int .i64 goal_2.C] 37]) [3] (by decide) rfl ?_
      refine J_prune _ ?_ fun b => hk r_78 _ b _ _ ⟨(FS.le.refl _), rfl, rfl⟩
      exact ⟨rfl, rfl, rfl, rfl, rfl, rfl, trivial⟩
    · refine J1_op rfl rfl (op_buildSlice (T := t_Gdiff_Leq) (vs := [.agg #[.int .i64 goal_2.X, .int .i64 goal_2.Y, .int .i64 goal_2.C]]) (xs := [goal_2]) rfl Try.pu22 Try.pi37 rfl rfl rfl rfl rfl rfl ⟨(t_Gdiff_Leq_v.2 rfl), trivial⟩ ?_)
      intro v_86
      have hS_88 : HeldOK s_13 [.cell c_8 [.int .i64 goal_2.X, .int .i64 goal_2.Y, .int .i64 goal_2.C] 37] s_13 [.row Gdiff_Leq t_Gdiff_Leq 37 v_86 (⟨[goal_2], true⟩ : Sl Gdiff_Leq), .cell c_8 [.int .i64 goal_2.X, .int .i64 goal_2.Y, .int .i64 goal_2.C] 37] := HeldOK.same ⟨⟨1, rfl⟩, trivial⟩
      refine ⟨hS_88, ?_⟩
      refine J_nil_row t_Gdiff_Leq 37 ?_
      have hS_90 : HeldOK s_13 [.cell c_8 [.int .i64 goal_2.X, .int .i64 goal_2.Y, .int .i64 goal_2.C] 37] s_13 [.row Gdiff_Leq t_Gdiff_Leq 37 (.slice none 0 0) (⟨[], false⟩ : Sl Gdiff_Leq), .row Gdiff_Leq t_Gdiff_Leq 37 v_86 (⟨[goal_2], true⟩ : Sl Gdiff_Leq), .cell c_8 [.int .i64 goal_2.X, .int .i64 goal_2.Y, .int .i64 goal_2.C] 37] := HeldOK.same ⟨⟨2, rfl⟩, trivial⟩
      refine JA_op (i := 2) (by kernel_rfl) rfl rfl (op_append (v := (.slice none 0 0)) (u := v_6) (T := t_Gdiff_Leq) (ts := facts_5.xs) 0 rfl Try.pu22 Try.pi37 rfl rfl rfl rfl rfl rfl rfl (source_frozen (Ty.vmono _ hle_14 h_7)) ?_)
      intro s_91 v_93 ha_92
      have hS_94 : HeldOK s_13 [.cell c_8 [.int .i64 goal_2.X, .int .i64 goal_2.Y, .int .i64 goal_2.C] 37] s_13 [.row Gdiff_Leq t_Gdiff_Leq 37 v_93 s_91, .row Gdiff_Leq t_Gdiff_Leq 37 v_86 (⟨[goal_2], true⟩ : Sl Gdiff_Leq), .cell c_8 [.int .i64 goal_2.X, .int .i64 goal_2.Y, .int .i64 goal_2.C] 37] := HeldOK.same ⟨⟨2, rfl⟩, trivial⟩
      refine ⟨hS_94, ?_⟩
      refine JA_op (i := 5) (by kernel_rfl) rfl rfl (op_append (v := v_93) (u := v_86) (T := t_Gdiff_Leq) (ts := [goal_2]) 0 rfl Try.pu22 Try.pi37 rfl rfl rfl rfl rfl rfl rfl (source_row (s := (⟨[goal_2], true⟩ : Sl Gdiff_Leq)) 1 rfl) ?_)
      intro s_95 v_97 ha_96
      have hS_98 : HeldOK s_13 [.cell c_8 [.int .i64 goal_2.X, .int .i64 goal_2.Y, .int .i64 goal_2.C] 37] s_13 [.row Gdiff_Leq t_Gdiff_Leq 37 v_97 s_95, .row Gdiff_Leq t_Gdiff_Leq 37 v_86 (⟨[goal_2], true⟩ : Sl Gdiff_Leq), .cell c_8 [.int .i64 goal_2.X, .int .i64 goal_2.Y, .int .i64 goal_2.C] 37] := HeldOK.same ⟨⟨2, rfl⟩, trivial⟩
      refine ⟨hS_98, ?_⟩
      refine JA_op (i := 6) (by kernel_rfl) rfl rfl (op_call_lend (f := 12) (fn := Try.f12) (args := [v_97]) (post := lychgatelaw04_refs_post) rfl rfl rfl Try.func12 Try.pn12 rfl rfl (fun y w τ hy hle hs hrow => lychgatelaw04_refs_ref w τ hs v_97 s_95 (hrow 0 _ _ _ _ _ rfl) y hy) (fun y σ' PV' v hp => by obtain ⟨_, rfl, rfl⟩ := hp; exact ⟨⟨inferInstance⟩, trivial⟩) ?_)
      intro r_99 v_101 s_102 PV_104 hy_100 hp_105
      obtain ⟨_, rfl, rfl⟩ := hp_105
      have hS_107 : HeldOK s_13 [.cell c_8 [.int .i64 goal_2.X, .int .i64 goal_2.Y, .int .i64 goal_2.C] 37] s_13 [.row Glychgateref04_Leq t_Glychgateref04_Leq 41 v_101 r_99, .row Gdiff_Leq t_Gdiff_Leq 37 v_97 s_95, .row Gdiff_Leq t_Gdiff_Leq 37 v_86 (⟨[goal_2], true⟩ : Sl Gdiff_Leq), .cell c_8 [.int .i64 goal_2.X, .int .i64 goal_2.Y, .int .i64 goal_2.C] 37] := HeldOK.same ⟨⟨3, rfl⟩, trivial⟩
      refine ⟨hS_107, ?_⟩
      refine JA_op (i := 7) (by kernel_rfl) rfl rfl (op_call_lend (f := 11) (fn := Try.f11) (args := [.int .i64 n_1, v_101]) (post := lychgateref04_Fit_post) rfl rfl rfl Try.func11 Try.pn11 rfl rfl (fun y w τ hy hle hs hrow => lychgateref04_Fit_ref w τ hs n_1 v_101 r_99 (hrow 0 _ _ _ _ _ rfl) y hy) (fun y σ' PV' v hp => by obtain ⟨rfl, rfl⟩ := hp; exact trivial) ?_)
      intro r_108 v_110 s_111 PV_113 hy_109 hp_114
      obtain ⟨rfl, rfl⟩ := hp_114
      have hS_115 : HeldOK s_13 [.cell c_8 [.int .i64 goal_2.X, .int .i64 goal_2.Y, .int .i64 goal_2.C] 37] s_13 [.row Glychgateref04_Leq t_Glychgateref04_Leq 41 v_101 r_99, .row Gdiff_Leq t_Gdiff_Leq 37 v_97 s_95, .row Gdiff_Leq t_Gdiff_Leq 37 v_86 (⟨[goal_2], true⟩ : Sl Gdiff_Leq), .cell c_8 [.int .i64 goal_2.X, .int .i64 goal_2.Y, .int .i64 goal_2.C] 37] := HeldOK.same ⟨⟨3, rfl⟩, trivial⟩
      refine ⟨hS_115, ?_⟩
      refine JA_take 8 rfl hns (by kernel_rfl) (by kernel_rfl) hS_115 rfl rfl rfl (r_assign (v := .int .i64 r_108) rfl) ?_
      refine J_select (PV' := [.cell c_8 [.int .i64 goal_2.X, .int .i64 goal_2.Y, .int .i64 goal_2.C] 37]) [3] (by decide) rfl ?_
      refine J_prune _ ?_ fun b => hk r_108 _ b _ _ ⟨(FS.le.refl _), rfl, rfl⟩
      exact ⟨rfl, rfl, rfl, rfl, rfl, rfl, trivial⟩
  · rintro y_18 _ b s_19 _ ⟨hle_20, rfl, rfl⟩
    unfold lychgatelaw04_DiffEntails_K1
    refine JA_done (by kernel_rfl) ?_
    refine J_then ?_
    refine J_seq ?_
    refine J_seq ?_
    refine J_region ?_
    refine JL_op rfl (op_read rfl rfl (r_move (v := .int .i64 y_18) rfl) ?_)
    refine JL_op rfl (op_read rfl rfl (r_eql rfl rfl) ?_)
    refine JL_op rfl (op_read rfl rfl (r_move (v := .bool (decide (y_18 = 0))) rfl) ?_)
    refine J_forkL (e := (decide (y_18 = 0))) 4 [(0, .int .i64 n_1), (2, v_6), (4, .pointer (some ⟨c_8, 0, none⟩)), (7, .bool r_10.1), (8, .int .i64 r_10.2), (9, .int .i64 y_18), (31, .bool (decide (y_18 = 0) && decide (goal_2.C = 8796093022208)))] (fun hc_21 hk => ?_) (fun hc_21 hk => ?_) (fun b => ?_)
    · refine JL_opg rfl rfl hc_21 (op_read rfl rfl (r_fieldAddr (r := ⟨c_8, 2, none⟩) Try.pu37 (f := Try.pf37.getD 2 default) rfl Try.pi2 (by decide) rfl rfl) ?_)
      refine JL_opg rfl rfl hc_21 (op_read rfl rfl (r_load_priv (cs' := [.int .i64 goal_2.C]) (v := .int .i64 goal_2.C) 0 Try.pu2 Try.pi2 rfl rfl rfl rfl (by decide) rfl) ?_)
      refine JL_opg rfl rfl hc_21 (op_read rfl rfl (r_eql rfl rfl) ?_)
      refine JL_op rfl (op_read rfl rfl (r_pick_t (v := .bool (decide (goal_2.C = 8796093022208))) rfl hc_21 rfl) ?_)
      refine J_prune [(0, .int .i64 n_1), (2, v_6), (4, .pointer (some ⟨c_8, 0, none⟩)), (7, .bool r_10.1), (8, .int .i64 r_10.2), (9, .int .i64 y_18), (31, .bool (decide (y_18 = 0) && decide (goal_2.C = 8796093022208)))] ⟨rfl, rfl, rfl, rfl, rfl, rfl, (by show Value.bool _ = Value.bool _; rw [hc_21]; rfl), trivial⟩ hk
    · refine JL_skip rfl rfl hc_21 rfl rfl ?_
      refine JL_skip rfl rfl hc_21 rfl rfl ?_
      refine JL_skip rfl rfl hc_21 rfl rfl ?_
      refine JL_op rfl (op_read rfl rfl (r_pick_f (v := .bool false) rfl hc_21 rfl) ?_)
      refine J_prune [(0, .int .i64 n_1), (2, v_6), (4, .pointer (some ⟨c_8, 0, none⟩)), (7, .bool r_10.1), (8, .int .i64 r_10.2), (9, .int .i64 y_18), (31, .bool (decide (y_18 = 0) && decide (goal_2.C = 8796093022208)))] ⟨rfl, rfl, rfl, rfl, rfl, rfl, (by show Value.bool _ = Value.bool _; rw [hc_21]; rfl), trivial⟩ hk
    · refine JL_nil ?_
      refine J_then ?_
      refine J_cut (fun (y : Int) e L τ PV => e = .normal ∧ (s_19.le τ ∧ L = [(0, .int .i64 n_1), (2, v_6), (4, .pointer (some ⟨c_8, 0, none⟩)), (7, .bool r_10.1), (8, .int .i64 r_10.2), (9, .int .i64 y)] ∧ PV = [.cell c_8 [.int .i64 goal_2.X, .int .i64 goal_2.Y, .int .i64 goal_2.C] 37])) ?_ ?_
      · refine J_cond rfl (fun hc_22 => ?_) (fun hc_22 => ?_)
        · refine J_region ?_
          refine JL_op rfl (op_read rfl rfl (r_assign (v := .int .i64 2) rfl) ?_)
          refine JL_nil ?_
          refine J_cut_end _ ?_ ⟨rfl, (FS.le.refl _), rfl, rfl⟩ trivial
          exact ⟨rfl, rfl, rfl, rfl, rfl, rfl, trivial⟩
        · refine J_skip ?_
          refine J_cut_end _ ?_ ⟨rfl, (FS.le.refl _), rfl, rfl⟩ trivial
          exact ⟨rfl, rfl, rfl, rfl, rfl, rfl, trivial⟩
      · rintro y_23 _ _ b s_24 _ ⟨rfl, ⟨hle_25, rfl, rfl⟩⟩
        refine J_then ?_
        refine J_seq ?_
        refine J_seq ?_
        refine J_region ?_
        refine JL_op rfl (op_call (f := 13) (fn := Try.f13) (args := []) (post := lychgatelaw04_wakes_post) rfl rfl rfl Try.func13 Try.pn13 rfl rfl (fun y w hy hs => lychgatelaw04_wakes_ref w _ hs  y hy) ?_)
        intro r_26 v_28 s_29 PV_31 hy_27 hle_30 hp_32
        obtain ⟨rfl, rfl⟩ := hp_32
        refine JL_op rfl (op_read rfl rfl (r_not rfl) ?_)
        refine JL_op rfl (op_read rfl rfl (r_move (v := .bool (!r_26)) rfl) ?_)
        refine J_forkL (e := (!r_26)) 4 [(0, .int .i64 n_1), (2, v_6), (4, .pointer (some ⟨c_8, 0, none⟩)), (7, .bool r_10.1), (9, .int .i64 y_23), (38, .bool (!r_26 || decide (r_10.2 ≠ y_23)))] (fun hc_33 hk => ?_) (fun hc_33 hk => ?_) (fun b => ?_)
        · refine JL_skip rfl rfl hc_33 rfl rfl ?_
          refine JL_skip rfl rfl hc_33 rfl rfl ?_
          refine JL_skip rfl rfl hc_33 rfl rfl ?_
          refine JL_op rfl (op_read rfl rfl (r_pick_t (v := .bool true) rfl hc_33 rfl) ?_)
          refine J_prune [(0, .int .i64 n_1), (2, v_6), (4, .pointer (some ⟨c_8, 0, none⟩)), (7, .bool r_10.1), (9, .int .i64 y_23), (38, .bool (!r_26 || decide (r_10.2 ≠ y_23)))] ⟨rfl, rfl, rfl, rfl, rfl, (by show Value.bool _ = Value.bool _; rw [hc_33]; rfl), trivial⟩ hk
        · refine JL_opg rfl rfl hc_33 (op_read rfl rfl (r_move (v := .int .i64 r_10.2) rfl) ?_)
          refine JL_opg rfl rfl hc_33 (op_read rfl rfl (r_move (v := .int .i64 y_23) rfl) ?_)
          refine JL_opg rfl rfl hc_33 (op_read rfl rfl (r_neq rfl rfl) ?_)
          refine JL_op rfl (op_read rfl rfl (r_pick_f (v := .bool (decide (r_10.2 ≠ y_23))) rfl hc_33 rfl) ?_)
          refine J_prune [(0, .int .i64 n_1), (2, v_6), (4, .pointer (some ⟨c_8, 0, none⟩)), (7, .bool r_10.1), (9, .int .i64 y_23), (38, .bool (!r_26 || decide (r_10.2 ≠ y_23)))] ⟨rfl, rfl, rfl, rfl, rfl, (by show Value.bool _ = Value.bool _; rw [hc_33]; rfl), trivial⟩ hk
        · refine JL_nil ?_
          refine J_then ?_
          refine J_cond rfl (fun hc_34 => ?_) (fun hc_34 => ?_)
          · refine J_seq ?_
            refine J_region ?_
            refine JL_op rfl (op_read rfl rfl (r_assign (v := .bool false) rfl) ?_)
            refine JL_nil ?_
            refine J_then ?_
            refine J_ret ?_
            refine J_then_ret ?_
            refine J_select (PV' := []) [] (by decide) rfl ?_
            exact J_return1 rfl ⟨rfl, rfl⟩
          · refine J_skip ?_
            refine J_then ?_
            refine J_seq ?_
            refine J_seq ?_
            refine J_region ?_
            refine JL_op rfl (op_read rfl rfl (r_move (v := .int .i64 y_23) rfl) ?_)
            refine JL_op rfl (op_read rfl rfl (r_neq rfl rfl) ?_)
            refine JL_op rfl (op_read rfl rfl (r_move (v := .bool (decide (y_23 ≠ 0))) rfl) ?_)
            refine J_forkL (e := (decide (y_23 ≠ 0))) 3 [(0, .int .i64 n_1), (2, v_6), (4, .pointer (some ⟨c_8, 0, none⟩)), (7, .bool r_10.1), (9, .int .i64 y_23), (44, .bool (decide (y_23 ≠ 0) || decide (40 < n_1)))] (fun hc_35 hk => ?_) (fun hc_35 hk => ?_) (fun b => ?_)
            · refine JL_skip rfl rfl hc_35 rfl rfl ?_
              refine JL_skip rfl rfl hc_35 rfl rfl ?_
              refine JL_op rfl (op_read rfl rfl (r_pick_t (v := .bool true) rfl hc_35 rfl) ?_)
              refine J_prune [(0, .int .i64 n_1), (2, v_6), (4, .pointer (some ⟨c_8, 0, none⟩)), (7, .bool r_10.1), (9, .int .i64 y_23), (44, .bool (decide (y_23 ≠ 0) || decide (40 < n_1)))] ⟨rfl, rfl, rfl, rfl, rfl, (by show Value.bool _ = Value.bool _; rw [hc_35]; rfl), trivial⟩ hk
            · refine JL_opg rfl rfl hc_35 (op_read rfl rfl (r_move (v := .int .i64 n_1) rfl) ?_)
              refine JL_opg rfl rfl hc_35 (op_read rfl rfl (r_gtr rfl rfl) ?_)
              refine JL_op rfl (op_read rfl rfl (r_pick_f (v := .bool (decide (40 < n_1))) rfl hc_35 rfl) ?_)
              refine J_prune [(0, .int .i64 n_1), (2, v_6), (4, .pointer (some ⟨c_8, 0, none⟩)), (7, .bool r_10.1), (9, .int .i64 y_23), (44, .bool (decide (y_23 ≠ 0) || decide (40 < n_1)))] ⟨rfl, rfl, rfl, rfl, rfl, (by show Value.bool _ = Value.bool _; rw [hc_35]; rfl), trivial⟩ hk
            · refine JL_nil ?_
              refine J_then ?_
              refine J_cond rfl (fun hc_36 => ?_) (fun hc_36 => ?_)
              · refine J_seq ?_
                refine J_region ?_
                refine JL_op rfl (op_read rfl rfl (r_move (v := .int .i64 y_23) rfl) ?_)
                refine JL_op rfl (op_read rfl rfl (r_eql rfl rfl) ?_)
                refine JL_op rfl (op_read rfl rfl (r_move (v := .bool (decide (y_23 = 0))) rfl) ?_)
                refine J_forkL (e := (decide (y_23 = 0))) 3 [(50, .bool (decide (y_23 = 0) || !r_10.1))] (fun hc_37 hk => ?_) (fun hc_37 hk => ?_) (fun b => ?_)
                · refine JL_skip rfl rfl hc_37 rfl rfl ?_
                  refine JL_skip rfl rfl hc_37 rfl rfl ?_
                  refine JL_op rfl (op_read rfl rfl (r_pick_t (v := .bool true) rfl hc_37 rfl) ?_)
                  refine J_prune [(50, .bool (decide (y_23 = 0) || !r_10.1))] ⟨(by show Value.bool _ = Value.bool _; rw [hc_37]; rfl), trivial⟩ hk
                · refine JL_opg rfl rfl hc_37 (op_read rfl rfl (r_move (v := .bool r_10.1) rfl) ?_)
                  refine JL_opg rfl rfl hc_37 (op_read rfl rfl (r_not rfl) ?_)
                  refine JL_op rfl (op_read rfl rfl (r_pick_f (v := .bool (!r_10.1)) rfl hc_37 rfl) ?_)
                  refine J_prune [(50, .bool (decide (y_23 = 0) || !r_10.1))] ⟨(by show Value.bool _ = Value.bool _; rw [hc_37]; rfl), trivial⟩ hk
                · refine JL_op rfl (op_read rfl rfl (r_assign (v := .bool (decide (y_23 = 0) || !r_10.1)) rfl) ?_)
                  refine JL_nil ?_
                  refine J_then ?_
                  refine J_ret ?_
                  refine J_then_ret ?_
                  refine J_select (PV' := []) [] (by decide) rfl ?_
                  exact J_return1 rfl ⟨rfl, rfl⟩
              · refine J_skip ?_
                refine J_then ?_
                refine J_seq ?_
                refine J_region_any [.cell c_8 [.int .i64 goal_2.X, .int .i64 goal_2.Y, .int .i64 goal_2.C] 37] Try.mixed (by kernel_rfl) fun hns => ?_
                have hS_38 : HeldOK s_29 [.cell c_8 [.int .i64 goal_2.X, .int .i64 goal_2.Y, .int .i64 goal_2.C] 37] s_29 [.cell c_8 [.int .i64 goal_2.X, .int .i64 goal_2.Y, .int .i64 goal_2.C] 37] := HeldOK.same ⟨⟨0, rfl⟩, trivial⟩
                refine JA_take 0 rfl hns (by kernel_rfl) (by kernel_rfl) hS_38 rfl rfl rfl (r_move (v := .bool r_10.1) rfl) ?_
                refine JA_take 1 rfl hns (by kernel_rfl) (by kernel_rfl) hS_38 rfl rfl rfl (r_move (v := .int .i64 n_1) rfl) ?_
                refine JA_take 2 rfl hns (by kernel_rfl) (by kernel_rfl) hS_38 rfl rfl rfl (r_fieldAddr (r := ⟨c_8, 0, none⟩) Try.pu37 (f := Try.pf37.getD 0 default) rfl Try.pi3 (by decide) rfl rfl) ?_
                refine JA_take 3 rfl hns (by kernel_rfl) (by kernel_rfl) hS_38 rfl rfl rfl (r_load_priv (cs' := [.int .i64 goal_2.X]) (v := .int .i64 goal_2.X) 0 Try.pu3 Try.pi3 rfl rfl rfl rfl (by decide) rfl) ?_
                refine JA_take 4 rfl hns (by kernel_rfl) (by kernel_rfl) hS_38 rfl rfl rfl (r_fieldAddr (r := ⟨c_8, 1, none⟩) Try.pu37 (f := Try.pf37.getD 1 default) rfl Try.pi3 (by decide) rfl rfl) ?_
                refine JA_take 5 rfl hns (by kernel_rfl) (by kernel_rfl) hS_38 rfl rfl rfl (r_load_priv (cs' := [.int .i64 goal_2.Y]) (v := .int .i64 goal_2.Y) 0 Try.pu3 Try.pi3 rfl rfl rfl rfl (by decide) rfl) ?_
                refine JA_take 6 rfl hns (by kernel_rfl) (by kernel_rfl) hS_38 rfl rfl rfl (r_fieldAddr (r := ⟨c_8, 2, none⟩) Try.pu37 (f := Try.pf37.getD 2 default) rfl Try.pi2 (by decide) rfl rfl) ?_
                refine JA_take 7 rfl hns (by kernel_rfl) (by kernel_rfl) hS_38 rfl rfl rfl (r_load_priv (cs' := [.int .i64 goal_2.C]) (v := .int .i64 goal_2.C) 0 Try.pu2 Try.pi2 rfl rfl rfl rfl (by decide) rfl) ?_
                refine JA_take 8 rfl hns (by kernel_rfl) (by kernel_rfl) hS_38 rfl rfl rfl (r_build (cs := [.int .i64 goal_2.X, .int .i64 goal_2.Y, .int .i64 goal_2.C]) (vs := [(0, .int .i64 goal_2.X), (1, .int .i64 goal_2.Y), (2, .int .i64 goal_2.C)]) (pcs := [(0, [.int .i64 goal_2.X]), (1, [.int .i64 goal_2.Y]), (2, [.int .i64 goal_2.C])]) (pls := [(0, 1), (1, 1), (2, 1)]) Try.pu41 Try.pi41 rfl (by kernel_rfl) rfl ⟨rfl, rfl, ⟨rfl, rfl, ⟨rfl, rfl, trivial⟩⟩⟩ rfl) ?_
                refine JA_take 9 rfl hns (by kernel_rfl) (by kernel_rfl) hS_38 rfl rfl rfl (r_move (v := v_6) rfl) ?_
                refine JA_op (i := 10) (by kernel_rfl) rfl rfl (op_call (f := 12) (fn := Try.f12) (args := [v_6]) (post := lychgatelaw04_refs_post) rfl rfl rfl Try.func12 Try.pn12 rfl rfl (fun y w hy hs => lychgatelaw04_refs_ref w _ hs v_6 facts_5 (Ty.vmono _ (FS.le.trans (FS.le.trans (FS.le.trans hle_14 hle_20) hle_25) hle_30) h_7) y hy) ?_)
                intro r_39 v_41 s_42 PV_44 hy_40 hle_43 hp_45
                obtain ⟨_, rfl, rfl⟩ := hp_45
                have hS_47 : HeldOK s_29 [.cell c_8 [.int .i64 goal_2.X, .int .i64 goal_2.Y, .int .i64 goal_2.C] 37] s_42 [.row Glychgateref04_Leq t_Glychgateref04_Leq 41 v_41 r_39, .cell c_8 [.int .i64 goal_2.X, .int .i64 goal_2.Y, .int .i64 goal_2.C] 37] := HeldOK.plain hle_43 ⟨⟨1, rfl⟩, trivial⟩ trivial
                refine ⟨hS_47, ?_⟩
                refine JA_op (i := 11) (by kernel_rfl) rfl rfl (op_call_lend (f := 17) (fn := Try.f17) (args := [.int .i64 n_1, .agg #[.int .i64 goal_2.X, .int .i64 goal_2.Y, .int .i64 goal_2.C], v_41]) (post := lychgateref04_Entails_post) rfl rfl rfl Try.func17 Try.pn17 rfl rfl (fun y w τ hy hle hs hrow => lychgateref04_Entails_ref w τ hs n_1 (.agg #[.int .i64 goal_2.X, .int .i64 goal_2.Y, .int .i64 goal_2.C]) (⟨goal_2.X, goal_2.Y, goal_2.C⟩ : Glychgateref04_Leq) (Ty.vmono _ hle (t_Glychgateref04_Leq_v.2 rfl)) v_41 r_39 (hrow 0 _ _ _ _ _ rfl) y hy) (fun y σ' PV' v hp => by obtain ⟨rfl, rfl⟩ := hp; exact trivial) ?_)
                intro r_48 v_50 s_51 PV_53 hy_49 hp_54
                obtain ⟨rfl, rfl⟩ := hp_54
                have hS_55 : HeldOK s_29 [.cell c_8 [.int .i64 goal_2.X, .int .i64 goal_2.Y, .int .i64 goal_2.C] 37] s_42 [.row Glychgateref04_Leq t_Glychgateref04_Leq 41 v_41 r_39, .cell c_8 [.int .i64 goal_2.X, .int .i64 goal_2.Y, .int .i64 goal_2.C] 37] := HeldOK.plain hle_43 ⟨⟨1, rfl⟩, trivial⟩ trivial
                refine ⟨hS_55, ?_⟩
                refine JA_take 12 rfl hns (by kernel_rfl) (by kernel_rfl) hS_55 rfl rfl rfl (r_beql Try.pu4 rfl rfl) ?_
                refine JA_take 13 rfl hns (by kernel_rfl) (by kernel_rfl) hS_55 rfl rfl rfl (r_assign (v := .bool (r_10.1 == r_48)) rfl) ?_
                refine JA_done (by kernel_rfl) ?_
                refine J_then ?_
                refine J_ret ?_
                refine J_select (PV' := []) [] (by decide) rfl ?_
                exact J_return1 rfl ⟨rfl, rfl⟩
def lychgatelaw04_DiffHolds_post (r : Bool) (σ : FS) (PV : List Priv) (v : Value) : Prop :=
  v = .bool r ∧ PV = []
set_option maxRecDepth 100000 in
theorem lychgatelaw04_DiffHolds_ref (w : World) (σ : FS) (hs : σ.sub w) (n_1 : Int) (v_3 : Value) (facts_2 : Sl Gdiff_Leq) (h_4 : (tSl t_Gdiff_Leq).vrel σ v_3 facts_2) (r : Bool) (hr : lychgatelaw04_DiffHolds n_1 facts_2 = some r) : Does Try.prog 5 [.int .i64 n_1, v_3] w σ (lychgatelaw04_DiffHolds_post r) := by
  unfold lychgatelaw04_DiffHolds at hr
  refine does_of_J Try.func5 rfl (n := 66) rfl rfl hs hr ?_
  refine J_seq ?_
  refine J_region ?_
  refine JL_op rfl (op_read rfl rfl (r_assign (v := .bool false) rfl) ?_)
  refine JL_nil ?_
  refine J_then ?_
  refine J_seq ?_
  refine J_region ?_
  refine JL_op rfl (op_read rfl rfl (r_move (v := .int .i64 n_1) rfl) ?_)
  refine JL_op rfl (op_read rfl rfl (r_move (v := v_3) rfl) ?_)
  refine JL_op rfl (op_call (f := 10) (fn := Try.f10) (args := [.int .i64 n_1, v_3]) (post := diff_Solve_post) rfl rfl rfl Try.func10 Try.pn10 rfl rfl (fun y w hy hs => diff_Solve_ref w _ hs n_1 v_3 facts_2 h_4 y hy) ?_)
  intro r_5 v_7 s_8 PV_10 hy_6 hle_9 hp_11
  obtain ⟨v_12, v_14, rfl, rfl⟩ := hp_11
  refine JL_op rfl (op_read rfl rfl (r_move (v := .tuple #[v_12, v_14, .int .i64 r_5.2.2]) rfl) ?_)
  refine JL_op rfl (op_read rfl rfl (r_extract (v := v_12) rfl rfl) ?_)
  refine JL_op rfl (op_read rfl rfl (r_extract (v := v_14) rfl rfl) ?_)
  refine JL_op rfl (op_read rfl rfl (r_extract (v := .int .i64 r_5.2.2) rfl rfl) ?_)
  refine JL_op rfl (op_read rfl rfl (r_assign (v := v_12) rfl) ?_)
  refine JL_op rfl (op_read rfl rfl (r_assign (v := v_14) rfl) ?_)
  refine JL_op rfl (op_read rfl rfl (r_assign (v := .int .i64 r_5.2.2) rfl) ?_)
  refine JL_nil ?_
  refine J_then ?_
  refine J_seq ?_
  refine J_seq ?_
  refine J_region ?_
  refine JL_op rfl (op_call (f := 13) (fn := Try.f13) (args := []) (post := lychgatelaw04_wakes_post) rfl rfl rfl Try.func13 Try.pn13 rfl rfl (fun y w hy hs => lychgatelaw04_wakes_ref w _ hs  y hy) ?_)
  intro r_16 v_18 s_19 PV_21 hy_17 hle_20 hp_22
  obtain ⟨rfl, rfl⟩ := hp_22
  refine JL_op rfl (op_read rfl rfl (r_not rfl) ?_)
  refine JL_op rfl (op_read rfl rfl (r_move (v := .bool (!r_16)) rfl) ?_)
  refine J_forkL (e := (!r_16)) 3 [(0, .int .i64 n_1), (1, v_3), (5, v_12), (6, v_14), (22, .bool (!r_16 || decide (r_5.2.2 ≠ 0)))] (fun hc_23 hk => ?_) (fun hc_23 hk => ?_) (fun b => ?_)
  · refine JL_skip rfl rfl hc_23 rfl rfl ?_
    refine JL_skip rfl rfl hc_23 rfl rfl ?_
    refine JL_op rfl (op_read rfl rfl (r_pick_t (v := .bool true) rfl hc_23 rfl) ?_)
    refine J_prune [(0, .int .i64 n_1), (1, v_3), (5, v_12), (6, v_14), (22, .bool (!r_16 || decide (r_5.2.2 ≠ 0)))] ⟨rfl, rfl, rfl, rfl, (by show Value.bool _ = Value.bool _; rw [hc_23]; rfl), trivial⟩ hk
  · refine JL_opg rfl rfl hc_23 (op_read rfl rfl (r_move (v := .int .i64 r_5.2.2) rfl) ?_)
    refine JL_opg rfl rfl hc_23 (op_read rfl rfl (r_neq rfl rfl) ?_)
    refine JL_op rfl (op_read rfl rfl (r_pick_f (v := .bool (decide (r_5.2.2 ≠ 0))) rfl hc_23 rfl) ?_)
    refine J_prune [(0, .int .i64 n_1), (1, v_3), (5, v_12), (6, v_14), (22, .bool (!r_16 || decide (r_5.2.2 ≠ 0)))] ⟨rfl, rfl, rfl, rfl, (by show Value.bool _ = Value.bool _; rw [hc_23]; rfl), trivial⟩ hk
  · refine JL_nil ?_
    refine J_then ?_
    refine J_cond rfl (fun hc_24 => ?_) (fun hc_24 => ?_)
    · refine J_seq ?_
      refine J_region ?_
      refine JL_op rfl (op_call (f := 13) (fn := Try.f13) (args := []) (post := lychgatelaw04_wakes_post) rfl rfl rfl Try.func13 Try.pn13 rfl rfl (fun y w hy hs => lychgatelaw04_wakes_ref w _ hs  y hy) ?_)
      intro r_25 v_27 s_28 PV_30 hy_26 hle_29 hp_31
      obtain ⟨rfl, rfl⟩ := hp_31
      refine JL_op rfl (op_read rfl rfl (r_assign (v := .bool r_25) rfl) ?_)
      refine JL_nil ?_
      refine J_then ?_
      refine J_ret ?_
      refine J_then_ret ?_
      refine J_select (PV' := []) [] (by decide) rfl ?_
      exact J_return1 rfl ⟨rfl, rfl⟩
    · refine J_skip ?_
      refine J_then ?_
      refine J_seq ?_
      refine J_seq ?_
      refine J_region ?_
      refine JL_op rfl (op_read rfl rfl (r_move (v := v_12) rfl) ?_)
      refine JL_op rfl (op_read rfl rfl (r_len_row (v := v_12) 0 Try.pu23 rfl rfl) ?_)
      refine JL_op rfl (op_read rfl rfl (r_eql rfl rfl) ?_)
      refine JL_nil ?_
      refine J_then ?_
      refine J_cond rfl (fun hc_32 => ?_) (fun hc_32 => ?_)
      · refine J_seq ?_
        refine J_region ?_
        refine JL_op rfl (op_read rfl rfl (r_move (v := v_3) rfl) ?_)
        refine JL_op rfl (op_read rfl rfl (r_move (v := v_14) rfl) ?_)
        refine JL_op rfl (op_call_lend (f := 15) (fn := Try.f15) (args := [v_3, v_14]) (post := lychgatelaw04_circle_post) rfl rfl rfl Try.func15 Try.pn15 rfl rfl (fun y w τ hy hle hs hrow => lychgatelaw04_circle_ref w τ hs v_3 facts_2 (Ty.vmono _ hle (Ty.vmono _ (FS.le.trans hle_9 hle_20) h_4)) v_14 r_5.2.1 (hrow 1 _ _ _ _ _ rfl) y hy) (fun y σ' PV' v hp => by obtain ⟨rfl, rfl⟩ := hp; exact trivial) ?_)
        intro r_33 v_35 s_36 PV_38 hy_34 hp_39
        obtain ⟨rfl, rfl⟩ := hp_39
        refine JL_op rfl (op_read rfl rfl (r_assign (v := .bool r_33) rfl) ?_)
        refine JL_nil ?_
        refine J_then ?_
        refine J_ret ?_
        refine J_then_ret ?_
        refine J_select (PV' := []) [] (by decide) rfl ?_
        exact J_return1 rfl ⟨rfl, rfl⟩
      · refine J_skip ?_
        refine J_then ?_
        refine J_seq ?_
        refine J_seq ?_
        refine J_region ?_
        refine JL_op rfl (op_read rfl rfl (r_move (v := v_12) rfl) ?_)
        refine JL_op rfl (op_read rfl rfl (r_len_row (v := v_12) 0 Try.pu23 rfl rfl) ?_)
        refine JL_op rfl (op_read rfl rfl (r_move (v := .int .i64 n_1) rfl) ?_)
        refine JL_op rfl (op_read rfl rfl (r_neq rfl rfl) ?_)
        refine JL_op rfl (op_read rfl rfl (r_move (v := .bool (decide (r_5.1.len ≠ n_1))) rfl) ?_)
        refine J_forkLB (e := (decide (r_5.1.len ≠ n_1))) 5 (fun (b_41 : Bool) L τ PV => s_19.le τ ∧ L = [(1, v_3), (5, v_12), (6, v_14), (39, .bool b_41)] ∧ PV = [.row Int (tInt .i64) 2 v_12 r_5.1, .row Int (tInt .i64) 3 v_14 r_5.2.1]) (fun hc_40 hk => ?_) (fun hc_40 hk => ?_) ?_
        · refine JL_skip rfl rfl hc_40 rfl rfl ?_
          refine JL_skip rfl rfl hc_40 rfl rfl ?_
          refine JL_skip rfl rfl hc_40 rfl rfl ?_
          refine JL_skip rfl rfl hc_40 rfl rfl ?_
          refine JL_op rfl (op_read rfl rfl (r_pick_t (v := .bool true) rfl hc_40 rfl) ?_)
          refine J_prune _ ?_ fun b => hk true _ b _ _ ⟨(FS.le.refl _), rfl, rfl⟩
          exact ⟨rfl, rfl, rfl, rfl, trivial⟩
        · refine JL_opg rfl rfl hc_40 (op_read rfl rfl (r_move (v := v_12) rfl) ?_)
          refine J_assoc ?_
          refine J_bind fun x_42 hx_43 => ?_
          refine JL_opg rfl rfl hc_40 (op_read rfl rfl (r_index_row (v := v_12) (T := (tInt .i64)) (q := x_42) 0 Try.pu23 Try.pi2 rfl rfl rfl rfl hx_43) ?_)
          refine JL_opg rfl rfl hc_40 (op_reads rfl rfl (l_elem_row (v := v_12) (T := (tInt .i64)) (Tf := (tInt .i64)) (q := x_42) (i := 0) (off := 0) 0 Try.pu2 Try.pi2 rfl rfl rfl rfl hx_43 (FieldAt.self _) (by decide)) ?_)
          intro v_44 h_45
          obtain rfl := tInt_v.1 h_45
          refine JL_opg rfl rfl hc_40 (op_read rfl rfl (r_neq rfl rfl) ?_)
          refine JL_op rfl (op_read rfl rfl (r_pick_f (v := .bool (decide (x_42 ≠ 0))) rfl hc_40 rfl) ?_)
          refine J_prune _ ?_ fun b => hk (decide (x_42 ≠ 0)) _ b _ _ ⟨(FS.le.refl _), rfl, rfl⟩
          exact ⟨rfl, rfl, rfl, rfl, trivial⟩
        · rintro b_41 _ b s_46 _ ⟨hle_47, rfl, rfl⟩
          refine JL_op rfl (op_read rfl rfl (r_move (v := .bool b_41) rfl) ?_)
          refine J_forkL (e := b_41) 4 [(1, v_3), (5, v_12), (44, .bool (b_41 || decide (r_5.2.1.len ≠ 0)))] (fun hc_48 hk => ?_) (fun hc_48 hk => ?_) (fun b => ?_)
          · refine JL_skip rfl rfl hc_48 rfl rfl ?_
            refine JL_skip rfl rfl hc_48 rfl rfl ?_
            refine JL_skip rfl rfl hc_48 rfl rfl ?_
            refine JL_op rfl (op_read rfl rfl (r_pick_t (v := .bool true) rfl hc_48 rfl) ?_)
            refine J_prune [(1, v_3), (5, v_12), (44, .bool (b_41 || decide (r_5.2.1.len ≠ 0)))] ⟨rfl, rfl, (by show Value.bool _ = Value.bool _; rw [hc_48]; rfl), trivial⟩ hk
          · refine JL_opg rfl rfl hc_48 (op_read rfl rfl (r_move (v := v_14) rfl) ?_)
            refine JL_opg rfl rfl hc_48 (op_read rfl rfl (r_len_row (v := v_14) 1 Try.pu24 rfl rfl) ?_)
            refine JL_opg rfl rfl hc_48 (op_read rfl rfl (r_neq rfl rfl) ?_)
            refine JL_op rfl (op_read rfl rfl (r_pick_f (v := .bool (decide (r_5.2.1.len ≠ 0))) rfl hc_48 rfl) ?_)
            refine J_prune [(1, v_3), (5, v_12), (44, .bool (b_41 || decide (r_5.2.1.len ≠ 0)))] ⟨rfl, rfl, (by show Value.bool _ = Value.bool _; rw [hc_48]; rfl), trivial⟩ hk
          · refine JL_nil ?_
            refine J_then ?_
            refine J_cond rfl (fun hc_49 => ?_) (fun hc_49 => ?_)
            · refine J_seq ?_
              refine J_region ?_
              refine JL_op rfl (op_read rfl rfl (r_assign (v := .bool false) rfl) ?_)
              refine JL_nil ?_
              refine J_then ?_
              refine J_ret ?_
              refine J_then_ret ?_
              refine J_select (PV' := []) [] (by decide) rfl ?_
              exact J_return1 rfl ⟨rfl, rfl⟩
            · refine J_skip ?_
              refine J_then ?_
              refine J_seq ?_
              refine J_seq ?_
              refine J_region ?_
              refine JL_op rfl (op_read rfl rfl (r_move (v := v_3) rfl) ?_)
              refine JL_op rfl (op_read rfl rfl (r_len_frozen (v := v_3) Try.pu22 rfl (Ty.vmono _ (FS.le.trans (FS.le.trans hle_9 hle_20) hle_47) h_4)) ?_)
              refine JL_op rfl (op_read rfl rfl (r_move (v := .int .i64 0) rfl) ?_)
              refine JL_nil ?_
              refine J_then ?_
              refine J_block ?_
              refine J_select (PV' := [.row Int (tInt .i64) 2 v_12 r_5.1]) [0] (by decide) rfl ?_
              refine J_loop (fun (y : Int) L τ PV => s_46.le τ ∧ L = [(5, v_12), (45, v_3), (46, .int .i64 facts_2.len), (47, .int .i64 y)] ∧ PV = [.row Int (tInt .i64) 2 v_12 r_5.1]) (fun (y : W2 Unit Unit) e L τ PV => match y, e with | .a y, e => e = .exit 0 ∧ (s_46.le τ ∧ L = [] ∧ PV = []) | .b y, e => e = .ret ∧ (s_46.le τ ∧ L = [(4, .bool false)] ∧ PV = [])) _ ?_ ⟨(FS.le.refl _), rfl, rfl⟩ ?_ ?_
              · exact ⟨rfl, rfl, rfl, rfl, trivial⟩
              · rintro x_50 _ b s_51 _ ⟨hle_52, rfl, rfl⟩
                unfold lychgatelaw04_DiffHolds_L1
                refine J_seq ?_
                refine J_region ?_
                refine JL_op rfl (op_read rfl rfl (r_lss rfl rfl) ?_)
                refine JL_nil ?_
                refine J_then ?_
                refine J_seq ?_
                refine J_cond rfl (fun hc_53 => ?_) (fun hc_53 => ?_)
                · refine J_skip ?_
                  refine J_then ?_
                  refine J_seq ?_
                  refine J_block ?_
                  refine J_seq ?_
                  refine J_region ?_
                  refine J_bind fun x_54 hx_55 => ?_
                  refine JL_op rfl (op_read rfl rfl (r_index_frozen (v := v_3) (T := t_Gdiff_Leq) (q := x_54) Try.pu22 Try.pi37 rfl rfl rfl (Ty.vmono _ (FS.le.trans (FS.le.trans (FS.le.trans hle_9 hle_20) hle_47) hle_52) h_4) hx_55) ?_)
                  refine JL_op rfl (op_reads rfl rfl (l_elem_frozen (v := v_3) (T := t_Gdiff_Leq) (Tf := t_Gdiff_Leq) (q := x_54) (i := x_50) (off := 0) Try.pu37 Try.pi37 rfl rfl rfl (Ty.vmono _ (FS.le.trans (FS.le.trans (FS.le.trans hle_9 hle_20) hle_47) hle_52) h_4) hx_55 (FieldAt.self _) (by decide)) ?_)
                  intro v_56 h_57
                  obtain rfl := t_Gdiff_Leq_v.1 h_57
                  refine JL_op rfl (op_alloc (cs := [.int .i64 0, .int .i64 0, .int .i64 0]) rfl Try.pi37 rfl rfl ?_)
                  intro c_58
                  refine JL_op rfl (op_store_priv (vs := [.int .i64 x_54.X, .int .i64 x_54.Y, .int .i64 x_54.C]) (cs' := [.int .i64 x_54.X, .int .i64 x_54.Y, .int .i64 x_54.C]) (PV' := [.cell c_58 [.int .i64 x_54.X, .int .i64 x_54.Y, .int .i64 x_54.C] 37, .row Int (tInt .i64) 2 v_12 r_5.1]) 0 Try.pi37 rfl rfl rfl ⟨rfl, rfl, rfl, trivial⟩ rfl rfl rfl rfl ?_)
                  refine JL_nil ?_
                  refine J_then ?_
                  refine J_seq ?_
                  refine J_region_any [.cell c_58 [.int .i64 x_54.X, .int .i64 x_54.Y, .int .i64 x_54.C] 37, .row Int (tInt .i64) 2 v_12 r_5.1] Try.mixed (by kernel_rfl) fun hns => ?_
                  have hS_60 : HeldOK s_51 [.cell c_58 [.int .i64 x_54.X, .int .i64 x_54.Y, .int .i64 x_54.C] 37, .row Int (tInt .i64) 2 v_12 r_5.1] s_51 [.cell c_58 [.int .i64 x_54.X, .int .i64 x_54.Y, .int .i64 x_54.C] 37, .row Int (tInt .i64) 2 v_12 r_5.1] := HeldOK.same ⟨⟨0, rfl⟩, ⟨1, rfl⟩, trivial⟩
                  refine JA_take 0 rfl hns (by kernel_rfl) (by kernel_rfl) hS_60 rfl rfl rfl (r_move (v := v_12) rfl) ?_
                  refine JA_take 1 rfl hns (by kernel_rfl) (by kernel_rfl) hS_60 rfl rfl rfl (r_fieldAddr (r := ⟨c_58, 0, none⟩) Try.pu37 (f := Try.pf37.getD 0 default) rfl Try.pi3 (by decide) rfl rfl) ?_
                  refine JA_take 2 rfl hns (by kernel_rfl) (by kernel_rfl) hS_60 rfl rfl rfl (r_load_priv (cs' := [.int .i64 x_54.X]) (v := .int .i64 x_54.X) 0 Try.pu3 Try.pi3 rfl rfl rfl rfl (by decide) rfl) ?_
                  refine J_bind fun x_61 hx_62 => ?_
                  refine JA_take 3 rfl hns (by kernel_rfl) (by kernel_rfl) hS_60 rfl rfl rfl (r_index_row (v := v_12) (T := (tInt .i64)) (q := x_61) 1 Try.pu23 Try.pi2 rfl rfl rfl rfl hx_62) ?_
                  refine JA_takes 4 rfl hns (by kernel_rfl) (by kernel_rfl) hS_60 rfl rfl rfl (l_elem_row (v := v_12) (T := (tInt .i64)) (Tf := (tInt .i64)) (q := x_61) (i := x_54.X) (off := 0) 1 Try.pu2 Try.pi2 rfl rfl rfl rfl hx_62 (FieldAt.self _) (by decide)) ?_
                  intro v_63 h_64
                  obtain rfl := tInt_v.1 h_64
                  refine JA_take 5 rfl hns (by kernel_rfl) (by kernel_rfl) hS_60 rfl rfl rfl (r_move (v := v_12) rfl) ?_
                  refine JA_take 6 rfl hns (by kernel_rfl) (by kernel_rfl) hS_60 rfl rfl rfl (r_fieldAddr (r := ⟨c_58, 1, none⟩) Try.pu37 (f := Try.pf37.getD 1 default) rfl Try.pi3 (by decide) rfl rfl) ?_
                  refine JA_take 7 rfl hns (by kernel_rfl) (by kernel_rfl) hS_60 rfl rfl rfl (r_load_priv (cs' := [.int .i64 x_54.Y]) (v := .int .i64 x_54.Y) 0 Try.pu3 Try.pi3 rfl rfl rfl rfl (by decide) rfl) ?_
                  refine J_bind fun x_65 hx_66 => ?_
                  refine JA_take 8 rfl hns (by kernel_rfl) (by kernel_rfl) hS_60 rfl rfl rfl (r_index_row (v := v_12) (T := (tInt .i64)) (q := x_65) 1 Try.pu23 Try.pi2 rfl rfl rfl rfl hx_66) ?_
                  refine JA_takes 9 rfl hns (by kernel_rfl) (by kernel_rfl) hS_60 rfl rfl rfl (l_elem_row (v := v_12) (T := (tInt .i64)) (Tf := (tInt .i64)) (q := x_65) (i := x_54.Y) (off := 0) 1 Try.pu2 Try.pi2 rfl rfl rfl rfl hx_66 (FieldAt.self _) (by decide)) ?_
                  intro v_67 h_68
                  obtain rfl := tInt_v.1 h_68
                  refine JA_take 10 rfl hns (by kernel_rfl) (by kernel_rfl) hS_60 rfl rfl rfl (r_sub rfl rfl) ?_
                  refine JA_take 11 rfl hns (by kernel_rfl) (by kernel_rfl) hS_60 rfl rfl rfl (r_fieldAddr (r := ⟨c_58, 2, none⟩) Try.pu37 (f := Try.pf37.getD 2 default) rfl Try.pi2 (by decide) rfl rfl) ?_
                  refine JA_take 12 rfl hns (by kernel_rfl) (by kernel_rfl) hS_60 rfl rfl rfl (r_load_priv (cs' := [.int .i64 x_54.C]) (v := .int .i64 x_54.C) 0 Try.pu2 Try.pi2 rfl rfl rfl rfl (by decide) rfl) ?_
                  refine JA_take 13 rfl hns (by kernel_rfl) (by kernel_rfl) hS_60 rfl rfl rfl (r_gtr rfl rfl) ?_
                  refine JA_done (by kernel_rfl) ?_
                  refine J_then ?_
                  refine J_cond rfl (fun hc_69 => ?_) (fun hc_69 => ?_)
                  · refine J_seq ?_
                    refine J_region ?_
                    refine JL_op rfl (op_read rfl rfl (r_assign (v := .bool false) rfl) ?_)
                    refine JL_nil ?_
                    refine J_then ?_
                    refine J_ret ?_
                    refine J_in_ret ?_
                    refine J_then_ret ?_
                    refine J_select (PV' := []) [] (by decide) rfl ?_
                    refine J_done trivial _ ?_ ⟨rfl, hle_52, rfl, rfl⟩
                    exact ⟨rfl, trivial⟩
                  · refine J_skip ?_
                    refine J_in_normal ?_
                    refine J_then ?_
                    refine J_region ?_
                    refine JL_op rfl (op_read rfl rfl (r_add rfl rfl) ?_)
                    refine JL_op rfl (op_read rfl rfl (r_move (v := .int .i64 (IntKind.i64.wrap (x_50 + 1))) rfl) ?_)
                    refine JL_nil ?_
                    refine J_select (PV' := [.row Int (tInt .i64) 2 v_12 r_5.1]) [1] (by decide) rfl ?_
                    refine J_next _ ?_ ⟨hle_52, rfl, rfl⟩
                    exact ⟨rfl, rfl, rfl, rfl, trivial⟩
                · refine J_exit ?_
                  refine J_then_exit ?_
                  refine J_select (PV' := []) [] (by decide) rfl ?_
                  refine J_done trivial _ ?_ ⟨rfl, hle_52, rfl, rfl⟩
                  exact trivial
              · rintro (y_71 | y_74) e L b τ PV ht
                · obtain ⟨rfl, ht⟩ := ht
                  revert ht; revert PV; revert τ; revert b; revert L
                  rintro _ b s_72 _ ⟨hle_73, rfl, rfl⟩
                  refine J_in_exit ?_
                  refine J_then ?_
                  refine J_seq ?_
                  refine J_region ?_
                  refine JL_op rfl (op_read rfl rfl (r_assign (v := .bool true) rfl) ?_)
                  refine JL_nil ?_
                  refine J_then ?_
                  refine J_ret ?_
                  exact J_return1 rfl ⟨rfl, rfl⟩
                · obtain ⟨rfl, ht⟩ := ht
                  revert ht; revert PV; revert τ; revert b; revert L
                  rintro _ b s_75 _ ⟨hle_76, rfl, rfl⟩
                  refine J_in_ret ?_
                  refine J_then_ret ?_
                  exact J_return1 rfl ⟨rfl, rfl⟩
def lychgatelaw04_DiffSound_post (r : Bool) (σ : FS) (PV : List Priv) (v : Value) : Prop :=
  v = .bool r ∧ PV = []
set_option maxRecDepth 100000 in
theorem lychgatelaw04_DiffSound_ref (w : World) (σ : FS) (hs : σ.sub w) (v_2 : Value) (numbers_1 : Sl Int) (h_3 : (tSl (tInt .i64)).vrel σ v_2 numbers_1) (v_5 : Value) (facts_4 : Sl Gdiff_Leq) (h_6 : (tSl t_Gdiff_Leq).vrel σ v_5 facts_4) (v_8 : Value) (goal_7 : Gdiff_Leq) (h_9 : t_Gdiff_Leq.vrel σ v_8 goal_7) (r : Bool) (hr : lychgatelaw04_DiffSound numbers_1 facts_4 goal_7 = some r) : Does Try.prog 6 [v_2, v_5, v_8] w σ (lychgatelaw04_DiffSound_post r) := by
  unfold lychgatelaw04_DiffSound at hr
  obtain rfl := t_Gdiff_Leq_v.1 h_9
  refine does_of_J Try.func6 rfl (n := 147) rfl rfl hs hr ?_
  refine J_seq ?_
  refine J_region ?_
  refine JL_op rfl (op_box (cs := [.int .i64 goal_7.X, .int .i64 goal_7.Y, .int .i64 goal_7.C]) rfl rfl ?_)
  intro c_10
  refine JL_op rfl (op_read rfl rfl (r_assign (v := .bool false) rfl) ?_)
  refine JL_nil ?_
  refine J_then ?_
  refine J_seq ?_
  refine J_seq ?_
  refine J_region ?_
  refine JL_op rfl (op_call (f := 13) (fn := Try.f13) (args := []) (post := lychgatelaw04_wakes_post) rfl rfl rfl Try.func13 Try.pn13 rfl rfl (fun y w hy hs => lychgatelaw04_wakes_ref w _ hs  y hy) ?_)
  intro r_12 v_14 s_15 PV_17 hy_13 hle_16 hp_18
  obtain ⟨rfl, rfl⟩ := hp_18
  refine JL_op rfl (op_read rfl rfl (r_not rfl) ?_)
  refine JL_nil ?_
  refine J_then ?_
  refine J_cond rfl (fun hc_19 => ?_) (fun hc_19 => ?_)
  · refine J_seq ?_
    refine J_region ?_
    refine JL_op rfl (op_read rfl rfl (r_assign (v := .bool false) rfl) ?_)
    refine JL_nil ?_
    refine J_then ?_
    refine J_ret ?_
    refine J_then_ret ?_
    refine J_select (PV' := []) [] (by decide) rfl ?_
    exact J_return1 rfl ⟨rfl, rfl⟩
  · refine J_skip ?_
    refine J_then ?_
    refine J_seq ?_
    refine J_region ?_
    refine JL_op rfl (op_read rfl rfl (r_move (v := v_2) rfl) ?_)
    refine JL_op rfl (op_read rfl rfl (r_len_frozen (v := v_2) Try.pu23 rfl (Ty.vmono _ hle_16 h_3)) ?_)
    refine JL_op rfl (op_read rfl rfl (r_min rfl rfl) ?_)
    refine JL_op rfl (op_read rfl rfl (r_assign (v := .int .i64 (if 30 < numbers_1.len then 30 else numbers_1.len)) rfl) ?_)
    refine JL_nil ?_
    refine J_then ?_
    refine J_seq ?_
    refine J_seq ?_
    refine J_region ?_
    refine JL_op rfl (op_read rfl rfl (r_move (v := .int .i64 (if 30 < numbers_1.len then 30 else numbers_1.len)) rfl) ?_)
    refine JL_op rfl (op_read rfl rfl (r_lss rfl rfl) ?_)
    refine JL_nil ?_
    refine J_then ?_
    refine J_cond rfl (fun hc_20 => ?_) (fun hc_20 => ?_)
    · refine J_seq ?_
      refine J_region ?_
      refine JL_op rfl (op_read rfl rfl (r_assign (v := .bool true) rfl) ?_)
      refine JL_nil ?_
      refine J_then ?_
      refine J_ret ?_
      refine J_then_ret ?_
      refine J_select (PV' := []) [] (by decide) rfl ?_
      exact J_return1 rfl ⟨rfl, rfl⟩
    · refine J_skip ?_
      refine J_then ?_
      refine J_seq ?_
      refine J_region ?_
      refine JL_op rfl (op_read rfl rfl (r_move (v := .int .i64 (if 30 < numbers_1.len then 30 else numbers_1.len)) rfl) ?_)
      refine JL_op rfl (op_make (T := (tInt .i64)) (q := 0) rfl Try.pu23 Try.pi2 rfl rfl rfl rfl rfl (fun σ => rfl) ?_)
      intro s_21 v_23 hm_22
      refine JL_op rfl (op_read rfl rfl (r_assign (v := v_23) rfl) ?_)
      refine JL_nil ?_
      refine J_then ?_
      refine J_seq ?_
      refine J_seq ?_
      refine J_region ?_
      refine JL_op rfl (op_read rfl rfl (r_move (v := v_23) rfl) ?_)
      refine JL_op rfl (op_read rfl rfl (r_len_row (v := v_23) 0 Try.pu23 rfl rfl) ?_)
      refine JL_op rfl (op_read rfl rfl (r_move (v := .int .i64 0) rfl) ?_)
      refine JL_nil ?_
      refine J_then ?_
      refine J_block ?_
      refine J_loop (fun (y : (Sl Int) × Int) L τ PV => ∃ (w0 : Value), s_15.le τ ∧ L = [(0, v_2), (1, v_5), (5, .pointer (some ⟨c_10, 0, none⟩)), (7, .int .i64 (if 30 < numbers_1.len then 30 else numbers_1.len)), (8, w0), (28, .int .i64 s_21.len), (29, .int .i64 y.2)] ∧ PV = [.row Int (tInt .i64) 2 w0 y.1, .cell c_10 [.int .i64 goal_7.X, .int .i64 goal_7.Y, .int .i64 goal_7.C] 37]) (fun (y : (Sl Int)) e L τ PV => e = .exit 0 ∧ (∃ (w0 : Value), s_15.le τ ∧ L = [(1, v_5), (5, .pointer (some ⟨c_10, 0, none⟩)), (7, .int .i64 (if 30 < numbers_1.len then 30 else numbers_1.len)), (8, w0)] ∧ PV = [.row Int (tInt .i64) 2 w0 y, .cell c_10 [.int .i64 goal_7.X, .int .i64 goal_7.Y, .int .i64 goal_7.C] 37])) _ ?_ ⟨v_23, (FS.le.refl _), rfl, rfl⟩ ?_ ?_
      · exact ⟨rfl, rfl, rfl, rfl, rfl, rfl, rfl, trivial⟩
      · rintro x_25 _ b s_26 _ ⟨v_28, hle_27, rfl, rfl⟩
        unfold lychgatelaw04_DiffSound_L1
        refine J_seq ?_
        refine J_region ?_
        refine JL_op rfl (op_read rfl rfl (r_lss rfl rfl) ?_)
        refine JL_nil ?_
        refine J_then ?_
        refine J_seq ?_
        refine J_cond rfl (fun hc_29 => ?_) (fun hc_29 => ?_)
        · refine J_skip ?_
          refine J_then ?_
          refine J_seq ?_
          refine J_block ?_
          refine J_seq ?_
          refine J_region ?_
          refine JL_op rfl (op_read rfl rfl (r_move (v := .int .i64 x_25.2) rfl) ?_)
          refine JL_op rfl (op_read rfl rfl (r_assign (v := .int .i64 x_25.2) rfl) ?_)
          refine JL_nil ?_
          refine J_then ?_
          refine J_region ?_
          refine JL_op rfl (op_read rfl rfl (r_move (v := v_28) rfl) ?_)
          refine JL_op rfl (op_read rfl rfl (r_move (v := .int .i64 x_25.2) rfl) ?_)
          refine JL_op rfl (op_read rfl rfl (r_move (v := v_2) rfl) ?_)
          refine JL_op rfl (op_read rfl rfl (r_move (v := .int .i64 x_25.2) rfl) ?_)
          refine J_bind fun x_30 hx_31 => ?_
          refine JL_op rfl (op_read rfl rfl (r_index_frozen (v := v_2) (T := (tInt .i64)) (q := x_30) Try.pu23 Try.pi2 rfl rfl rfl (Ty.vmono _ (FS.le.trans hle_16 hle_27) h_3) hx_31) ?_)
          refine JL_op rfl (op_reads rfl rfl (l_elem_frozen (v := v_2) (T := (tInt .i64)) (Tf := (tInt .i64)) (q := x_30) (i := x_25.2) (off := 0) Try.pu2 Try.pi2 rfl rfl rfl (Ty.vmono _ (FS.le.trans hle_16 hle_27) h_3) hx_31 (FieldAt.self _) (by decide)) ?_)
          intro v_32 h_33
          obtain rfl := tInt_v.1 h_33
          refine JL_op rfl (op_read rfl rfl (r_min rfl rfl) ?_)
          refine JL_op rfl (op_read rfl rfl (r_max rfl rfl) ?_)
          refine J_bind fun x_34 hx_35 => ?_
          refine JL_op rfl (op_read rfl rfl (r_index_row (v := v_28) (T := (tInt .i64)) (q := x_34) 0 Try.pu23 Try.pi2 rfl rfl rfl rfl hx_35) ?_)
          refine JL_op rfl (op_store_row (v := v_28) (u := .int .i64 (if (-1099511627776) < (if 1099511627776 < x_30 then 1099511627776 else x_30) then (if 1099511627776 < x_30 then 1099511627776 else x_30) else (-1099511627776))) (T := (tInt .i64)) (q := (if (-1099511627776) < (if 1099511627776 < x_30 then 1099511627776 else x_30) then (if 1099511627776 < x_30 then 1099511627776 else x_30) else (-1099511627776))) (i := x_25.2) 0 Try.pi2 rfl rfl rfl (tInt_v.2 rfl) rfl ?_)
          intro s_36 hs_37
          refine JL_nil ?_
          refine J_in_normal ?_
          refine J_then ?_
          refine J_region ?_
          refine JL_op rfl (op_read rfl rfl (r_add rfl rfl) ?_)
          refine JL_op rfl (op_read rfl rfl (r_move (v := .int .i64 (IntKind.i64.wrap (x_25.2 + 1))) rfl) ?_)
          refine JL_nil ?_
          refine J_next _ ?_ ⟨v_28, hle_27, rfl, rfl⟩
          exact ⟨rfl, rfl, rfl, rfl, rfl, rfl, rfl, trivial⟩
        · refine J_exit ?_
          refine J_then_exit ?_
          refine J_done trivial _ ?_ ⟨rfl, v_28, hle_27, rfl, rfl⟩
          exact ⟨rfl, rfl, rfl, rfl, trivial⟩
      · rintro y_38 _ _ b s_39 _ ⟨rfl, ⟨v_41, hle_40, rfl, rfl⟩⟩
        refine J_in_exit ?_
        refine J_then ?_
        refine J_seq ?_
        refine J_region ?_
        refine JL_op rfl (op_read rfl rfl (r_assign (v := .slice none 0 0) rfl) ?_)
        refine JL_nil ?_
        refine J_then ?_
        refine J_seq ?_
        refine J_seq ?_
        refine J_region ?_
        refine JL_op rfl (op_read rfl rfl (r_move (v := v_5) rfl) ?_)
        refine JL_op rfl (op_read rfl rfl (r_move (v := v_5) rfl) ?_)
        refine JL_op rfl (op_read rfl rfl (r_len_frozen (v := v_5) Try.pu22 rfl (Ty.vmono _ (FS.le.trans hle_16 hle_40) h_6)) ?_)
        refine JL_op rfl (op_read rfl rfl (r_min rfl rfl) ?_)
        refine J_bind fun s_42 hs_43 => ?_
        refine JL_op rfl (op_reads rfl rfl (l_slice_frozen (v := v_5) (T := t_Gdiff_Leq) (s' := s_42) (i := 0) (j := (if 500 < facts_4.len then 500 else facts_4.len)) Try.pu22 Try.pi37 rfl rfl (Ty.vmono _ (FS.le.trans hle_16 hle_40) h_6) rfl ⟨_, rfl⟩ hs_43) ?_)
        intro v_44 h_45
        refine JL_op rfl (op_read rfl rfl (r_len_frozen (v := v_44) Try.pu22 rfl h_45) ?_)
        refine JL_op rfl (op_read rfl rfl (r_move (v := .int .i64 0) rfl) ?_)
        refine JL_nil ?_
        refine J_then ?_
        refine J_block ?_
        refine J_nil_row t_Gdiff_Leq 37 ?_
        refine J_select (PV' := [.row Int (tInt .i64) 2 v_41 y_38, .cell c_10 [.int .i64 goal_7.X, .int .i64 goal_7.Y, .int .i64 goal_7.C] 37, .row Gdiff_Leq t_Gdiff_Leq 37 (.slice none 0 0) (⟨[], false⟩ : Sl Gdiff_Leq)]) [1, 2, 0] (by decide) rfl ?_
        refine J_loop (fun (y : (Sl Gdiff_Leq) × Int) L τ PV => ∃ (w0 : Value), s_39.le τ ∧ L = [(5, .pointer (some ⟨c_10, 0, none⟩)), (7, .int .i64 (if 30 < numbers_1.len then 30 else numbers_1.len)), (8, v_41), (10, w0), (46, v_44), (47, .int .i64 s_42.len), (48, .int .i64 y.2)] ∧ PV = [.row Int (tInt .i64) 2 v_41 y_38, .cell c_10 [.int .i64 goal_7.X, .int .i64 goal_7.Y, .int .i64 goal_7.C] 37, .row Gdiff_Leq t_Gdiff_Leq 37 w0 y.1]) (fun (y : (Sl Gdiff_Leq)) e L τ PV => e = .exit 2 ∧ (∃ (w0 : Value), s_39.le τ ∧ L = [(5, .pointer (some ⟨c_10, 0, none⟩)), (7, .int .i64 (if 30 < numbers_1.len then 30 else numbers_1.len)), (8, v_41), (10, w0)] ∧ PV = [.row Int (tInt .i64) 2 v_41 y_38, .cell c_10 [.int .i64 goal_7.X, .int .i64 goal_7.Y, .int .i64 goal_7.C] 37, .row Gdiff_Leq t_Gdiff_Leq 37 w0 y])) _ ?_ ⟨(.slice none 0 0), (FS.le.refl _), rfl, rfl⟩ ?_ ?_
        · exact ⟨rfl, rfl, rfl, rfl, rfl, rfl, rfl, trivial⟩
        · rintro x_47 _ b s_48 _ ⟨v_50, hle_49, rfl, rfl⟩
          unfold lychgatelaw04_DiffSound_L2
          refine J_seq ?_
          refine J_region ?_
          refine JL_op rfl (op_read rfl rfl (r_lss rfl rfl) ?_)
          refine JL_nil ?_
          refine J_then ?_
          refine J_seq ?_
          refine J_cond rfl (fun hc_52 => ?_) (fun hc_52 => ?_)
          · refine J_skip ?_
            refine J_then ?_
            refine J_seq ?_
            refine J_cut (fun (y : (Sl Gdiff_Leq)) e L τ PV => e = .normal ∧ (∃ (w0 : Value), s_48.le τ ∧ L = [(5, .pointer (some ⟨c_10, 0, none⟩)), (7, .int .i64 (if 30 < numbers_1.len then 30 else numbers_1.len)), (8, v_41), (10, w0), (46, v_44), (47, .int .i64 s_42.len), (48, .int .i64 x_47.2)] ∧ PV = [.row Int (tInt .i64) 2 v_41 y_38, .cell c_10 [.int .i64 goal_7.X, .int .i64 goal_7.Y, .int .i64 goal_7.C] 37, .row Gdiff_Leq t_Gdiff_Leq 37 w0 y])) ?_ ?_
            · refine J_block ?_
              refine J_seq ?_
              refine J_region ?_
              refine J_bind fun x_53 hx_54 => ?_
              refine JL_op rfl (op_read rfl rfl (r_index_frozen (v := v_44) (T := t_Gdiff_Leq) (q := x_53) Try.pu22 Try.pi37 rfl rfl rfl (Ty.vmono _ hle_49 h_45) hx_54) ?_)
              refine JL_op rfl (op_reads rfl rfl (l_elem_frozen (v := v_44) (T := t_Gdiff_Leq) (Tf := t_Gdiff_Leq) (q := x_53) (i := x_47.2) (off := 0) Try.pu37 Try.pi37 rfl rfl rfl (Ty.vmono _ hle_49 h_45) hx_54 (FieldAt.self _) (by decide)) ?_)
              intro v_55 h_56
              obtain rfl := t_Gdiff_Leq_v.1 h_56
              refine JL_op rfl (op_alloc (cs := [.int .i64 0, .int .i64 0, .int .i64 0]) rfl Try.pi37 rfl rfl ?_)
              intro c_57
              refine JL_op rfl (op_store_priv (vs := [.int .i64 x_53.X, .int .i64 x_53.Y, .int .i64 x_53.C]) (cs' := [.int .i64 x_53.X, .int .i64 x_53.Y, .int .i64 x_53.C]) (PV' := [.cell c_57 [.int .i64 x_53.X, .int .i64 x_53.Y, .int .i64 x_53.C] 37, .row Int (tInt .i64) 2 v_41 y_38, .cell c_10 [.int .i64 goal_7.X, .int .i64 goal_7.Y, .int .i64 goal_7.C] 37, .row Gdiff_Leq t_Gdiff_Leq 37 v_50 x_47.1]) 0 Try.pi37 rfl rfl rfl ⟨rfl, rfl, rfl, trivial⟩ rfl rfl rfl rfl ?_)
              refine JL_nil ?_
              refine J_then ?_
              refine J_seq ?_
              refine J_region_any [.cell c_57 [.int .i64 x_53.X, .int .i64 x_53.Y, .int .i64 x_53.C] 37, .row Int (tInt .i64) 2 v_41 y_38, .cell c_10 [.int .i64 goal_7.X, .int .i64 goal_7.Y, .int .i64 goal_7.C] 37, .row Gdiff_Leq t_Gdiff_Leq 37 v_50 x_47.1] Try.mixed (by kernel_rfl) fun hns => ?_
              have hS_59 : HeldOK s_48 [.cell c_57 [.int .i64 x_53.X, .int .i64 x_53.Y, .int .i64 x_53.C] 37, .row Int (tInt .i64) 2 v_41 y_38, .cell c_10 [.int .i64 goal_7.X, .int .i64 goal_7.Y, .int .i64 goal_7.C] 37, .row Gdiff_Leq t_Gdiff_Leq 37 v_50 x_47.1] s_48 [.cell c_57 [.int .i64 x_53.X, .int .i64 x_53.Y, .int .i64 x_53.C] 37, .row Int (tInt .i64) 2 v_41 y_38, .cell c_10 [.int .i64 goal_7.X, .int .i64 goal_7.Y, .int .i64 goal_7.C] 37, .row Gdiff_Leq t_Gdiff_Leq 37 v_50 x_47.1] := HeldOK.same ⟨⟨0, rfl⟩, ⟨1, rfl⟩, ⟨2, rfl⟩, ⟨3, rfl⟩, trivial⟩
              refine JA_take 0 rfl hns (by kernel_rfl) (by kernel_rfl) hS_59 rfl rfl rfl (r_fieldAddr (r := ⟨c_57, 0, none⟩) Try.pu37 (f := Try.pf37.getD 0 default) rfl Try.pi3 (by decide) rfl rfl) ?_
              refine JA_take 1 rfl hns (by kernel_rfl) (by kernel_rfl) hS_59 rfl rfl rfl (r_load_priv (cs' := [.int .i64 x_53.X]) (v := .int .i64 x_53.X) 0 Try.pu3 Try.pi3 rfl rfl rfl rfl (by decide) rfl) ?_
              refine JA_take 2 rfl hns (by kernel_rfl) (by kernel_rfl) hS_59 rfl rfl rfl (r_geq rfl rfl) ?_
              refine JA_take 3 rfl hns (by kernel_rfl) (by kernel_rfl) hS_59 rfl rfl rfl (r_move (v := .bool (decide (0 ≤ x_53.X))) rfl) ?_
              refine J_forkA (e := (decide (0 ≤ x_53.X))) 37 #[true, true, true, true, true, true, true, true, true, false, false, false, false, false, false, false, false, false, false, false, false, false, false, false, false, false, false, false, false, false, false, false, false, false, false, false, false, false, false, false, false, false, false, false, false, false] [(5, .pointer (some ⟨c_10, 0, none⟩)), (7, .int .i64 (if 30 < numbers_1.len then 30 else numbers_1.len)), (8, v_41), (10, v_50), (12, .pointer (some ⟨c_57, 0, none⟩)), (46, v_44), (47, .int .i64 s_42.len), (48, .int .i64 x_47.2), (60, .bool (decide (0 ≤ x_53.X) && decide (x_53.X < (if 30 < numbers_1.len then 30 else numbers_1.len))))] (fun hc_60 hk => ?_) (fun hc_60 hk => ?_) (fun b => ?_)
              · refine JA_takeg 4 rfl hns (by kernel_rfl) (by kernel_rfl) hS_59 rfl rfl hc_60 rfl rfl (r_fieldAddr (r := ⟨c_57, 0, none⟩) Try.pu37 (f := Try.pf37.getD 0 default) rfl Try.pi3 (by decide) rfl rfl) ?_
                refine JA_takeg 5 rfl hns (by kernel_rfl) (by kernel_rfl) hS_59 rfl rfl hc_60 rfl rfl (r_load_priv (cs' := [.int .i64 x_53.X]) (v := .int .i64 x_53.X) 0 Try.pu3 Try.pi3 rfl rfl rfl rfl (by decide) rfl) ?_
                refine JA_takeg 6 rfl hns (by kernel_rfl) (by kernel_rfl) hS_59 rfl rfl hc_60 rfl rfl (r_move (v := .int .i64 (if 30 < numbers_1.len then 30 else numbers_1.len)) rfl) ?_
                refine JA_takeg 7 rfl hns (by kernel_rfl) (by kernel_rfl) hS_59 rfl rfl hc_60 rfl rfl (r_lss rfl rfl) ?_
                refine JA_take 8 rfl hns (by kernel_rfl) (by kernel_rfl) hS_59 rfl rfl rfl (r_pick_t (v := .bool (decide (x_53.X < (if 30 < numbers_1.len then 30 else numbers_1.len)))) rfl hc_60 rfl) ?_
                refine J_prune [(5, .pointer (some ⟨c_10, 0, none⟩)), (7, .int .i64 (if 30 < numbers_1.len then 30 else numbers_1.len)), (8, v_41), (10, v_50), (12, .pointer (some ⟨c_57, 0, none⟩)), (46, v_44), (47, .int .i64 s_42.len), (48, .int .i64 x_47.2), (60, .bool (decide (0 ≤ x_53.X) && decide (x_53.X < (if 30 < numbers_1.len then 30 else numbers_1.len))))] ⟨rfl, rfl, rfl, rfl, rfl, rfl, rfl, rfl, (by show Value.bool _ = Value.bool _; rw [hc_60]; rfl), trivial⟩ hk
              · refine JA_skip (y := some (decide (0 ≤ x_53.X))) 4 rfl hns (by kernel_rfl) (by kernel_rfl) hS_59 rfl rfl (by rw [hc_60]; decide) rfl rfl ?_
                refine JA_skip (y := some (decide (0 ≤ x_53.X))) 5 rfl hns (by kernel_rfl) (by kernel_rfl) hS_59 rfl rfl (by rw [hc_60]; decide) rfl rfl ?_
                refine JA_skip (y := some (decide (0 ≤ x_53.X))) 6 rfl hns (by kernel_rfl) (by kernel_rfl) hS_59 rfl rfl (by rw [hc_60]; decide) rfl rfl ?_
                refine JA_skip (y := some (decide (0 ≤ x_53.X))) 7 rfl hns (by kernel_rfl) (by kernel_rfl) hS_59 rfl rfl (by rw [hc_60]; decide) rfl rfl ?_
                refine JA_take 8 rfl hns (by kernel_rfl) (by kernel_rfl) hS_59 rfl rfl rfl (r_pick_f (v := .bool false) rfl hc_60 rfl) ?_
                refine J_prune [(5, .pointer (some ⟨c_10, 0, none⟩)), (7, .int .i64 (if 30 < numbers_1.len then 30 else numbers_1.len)), (8, v_41), (10, v_50), (12, .pointer (some ⟨c_57, 0, none⟩)), (46, v_44), (47, .int .i64 s_42.len), (48, .int .i64 x_47.2), (60, .bool (decide (0 ≤ x_53.X) && decide (x_53.X < (if 30 < numbers_1.len then 30 else numbers_1.len))))] ⟨rfl, rfl, rfl, rfl, rfl, rfl, rfl, rfl, (by show Value.bool _ = Value.bool _; rw [hc_60]; rfl), trivial⟩ hk
              · refine JA_take 9 rfl hns (by kernel_rfl) (by kernel_rfl) hS_59 rfl rfl rfl (r_move (v := .bool (decide (0 ≤ x_53.X) && decide (x_53.X < (if 30 < numbers_1.len then 30 else numbers_1.len)))) rfl) ?_
                refine J_forkA (e := (decide (0 ≤ x_53.X) && decide (x_53.X < (if 30 < numbers_1.len then 30 else numbers_1.len)))) 32 #[true, true, true, true, true, true, true, true, true, true, true, true, true, true, false, false, false, false, false, false, false, false, false, false, false, false, false, false, false, false, false, false, false, false, false, false, false, false, false, false, false, false, false, false, false, false] [(5, .pointer (some ⟨c_10, 0, none⟩)), (7, .int .i64 (if 30 < numbers_1.len then 30 else numbers_1.len)), (8, v_41), (10, v_50), (12, .pointer (some ⟨c_57, 0, none⟩)), (46, v_44), (47, .int .i64 s_42.len), (48, .int .i64 x_47.2), (65, .bool ((decide (0 ≤ x_53.X) && decide (x_53.X < (if 30 < numbers_1.len then 30 else numbers_1.len))) && decide (0 ≤ x_53.Y)))] (fun hc_61 hk => ?_) (fun hc_61 hk => ?_) (fun b => ?_)
                · refine JA_takeg 10 rfl hns (by kernel_rfl) (by kernel_rfl) hS_59 rfl rfl hc_61 rfl rfl (r_fieldAddr (r := ⟨c_57, 1, none⟩) Try.pu37 (f := Try.pf37.getD 1 default) rfl Try.pi3 (by decide) rfl rfl) ?_
                  refine JA_takeg 11 rfl hns (by kernel_rfl) (by kernel_rfl) hS_59 rfl rfl hc_61 rfl rfl (r_load_priv (cs' := [.int .i64 x_53.Y]) (v := .int .i64 x_53.Y) 0 Try.pu3 Try.pi3 rfl rfl rfl rfl (by decide) rfl) ?_
                  refine JA_takeg 12 rfl hns (by kernel_rfl) (by kernel_rfl) hS_59 rfl rfl hc_61 rfl rfl (r_geq rfl rfl) ?_
                  refine JA_take 13 rfl hns (by kernel_rfl) (by kernel_rfl) hS_59 rfl rfl rfl (r_pick_t (v := .bool (decide (0 ≤ x_53.Y))) rfl hc_61 rfl) ?_
                  refine J_prune [(5, .pointer (some ⟨c_10, 0, none⟩)), (7, .int .i64 (if 30 < numbers_1.len then 30 else numbers_1.len)), (8, v_41), (10, v_50), (12, .pointer (some ⟨c_57, 0, none⟩)), (46, v_44), (47, .int .i64 s_42.len), (48, .int .i64 x_47.2), (65, .bool ((decide (0 ≤ x_53.X) && decide (x_53.X < (if 30 < numbers_1.len then 30 else numbers_1.len))) && decide (0 ≤ x_53.Y)))] ⟨rfl, rfl, rfl, rfl, rfl, rfl, rfl, rfl, (by show Value.bool _ = Value.bool _; rw [hc_61]; rfl), trivial⟩ hk
                · refine JA_skip (y := some (decide (0 ≤ x_53.X) && decide (x_53.X < (if 30 < numbers_1.len then 30 else numbers_1.len)))) 10 rfl hns (by kernel_rfl) (by kernel_rfl) hS_59 rfl rfl (by rw [hc_61]; decide) rfl rfl ?_
                  refine JA_skip (y := some (decide (0 ≤ x_53.X) && decide (x_53.X < (if 30 < numbers_1.len then 30 else numbers_1.len)))) 11 rfl hns (by kernel_rfl) (by kernel_rfl) hS_59 rfl rfl (by rw [hc_61]; decide) rfl rfl ?_
                  refine JA_skip (y := some (decide (0 ≤ x_53.X) && decide (x_53.X < (if 30 < numbers_1.len then 30 else numbers_1.len)))) 12 rfl hns (by kernel_rfl) (by kernel_rfl) hS_59 rfl rfl (by rw [hc_61]; decide) rfl rfl ?_
                  refine JA_take 13 rfl hns (by kernel_rfl) (by kernel_rfl) hS_59 rfl rfl rfl (r_pick_f (v := .bool false) rfl hc_61 rfl) ?_
                  refine J_prune [(5, .pointer (some ⟨c_10, 0, none⟩)), (7, .int .i64 (if 30 < numbers_1.len then 30 else numbers_1.len)), (8, v_41), (10, v_50), (12, .pointer (some ⟨c_57, 0, none⟩)), (46, v_44), (47, .int .i64 s_42.len), (48, .int .i64 x_47.2), (65, .bool ((decide (0 ≤ x_53.X) && decide (x_53.X < (if 30 < numbers_1.len then 30 else numbers_1.len))) && decide (0 ≤ x_53.Y)))] ⟨rfl, rfl, rfl, rfl, rfl, rfl, rfl, rfl, (by show Value.bool _ = Value.bool _; rw [hc_61]; rfl), trivial⟩ hk
                · refine JA_take 14 rfl hns (by kernel_rfl) (by kernel_rfl) hS_59 rfl rfl rfl (r_move (v := .bool ((decide (0 ≤ x_53.X) && decide (x_53.X < (if 30 < numbers_1.len then 30 else numbers_1.len))) && decide (0 ≤ x_53.Y))) rfl) ?_
                  refine J_forkA (e := ((decide (0 ≤ x_53.X) && decide (x_53.X < (if 30 < numbers_1.len then 30 else numbers_1.len))) && decide (0 ≤ x_53.Y))) 26 #[true, true, true, true, true, true, true, true, true, true, true, true, true, true, true, true, true, true, true, true, false, false, false, false, false, false, false, false, false, false, false, false, false, false, false, false, false, false, false, false, false, false, false, false, false, false] [(5, .pointer (some ⟨c_10, 0, none⟩)), (7, .int .i64 (if 30 < numbers_1.len then 30 else numbers_1.len)), (8, v_41), (10, v_50), (12, .pointer (some ⟨c_57, 0, none⟩)), (46, v_44), (47, .int .i64 s_42.len), (48, .int .i64 x_47.2), (71, .bool (((decide (0 ≤ x_53.X) && decide (x_53.X < (if 30 < numbers_1.len then 30 else numbers_1.len))) && decide (0 ≤ x_53.Y)) && decide (x_53.Y < (if 30 < numbers_1.len then 30 else numbers_1.len))))] (fun hc_62 hk => ?_) (fun hc_62 hk => ?_) (fun b => ?_)
                  · refine JA_takeg 15 rfl hns (by kernel_rfl) (by kernel_rfl) hS_59 rfl rfl hc_62 rfl rfl (r_fieldAddr (r := ⟨c_57, 1, none⟩) Try.pu37 (f := Try.pf37.getD 1 default) rfl Try.pi3 (by decide) rfl rfl) ?_
                    refine JA_takeg 16 rfl hns (by kernel_rfl) (by kernel_rfl) hS_59 rfl rfl hc_62 rfl rfl (r_load_priv (cs' := [.int .i64 x_53.Y]) (v := .int .i64 x_53.Y) 0 Try.pu3 Try.pi3 rfl rfl rfl rfl (by decide) rfl) ?_
                    refine JA_takeg 17 rfl hns (by kernel_rfl) (by kernel_rfl) hS_59 rfl rfl hc_62 rfl rfl (r_move (v := .int .i64 (if 30 < numbers_1.len then 30 else numbers_1.len)) rfl) ?_
                    refine JA_takeg 18 rfl hns (by kernel_rfl) (by kernel_rfl) hS_59 rfl rfl hc_62 rfl rfl (r_lss rfl rfl) ?_
                    refine JA_take 19 rfl hns (by kernel_rfl) (by kernel_rfl) hS_59 rfl rfl rfl (r_pick_t (v := .bool (decide (x_53.Y < (if 30 < numbers_1.len then 30 else numbers_1.len)))) rfl hc_62 rfl) ?_
                    refine J_prune [(5, .pointer (some ⟨c_10, 0, none⟩)), (7, .int .i64 (if 30 < numbers_1.len then 30 else numbers_1.len)), (8, v_41), (10, v_50), (12, .pointer (some ⟨c_57, 0, none⟩)), (46, v_44), (47, .int .i64 s_42.len), (48, .int .i64 x_47.2), (71, .bool (((decide (0 ≤ x_53.X) && decide (x_53.X < (if 30 < numbers_1.len then 30 else numbers_1.len))) && decide (0 ≤ x_53.Y)) && decide (x_53.Y < (if 30 < numbers_1.len then 30 else numbers_1.len))))] ⟨rfl, rfl, rfl, rfl, rfl, rfl, rfl, rfl, (by show Value.bool _ = Value.bool _; rw [hc_62]; rfl), trivial⟩ hk
                  · refine JA_skip (y := some ((decide (0 ≤ x_53.X) && decide (x_53.X < (if 30 < numbers_1.len then 30 else numbers_1.len))) && decide (0 ≤ x_53.Y))) 15 rfl hns (by kernel_rfl) (by kernel_rfl) hS_59 rfl rfl (by rw [hc_62]; decide) rfl rfl ?_
                    refine JA_skip (y := some ((decide (0 ≤ x_53.X) && decide (x_53.X < (if 30 < numbers_1.len then 30 else numbers_1.len))) && decide (0 ≤ x_53.Y))) 16 rfl hns (by kernel_rfl) (by kernel_rfl) hS_59 rfl rfl (by rw [hc_62]; decide) rfl rfl ?_
                    refine JA_skip (y := some ((decide (0 ≤ x_53.X) && decide (x_53.X < (if 30 < numbers_1.len then 30 else numbers_1.len))) && decide (0 ≤ x_53.Y))) 17 rfl hns (by kernel_rfl) (by kernel_rfl) hS_59 rfl rfl (by rw [hc_62]; decide) rfl rfl ?_
                    refine JA_skip (y := some ((decide (0 ≤ x_53.X) && decide (x_53.X < (if 30 < numbers_1.len then 30 else numbers_1.len))) && decide (0 ≤ x_53.Y))) 18 rfl hns (by kernel_rfl) (by kernel_rfl) hS_59 rfl rfl (by rw [hc_62]; decide) rfl rfl ?_
                    refine JA_take 19 rfl hns (by kernel_rfl) (by kernel_rfl) hS_59 rfl rfl rfl (r_pick_f (v := .bool false) rfl hc_62 rfl) ?_
                    refine J_prune [(5, .pointer (some ⟨c_10, 0, none⟩)), (7, .int .i64 (if 30 < numbers_1.len then 30 else numbers_1.len)), (8, v_41), (10, v_50), (12, .pointer (some ⟨c_57, 0, none⟩)), (46, v_44), (47, .int .i64 s_42.len), (48, .int .i64 x_47.2), (71, .bool (((decide (0 ≤ x_53.X) && decide (x_53.X < (if 30 < numbers_1.len then 30 else numbers_1.len))) && decide (0 ≤ x_53.Y)) && decide (x_53.Y < (if 30 < numbers_1.len then 30 else numbers_1.len))))] ⟨rfl, rfl, rfl, rfl, rfl, rfl, rfl, rfl, (by show Value.bool _ = Value.bool _; rw [hc_62]; rfl), trivial⟩ hk
                  · refine JA_take 20 rfl hns (by kernel_rfl) (by kernel_rfl) hS_59 rfl rfl rfl (r_move (v := .bool (((decide (0 ≤ x_53.X) && decide (x_53.X < (if 30 < numbers_1.len then 30 else numbers_1.len))) && decide (0 ≤ x_53.Y)) && decide (x_53.Y < (if 30 < numbers_1.len then 30 else numbers_1.len)))) rfl) ?_
                    refine J_forkA (e := (((decide (0 ≤ x_53.X) && decide (x_53.X < (if 30 < numbers_1.len then 30 else numbers_1.len))) && decide (0 ≤ x_53.Y)) && decide (x_53.Y < (if 30 < numbers_1.len then 30 else numbers_1.len)))) 21 #[true, true, true, true, true, true, true, true, true, true, true, true, true, true, true, true, true, true, true, true, true, true, true, true, true, false, false, false, false, false, false, false, false, false, false, false, false, false, false, false, false, false, false, false, false, false] [(5, .pointer (some ⟨c_10, 0, none⟩)), (7, .int .i64 (if 30 < numbers_1.len then 30 else numbers_1.len)), (8, v_41), (10, v_50), (12, .pointer (some ⟨c_57, 0, none⟩)), (46, v_44), (47, .int .i64 s_42.len), (48, .int .i64 x_47.2), (76, .bool ((((decide (0 ≤ x_53.X) && decide (x_53.X < (if 30 < numbers_1.len then 30 else numbers_1.len))) && decide (0 ≤ x_53.Y)) && decide (x_53.Y < (if 30 < numbers_1.len then 30 else numbers_1.len))) && decide (x_53.C ≤ 8796093022208)))] (fun hc_63 hk => ?_) (fun hc_63 hk => ?_) (fun b => ?_)
                    · refine JA_takeg 21 rfl hns (by kernel_rfl) (by kernel_rfl) hS_59 rfl rfl hc_63 rfl rfl (r_fieldAddr (r := ⟨c_57, 2, none⟩) Try.pu37 (f := Try.pf37.getD 2 default) rfl Try.pi2 (by decide) rfl rfl) ?_
                      refine JA_takeg 22 rfl hns (by kernel_rfl) (by kernel_rfl) hS_59 rfl rfl hc_63 rfl rfl (r_load_priv (cs' := [.int .i64 x_53.C]) (v := .int .i64 x_53.C) 0 Try.pu2 Try.pi2 rfl rfl rfl rfl (by decide) rfl) ?_
                      refine JA_takeg 23 rfl hns (by kernel_rfl) (by kernel_rfl) hS_59 rfl rfl hc_63 rfl rfl (r_leq rfl rfl) ?_
                      refine JA_take 24 rfl hns (by kernel_rfl) (by kernel_rfl) hS_59 rfl rfl rfl (r_pick_t (v := .bool (decide (x_53.C ≤ 8796093022208))) rfl hc_63 rfl) ?_
                      refine J_prune [(5, .pointer (some ⟨c_10, 0, none⟩)), (7, .int .i64 (if 30 < numbers_1.len then 30 else numbers_1.len)), (8, v_41), (10, v_50), (12, .pointer (some ⟨c_57, 0, none⟩)), (46, v_44), (47, .int .i64 s_42.len), (48, .int .i64 x_47.2), (76, .bool ((((decide (0 ≤ x_53.X) && decide (x_53.X < (if 30 < numbers_1.len then 30 else numbers_1.len))) && decide (0 ≤ x_53.Y)) && decide (x_53.Y < (if 30 < numbers_1.len then 30 else numbers_1.len))) && decide (x_53.C ≤ 8796093022208)))] ⟨rfl, rfl, rfl, rfl, rfl, rfl, rfl, rfl, (by show Value.bool _ = Value.bool _; rw [hc_63]; rfl), trivial⟩ hk
                    · refine JA_skip (y := some (((decide (0 ≤ x_53.X) && decide (x_53.X < (if 30 < numbers_1.len then 30 else numbers_1.len))) && decide (0 ≤ x_53.Y)) && decide (x_53.Y < (if 30 < numbers_1.len then 30 else numbers_1.len)))) 21 rfl hns (by kernel_rfl) (by kernel_rfl) hS_59 rfl rfl (by rw [hc_63]; decide) rfl rfl ?_
                      refine JA_skip (y := some (((decide (0 ≤ x_53.X) && decide (x_53.X < (if 30 < numbers_1.len then 30 else numbers_1.len))) && decide (0 ≤ x_53.Y)) && decide (x_53.Y < (if 30 < numbers_1.len then 30 else numbers_1.len)))) 22 rfl hns (by kernel_rfl) (by kernel_rfl) hS_59 rfl rfl (by rw [hc_63]; decide) rfl rfl ?_
                      refine JA_skip (y := some (((decide (0 ≤ x_53.X) && decide (x_53.X < (if 30 < numbers_1.len then 30 else numbers_1.len))) && decide (0 ≤ x_53.Y)) && decide (x_53.Y < (if 30 < numbers_1.len then 30 else numbers_1.len)))) 23 rfl hns (by kernel_rfl) (by kernel_rfl) hS_59 rfl rfl (by rw [hc_63]; decide) rfl rfl ?_
                      refine JA_take 24 rfl hns (by kernel_rfl) (by kernel_rfl) hS_59 rfl rfl rfl (r_pick_f (v := .bool false) rfl hc_63 rfl) ?_
                      refine J_prune [(5, .pointer (some ⟨c_10, 0, none⟩)), (7, .int .i64 (if 30 < numbers_1.len then 30 else numbers_1.len)), (8, v_41), (10, v_50), (12, .pointer (some ⟨c_57, 0, none⟩)), (46, v_44), (47, .int .i64 s_42.len), (48, .int .i64 x_47.2), (76, .bool ((((decide (0 ≤ x_53.X) && decide (x_53.X < (if 30 < numbers_1.len then 30 else numbers_1.len))) && decide (0 ≤ x_53.Y)) && decide (x_53.Y < (if 30 < numbers_1.len then 30 else numbers_1.len))) && decide (x_53.C ≤ 8796093022208)))] ⟨rfl, rfl, rfl, rfl, rfl, rfl, rfl, rfl, (by show Value.bool _ = Value.bool _; rw [hc_63]; rfl), trivial⟩ hk
                    · refine JA_take 25 rfl hns (by kernel_rfl) (by kernel_rfl) hS_59 rfl rfl rfl (r_move (v := .bool ((((decide (0 ≤ x_53.X) && decide (x_53.X < (if 30 < numbers_1.len then 30 else numbers_1.len))) && decide (0 ≤ x_53.Y)) && decide (x_53.Y < (if 30 < numbers_1.len then 30 else numbers_1.len))) && decide (x_53.C ≤ 8796093022208))) rfl) ?_
                      refine J_forkA (e := ((((decide (0 ≤ x_53.X) && decide (x_53.X < (if 30 < numbers_1.len then 30 else numbers_1.len))) && decide (0 ≤ x_53.Y)) && decide (x_53.Y < (if 30 < numbers_1.len then 30 else numbers_1.len))) && decide (x_53.C ≤ 8796093022208))) 16 #[true, true, true, true, true, true, true, true, true, true, true, true, true, true, true, true, true, true, true, true, true, true, true, true, true, true, true, true, true, true, false, false, false, false, false, false, false, false, false, false, false, false, false, false, false, false] [(5, .pointer (some ⟨c_10, 0, none⟩)), (7, .int .i64 (if 30 < numbers_1.len then 30 else numbers_1.len)), (8, v_41), (10, v_50), (12, .pointer (some ⟨c_57, 0, none⟩)), (46, v_44), (47, .int .i64 s_42.len), (48, .int .i64 x_47.2), (81, .bool (((((decide (0 ≤ x_53.X) && decide (x_53.X < (if 30 < numbers_1.len then 30 else numbers_1.len))) && decide (0 ≤ x_53.Y)) && decide (x_53.Y < (if 30 < numbers_1.len then 30 else numbers_1.len))) && decide (x_53.C ≤ 8796093022208)) && decide ((-8796093022208) ≤ x_53.C)))] (fun hc_64 hk => ?_) (fun hc_64 hk => ?_) (fun b => ?_)
                      · refine JA_takeg 26 rfl hns (by kernel_rfl) (by kernel_rfl) hS_59 rfl rfl hc_64 rfl rfl (r_fieldAddr (r := ⟨c_57, 2, none⟩) Try.pu37 (f := Try.pf37.getD 2 default) rfl Try.pi2 (by decide) rfl rfl) ?_
                        refine JA_takeg 27 rfl hns (by kernel_rfl) (by kernel_rfl) hS_59 rfl rfl hc_64 rfl rfl (r_load_priv (cs' := [.int .i64 x_53.C]) (v := .int .i64 x_53.C) 0 Try.pu2 Try.pi2 rfl rfl rfl rfl (by decide) rfl) ?_
                        refine JA_takeg 28 rfl hns (by kernel_rfl) (by kernel_rfl) hS_59 rfl rfl hc_64 rfl rfl (r_geq rfl rfl) ?_
                        refine JA_take 29 rfl hns (by kernel_rfl) (by kernel_rfl) hS_59 rfl rfl rfl (r_pick_t (v := .bool (decide ((-8796093022208) ≤ x_53.C))) rfl hc_64 rfl) ?_
                        refine J_prune [(5, .pointer (some ⟨c_10, 0, none⟩)), (7, .int .i64 (if 30 < numbers_1.len then 30 else numbers_1.len)), (8, v_41), (10, v_50), (12, .pointer (some ⟨c_57, 0, none⟩)), (46, v_44), (47, .int .i64 s_42.len), (48, .int .i64 x_47.2), (81, .bool (((((decide (0 ≤ x_53.X) && decide (x_53.X < (if 30 < numbers_1.len then 30 else numbers_1.len))) && decide (0 ≤ x_53.Y)) && decide (x_53.Y < (if 30 < numbers_1.len then 30 else numbers_1.len))) && decide (x_53.C ≤ 8796093022208)) && decide ((-8796093022208) ≤ x_53.C)))] ⟨rfl, rfl, rfl, rfl, rfl, rfl, rfl, rfl, (by show Value.bool _ = Value.bool _; rw [hc_64]; rfl), trivial⟩ hk
                      · refine JA_skip (y := some ((((decide (0 ≤ x_53.X) && decide (x_53.X < (if 30 < numbers_1.len then 30 else numbers_1.len))) && decide (0 ≤ x_53.Y)) && decide (x_53.Y < (if 30 < numbers_1.len then 30 else numbers_1.len))) && decide (x_53.C ≤ 8796093022208))) 26 rfl hns (by kernel_rfl) (by kernel_rfl) hS_59 rfl rfl (by rw [hc_64]; decide) rfl rfl ?_
                        refine JA_skip (y := some ((((decide (0 ≤ x_53.X) && decide (x_53.X < (if 30 < numbers_1.len then 30 else numbers_1.len))) && decide (0 ≤ x_53.Y)) && decide (x_53.Y < (if 30 < numbers_1.len then 30 else numbers_1.len))) && decide (x_53.C ≤ 8796093022208))) 27 rfl hns (by kernel_rfl) (by kernel_rfl) hS_59 rfl rfl (by rw [hc_64]; decide) rfl rfl ?_
                        refine JA_skip (y := some ((((decide (0 ≤ x_53.X) && decide (x_53.X < (if 30 < numbers_1.len then 30 else numbers_1.len))) && decide (0 ≤ x_53.Y)) && decide (x_53.Y < (if 30 < numbers_1.len then 30 else numbers_1.len))) && decide (x_53.C ≤ 8796093022208))) 28 rfl hns (by kernel_rfl) (by kernel_rfl) hS_59 rfl rfl (by rw [hc_64]; decide) rfl rfl ?_
                        refine JA_take 29 rfl hns (by kernel_rfl) (by kernel_rfl) hS_59 rfl rfl rfl (r_pick_f (v := .bool false) rfl hc_64 rfl) ?_
                        refine J_prune [(5, .pointer (some ⟨c_10, 0, none⟩)), (7, .int .i64 (if 30 < numbers_1.len then 30 else numbers_1.len)), (8, v_41), (10, v_50), (12, .pointer (some ⟨c_57, 0, none⟩)), (46, v_44), (47, .int .i64 s_42.len), (48, .int .i64 x_47.2), (81, .bool (((((decide (0 ≤ x_53.X) && decide (x_53.X < (if 30 < numbers_1.len then 30 else numbers_1.len))) && decide (0 ≤ x_53.Y)) && decide (x_53.Y < (if 30 < numbers_1.len then 30 else numbers_1.len))) && decide (x_53.C ≤ 8796093022208)) && decide ((-8796093022208) ≤ x_53.C)))] ⟨rfl, rfl, rfl, rfl, rfl, rfl, rfl, rfl, (by show Value.bool _ = Value.bool _; rw [hc_64]; rfl), trivial⟩ hk
                      · refine JA_take 30 rfl hns (by kernel_rfl) (by kernel_rfl) hS_59 rfl rfl rfl (r_move (v := .bool (((((decide (0 ≤ x_53.X) && decide (x_53.X < (if 30 < numbers_1.len then 30 else numbers_1.len))) && decide (0 ≤ x_53.Y)) && decide (x_53.Y < (if 30 < numbers_1.len then 30 else numbers_1.len))) && decide (x_53.C ≤ 8796093022208)) && decide ((-8796093022208) ≤ x_53.C))) rfl) ?_
                        refine J_forkAB (e := (((((decide (0 ≤ x_53.X) && decide (x_53.X < (if 30 < numbers_1.len then 30 else numbers_1.len))) && decide (0 ≤ x_53.Y)) && decide (x_53.Y < (if 30 < numbers_1.len then 30 else numbers_1.len))) && decide (x_53.C ≤ 8796093022208)) && decide ((-8796093022208) ≤ x_53.C))) 0 #[true, true, true, true, true, true, true, true, true, true, true, true, true, true, true, true, true, true, true, true, true, true, true, true, true, true, true, true, true, true, true, true, true, true, true, true, true, true, true, true, true, true, true, true, true, true] (fun (b_66 : Bool) L τ PV => s_48.le τ ∧ L = [(5, .pointer (some ⟨c_10, 0, none⟩)), (7, .int .i64 (if 30 < numbers_1.len then 30 else numbers_1.len)), (8, v_41), (10, v_50), (12, .pointer (some ⟨c_57, 0, none⟩)), (46, v_44), (47, .int .i64 s_42.len), (48, .int .i64 x_47.2), (97, .bool b_66)] ∧ PV = [.cell c_57 [.int .i64 x_53.X, .int .i64 x_53.Y, .int .i64 x_53.C] 37, .row Int (tInt .i64) 2 v_41 y_38, .cell c_10 [.int .i64 goal_7.X, .int .i64 goal_7.Y, .int .i64 goal_7.C] 37, .row Gdiff_Leq t_Gdiff_Leq 37 v_50 x_47.1]) (fun hc_65 hk => ?_) (fun hc_65 hk => ?_) ?_
                        · refine JA_takeg 31 rfl hns (by kernel_rfl) (by kernel_rfl) hS_59 rfl rfl hc_65 rfl rfl (r_move (v := v_41) rfl) ?_
                          refine JA_takeg 32 rfl hns (by kernel_rfl) (by kernel_rfl) hS_59 rfl rfl hc_65 rfl rfl (r_fieldAddr (r := ⟨c_57, 0, none⟩) Try.pu37 (f := Try.pf37.getD 0 default) rfl Try.pi3 (by decide) rfl rfl) ?_
                          refine JA_takeg 33 rfl hns (by kernel_rfl) (by kernel_rfl) hS_59 rfl rfl hc_65 rfl rfl (r_load_priv (cs' := [.int .i64 x_53.X]) (v := .int .i64 x_53.X) 0 Try.pu3 Try.pi3 rfl rfl rfl rfl (by decide) rfl) ?_
                          refine J_assoc ?_
                          refine J_bind fun x_67 hx_68 => ?_
                          refine JA_takeg 34 rfl hns (by kernel_rfl) (by kernel_rfl) hS_59 rfl rfl hc_65 rfl rfl (r_index_row (v := v_41) (T := (tInt .i64)) (q := x_67) 1 Try.pu23 Try.pi2 rfl rfl rfl rfl hx_68) ?_
                          refine JA_takesg 35 rfl hns (by kernel_rfl) (by kernel_rfl) hS_59 rfl rfl hc_65 rfl rfl (l_elem_row (v := v_41) (T := (tInt .i64)) (Tf := (tInt .i64)) (q := x_67) (i := x_53.X) (off := 0) 1 Try.pu2 Try.pi2 rfl rfl rfl rfl hx_68 (FieldAt.self _) (by decide)) ?_
                          intro v_69 h_70
                          obtain rfl := tInt_v.1 h_70
                          refine JA_takeg 36 rfl hns (by kernel_rfl) (by kernel_rfl) hS_59 rfl rfl hc_65 rfl rfl (r_move (v := v_41) rfl) ?_
                          refine JA_takeg 37 rfl hns (by kernel_rfl) (by kernel_rfl) hS_59 rfl rfl hc_65 rfl rfl (r_fieldAddr (r := ⟨c_57, 1, none⟩) Try.pu37 (f := Try.pf37.getD 1 default) rfl Try.pi3 (by decide) rfl rfl) ?_
                          refine JA_takeg 38 rfl hns (by kernel_rfl) (by kernel_rfl) hS_59 rfl rfl hc_65 rfl rfl (r_load_priv (cs' := [.int .i64 x_53.Y]) (v := .int .i64 x_53.Y) 0 Try.pu3 Try.pi3 rfl rfl rfl rfl (by decide) rfl) ?_
                          refine J_assoc ?_
                          refine J_bind fun x_71 hx_72 => ?_
                          refine JA_takeg 39 rfl hns (by kernel_rfl) (by kernel_rfl) hS_59 rfl rfl hc_65 rfl rfl (r_index_row (v := v_41) (T := (tInt .i64)) (q := x_71) 1 Try.pu23 Try.pi2 rfl rfl rfl rfl hx_72) ?_
                          refine JA_takesg 40 rfl hns (by kernel_rfl) (by kernel_rfl) hS_59 rfl rfl hc_65 rfl rfl (l_elem_row (v := v_41) (T := (tInt .i64)) (Tf := (tInt .i64)) (q := x_71) (i := x_53.Y) (off := 0) 1 Try.pu2 Try.pi2 rfl rfl rfl rfl hx_72 (FieldAt.self _) (by decide)) ?_
                          intro v_73 h_74
                          obtain rfl := tInt_v.1 h_74
                          refine JA_takeg 41 rfl hns (by kernel_rfl) (by kernel_rfl) hS_59 rfl rfl hc_65 rfl rfl (r_sub rfl rfl) ?_
                          refine JA_takeg 42 rfl hns (by kernel_rfl) (by kernel_rfl) hS_59 rfl rfl hc_65 rfl rfl (r_fieldAddr (r := ⟨c_57, 2, none⟩) Try.pu37 (f := Try.pf37.getD 2 default) rfl Try.pi2 (by decide) rfl rfl) ?_
                          refine JA_takeg 43 rfl hns (by kernel_rfl) (by kernel_rfl) hS_59 rfl rfl hc_65 rfl rfl (r_load_priv (cs' := [.int .i64 x_53.C]) (v := .int .i64 x_53.C) 0 Try.pu2 Try.pi2 rfl rfl rfl rfl (by decide) rfl) ?_
                          refine JA_takeg 44 rfl hns (by kernel_rfl) (by kernel_rfl) hS_59 rfl rfl hc_65 rfl rfl (r_leq rfl rfl) ?_
                          refine JA_take 45 rfl hns (by kernel_rfl) (by kernel_rfl) hS_59 rfl rfl rfl (r_pick_t (v := .bool (decide ((IntKind.i64.wrap (x_67 - x_71)) ≤ x_53.C))) rfl hc_65 rfl) ?_
                          refine J_prune _ ?_ fun b => hk (decide ((IntKind.i64.wrap (x_67 - x_71)) ≤ x_53.C)) _ b _ _ ⟨(FS.le.refl _), rfl, rfl⟩
                          exact ⟨rfl, rfl, rfl, rfl, rfl, rfl, rfl, rfl, rfl, trivial⟩
                        · refine JA_skip (y := some (((((decide (0 ≤ x_53.X) && decide (x_53.X < (if 30 < numbers_1.len then 30 else numbers_1.len))) && decide (0 ≤ x_53.Y)) && decide (x_53.Y < (if 30 < numbers_1.len then 30 else numbers_1.len))) && decide (x_53.C ≤ 8796093022208)) && decide ((-8796093022208) ≤ x_53.C))) 31 rfl hns (by kernel_rfl) (by kernel_rfl) hS_59 rfl rfl (by rw [hc_65]; decide) rfl rfl ?_
                          refine JA_skip (y := some (((((decide (0 ≤ x_53.X) && decide (x_53.X < (if 30 < numbers_1.len then 30 else numbers_1.len))) && decide (0 ≤ x_53.Y)) && decide (x_53.Y < (if 30 < numbers_1.len then 30 else numbers_1.len))) && decide (x_53.C ≤ 8796093022208)) && decide ((-8796093022208) ≤ x_53.C))) 32 rfl hns (by kernel_rfl) (by kernel_rfl) hS_59 rfl rfl (by rw [hc_65]; decide) rfl rfl ?_
                          refine JA_skip (y := some (((((decide (0 ≤ x_53.X) && decide (x_53.X < (if 30 < numbers_1.len then 30 else numbers_1.len))) && decide (0 ≤ x_53.Y)) && decide (x_53.Y < (if 30 < numbers_1.len then 30 else numbers_1.len))) && decide (x_53.C ≤ 8796093022208)) && decide ((-8796093022208) ≤ x_53.C))) 33 rfl hns (by kernel_rfl) (by kernel_rfl) hS_59 rfl rfl (by rw [hc_65]; decide) rfl rfl ?_
                          refine JA_skip (y := some (((((decide (0 ≤ x_53.X) && decide (x_53.X < (if 30 < numbers_1.len then 30 else numbers_1.len))) && decide (0 ≤ x_53.Y)) && decide (x_53.Y < (if 30 < numbers_1.len then 30 else numbers_1.len))) && decide (x_53.C ≤ 8796093022208)) && decide ((-8796093022208) ≤ x_53.C))) 34 rfl hns (by kernel_rfl) (by kernel_rfl) hS_59 rfl rfl (by rw [hc_65]; decide) rfl rfl ?_
                          refine JA_skip (y := some (((((decide (0 ≤ x_53.X) && decide (x_53.X < (if 30 < numbers_1.len then 30 else numbers_1.len))) && decide (0 ≤ x_53.Y)) && decide (x_53.Y < (if 30 < numbers_1.len then 30 else numbers_1.len))) && decide (x_53.C ≤ 8796093022208)) && decide ((-8796093022208) ≤ x_53.C))) 35 rfl hns (by kernel_rfl) (by kernel_rfl) hS_59 rfl rfl (by rw [hc_65]; decide) rfl rfl ?_
                          refine JA_skip (y := some (((((decide (0 ≤ x_53.X) && decide (x_53.X < (if 30 < numbers_1.len then 30 else numbers_1.len))) && decide (0 ≤ x_53.Y)) && decide (x_53.Y < (if 30 < numbers_1.len then 30 else numbers_1.len))) && decide (x_53.C ≤ 8796093022208)) && decide ((-8796093022208) ≤ x_53.C))) 36 rfl hns (by kernel_rfl) (by kernel_rfl) hS_59 rfl rfl (by rw [hc_65]; decide) rfl rfl ?_
                          refine JA_skip (y := some (((((decide (0 ≤ x_53.X) && decide (x_53.X < (if 30 < numbers_1.len then 30 else numbers_1.len))) && decide (0 ≤ x_53.Y)) && decide (x_53.Y < (if 30 < numbers_1.len then 30 else numbers_1.len))) && decide (x_53.C ≤ 8796093022208)) && decide ((-8796093022208) ≤ x_53.C))) 37 rfl hns (by kernel_rfl) (by kernel_rfl) hS_59 rfl rfl (by rw [hc_65]; decide) rfl rfl ?_
                          refine JA_skip (y := some (((((decide (0 ≤ x_53.X) && decide (x_53.X < (if 30 < numbers_1.len then 30 else numbers_1.len))) && decide (0 ≤ x_53.Y)) && decide (x_53.Y < (if 30 < numbers_1.len then 30 else numbers_1.len))) && decide (x_53.C ≤ 8796093022208)) && decide ((-8796093022208) ≤ x_53.C))) 38 rfl hns (by kernel_rfl) (by kernel_rfl) hS_59 rfl rfl (by rw [hc_65]; decide) rfl rfl ?_
                          refine JA_skip (y := some (((((decide (0 ≤ x_53.X) && decide (x_53.X < (if 30 < numbers_1.len then 30 else numbers_1.len))) && decide (0 ≤ x_53.Y)) && decide (x_53.Y < (if 30 < numbers_1.len then 30 else numbers_1.len))) && decide (x_53.C ≤ 8796093022208)) && decide ((-8796093022208) ≤ x_53.C))) 39 rfl hns (by kernel_rfl) (by kernel_rfl) hS_59 rfl rfl (by rw [hc_65]; decide) rfl rfl ?_
                          refine JA_skip (y := some (((((decide (0 ≤ x_53.X) && decide (x_53.X < (if 30 < numbers_1.len then 30 else numbers_1.len))) && decide (0 ≤ x_53.Y)) && decide (x_53.Y < (if 30 < numbers_1.len then 30 else numbers_1.len))) && decide (x_53.C ≤ 8796093022208)) && decide ((-8796093022208) ≤ x_53.C))) 40 rfl hns (by kernel_rfl) (by kernel_rfl) hS_59 rfl rfl (by rw [hc_65]; decide) rfl rfl ?_
                          refine JA_skip (y := some (((((decide (0 ≤ x_53.X) && decide (x_53.X < (if 30 < numbers_1.len then 30 else numbers_1.len))) && decide (0 ≤ x_53.Y)) && decide (x_53.Y < (if 30 < numbers_1.len then 30 else numbers_1.len))) && decide (x_53.C ≤ 8796093022208)) && decide ((-8796093022208) ≤ x_53.C))) 41 rfl hns (by kernel_rfl) (by kernel_rfl) hS_59 rfl rfl (by rw [hc_65]; decide) rfl rfl ?_
                          refine JA_skip (y := some (((((decide (0 ≤ x_53.X) && decide (x_53.X < (if 30 < numbers_1.len then 30 else numbers_1.len))) && decide (0 ≤ x_53.Y)) && decide (x_53.Y < (if 30 < numbers_1.len then 30 else numbers_1.len))) && decide (x_53.C ≤ 8796093022208)) && decide ((-8796093022208) ≤ x_53.C))) 42 rfl hns (by kernel_rfl) (by kernel_rfl) hS_59 rfl rfl (by rw [hc_65]; decide) rfl rfl ?_
                          refine JA_skip (y := some (((((decide (0 ≤ x_53.X) && decide (x_53.X < (if 30 < numbers_1.len then 30 else numbers_1.len))) && decide (0 ≤ x_53.Y)) && decide (x_53.Y < (if 30 < numbers_1.len then 30 else numbers_1.len))) && decide (x_53.C ≤ 8796093022208)) && decide ((-8796093022208) ≤ x_53.C))) 43 rfl hns (by kernel_rfl) (by kernel_rfl) hS_59 rfl rfl (by rw [hc_65]; decide) rfl rfl ?_
                          refine JA_skip (y := some (((((decide (0 ≤ x_53.X) && decide (x_53.X < (if 30 < numbers_1.len then 30 else numbers_1.len))) && decide (0 ≤ x_53.Y)) && decide (x_53.Y < (if 30 < numbers_1.len then 30 else numbers_1.len))) && decide (x_53.C ≤ 8796093022208)) && decide ((-8796093022208) ≤ x_53.C))) 44 rfl hns (by kernel_rfl) (by kernel_rfl) hS_59 rfl rfl (by rw [hc_65]; decide) rfl rfl ?_
                          refine JA_take 45 rfl hns (by kernel_rfl) (by kernel_rfl) hS_59 rfl rfl rfl (r_pick_f (v := .bool false) rfl hc_65 rfl) ?_
                          refine J_prune _ ?_ fun b => hk false _ b _ _ ⟨(FS.le.refl _), rfl, rfl⟩
                          exact ⟨rfl, rfl, rfl, rfl, rfl, rfl, rfl, rfl, rfl, trivial⟩
                        · rintro b_66 _ b s_75 _ ⟨hle_76, rfl, rfl⟩
                          have hS_77 : HeldOK s_48 [.cell c_57 [.int .i64 x_53.X, .int .i64 x_53.Y, .int .i64 x_53.C] 37, .row Int (tInt .i64) 2 v_41 y_38, .cell c_10 [.int .i64 goal_7.X, .int .i64 goal_7.Y, .int .i64 goal_7.C] 37, .row Gdiff_Leq t_Gdiff_Leq 37 v_50 x_47.1] s_75 [.cell c_57 [.int .i64 x_53.X, .int .i64 x_53.Y, .int .i64 x_53.C] 37, .row Int (tInt .i64) 2 v_41 y_38, .cell c_10 [.int .i64 goal_7.X, .int .i64 goal_7.Y, .int .i64 goal_7.C] 37, .row Gdiff_Leq t_Gdiff_Leq 37 v_50 x_47.1] := HeldOK.plain hle_76 ⟨⟨0, rfl⟩, ⟨1, rfl⟩, ⟨2, rfl⟩, ⟨3, rfl⟩, trivial⟩ ⟨⟨inferInstance⟩, ⟨inferInstance⟩, trivial⟩
                          refine JA_done (by kernel_rfl) ?_
                          refine J_then ?_
                          refine J_cut (fun (y : (Sl Gdiff_Leq)) e L τ PV => e = .normal ∧ (∃ (w0 : Value), s_75.le τ ∧ L = [(5, .pointer (some ⟨c_10, 0, none⟩)), (7, .int .i64 (if 30 < numbers_1.len then 30 else numbers_1.len)), (8, v_41), (10, w0), (46, v_44), (47, .int .i64 s_42.len), (48, .int .i64 x_47.2)] ∧ PV = [.row Int (tInt .i64) 2 v_41 y_38, .cell c_10 [.int .i64 goal_7.X, .int .i64 goal_7.Y, .int .i64 goal_7.C] 37, .row Gdiff_Leq t_Gdiff_Leq 37 w0 y])) ?_ ?_
                          · refine J_cond rfl (fun hc_78 => ?_) (fun hc_78 => ?_)
                            · refine J_region ?_
                              refine JL_op rfl (op_read rfl rfl (r_move (v := v_50) rfl) ?_)
                              refine JL_op rfl (op_read rfl rfl (r_load_priv (cs' := [.int .i64 x_53.X, .int .i64 x_53.Y, .int .i64 x_53.C]) (v := .agg #[.int .i64 x_53.X, .int .i64 x_53.Y, .int .i64 x_53.C]) 0 Try.pu37 Try.pi37 rfl rfl rfl rfl (by decide) rfl) ?_)
                              refine JL_op rfl (op_buildSlice (T := t_Gdiff_Leq) (vs := [.agg #[.int .i64 x_53.X, .int .i64 x_53.Y, .int .i64 x_53.C]]) (xs := [x_53]) rfl Try.pu22 Try.pi37 rfl rfl rfl rfl rfl rfl ⟨(t_Gdiff_Leq_v.2 rfl), trivial⟩ ?_)
                              intro v_79
                              refine JL_op rfl (op_append (v := v_50) (u := v_79) (T := t_Gdiff_Leq) (ts := [x_53]) 4 rfl Try.pu22 Try.pi37 rfl rfl rfl rfl rfl rfl rfl (source_row (s := (⟨[x_53], true⟩ : Sl Gdiff_Leq)) 0 rfl) ?_)
                              intro s_81 v_83 ha_82
                              refine JL_op rfl (op_read rfl rfl (r_assign (v := v_83) rfl) ?_)
                              refine JL_nil ?_
                              refine J_select (PV' := [.row Int (tInt .i64) 2 v_41 y_38, .cell c_10 [.int .i64 goal_7.X, .int .i64 goal_7.Y, .int .i64 goal_7.C] 37, .row Gdiff_Leq t_Gdiff_Leq 37 v_83 s_81]) [2, 3, 4] (by decide) rfl ?_
                              refine J_cut_end _ ?_ ⟨rfl, v_83, (FS.le.refl _), rfl, rfl⟩ trivial
                              exact ⟨rfl, rfl, rfl, rfl, rfl, rfl, rfl, trivial⟩
                            · refine J_skip ?_
                              refine J_select (PV' := [.row Int (tInt .i64) 2 v_41 y_38, .cell c_10 [.int .i64 goal_7.X, .int .i64 goal_7.Y, .int .i64 goal_7.C] 37, .row Gdiff_Leq t_Gdiff_Leq 37 v_50 x_47.1]) [1, 2, 3] (by decide) rfl ?_
                              refine J_cut_end _ ?_ ⟨rfl, v_50, (FS.le.refl _), rfl, rfl⟩ trivial
                              exact ⟨rfl, rfl, rfl, rfl, rfl, rfl, rfl, trivial⟩
                          · rintro y_84 _ _ b s_85 _ ⟨rfl, ⟨v_87, hle_86, rfl, rfl⟩⟩
                            refine J_in_normal ?_
                            refine J_cut_end _ ?_ ⟨rfl, v_87, (FS.le.trans hle_76 hle_86), rfl, rfl⟩ trivial
                            exact ⟨rfl, rfl, rfl, rfl, rfl, rfl, rfl, trivial⟩
            · rintro y_88 _ _ b s_89 _ ⟨rfl, ⟨v_91, hle_90, rfl, rfl⟩⟩
              refine J_then ?_
              refine J_region ?_
              refine JL_op rfl (op_read rfl rfl (r_add rfl rfl) ?_)
              refine JL_op rfl (op_read rfl rfl (r_move (v := .int .i64 (IntKind.i64.wrap (x_47.2 + 1))) rfl) ?_)
              refine JL_nil ?_
              refine J_next _ ?_ ⟨v_91, (FS.le.trans hle_49 hle_90), rfl, rfl⟩
              exact ⟨rfl, rfl, rfl, rfl, rfl, rfl, rfl, trivial⟩
          · refine J_exit ?_
            refine J_then_exit ?_
            refine J_done trivial _ ?_ ⟨rfl, v_50, hle_49, rfl, rfl⟩
            exact ⟨rfl, rfl, rfl, rfl, trivial⟩
        · rintro y_92 _ _ b s_93 _ ⟨rfl, ⟨v_95, hle_94, rfl, rfl⟩⟩
          refine J_in_exit ?_
          refine J_then ?_
          refine J_seq ?_
          refine J_region ?_
          refine JL_op rfl (op_read rfl rfl (r_move (v := .int .i64 (if 30 < numbers_1.len then 30 else numbers_1.len)) rfl) ?_)
          refine JL_op rfl (op_read rfl rfl (r_move (v := v_95) rfl) ?_)
          refine JL_op rfl (op_call_lend (f := 10) (fn := Try.f10) (args := [.int .i64 (if 30 < numbers_1.len then 30 else numbers_1.len), v_95]) (post := diff_Solve_post) rfl rfl rfl Try.func10 Try.pn10 rfl rfl (fun y w τ hy hle hs hrow => diff_Solve_ref w τ hs (if 30 < numbers_1.len then 30 else numbers_1.len) v_95 y_92 (hrow 2 _ _ _ _ _ rfl) y hy) (fun y σ' PV' v hp => by obtain ⟨_, _, rfl, rfl⟩ := hp; exact ⟨⟨inferInstance⟩, ⟨⟨inferInstance⟩, trivial⟩⟩) ?_)
          intro r_97 v_99 s_100 PV_102 hy_98 hp_103
          obtain ⟨v_104, v_106, rfl, rfl⟩ := hp_103
          refine JL_op rfl (op_read rfl rfl (r_move (v := .tuple #[v_104, v_106, .int .i64 r_97.2.2]) rfl) ?_)
          refine JL_op rfl (op_read rfl rfl (r_extract (v := v_104) rfl rfl) ?_)
          refine JL_op rfl (op_read rfl rfl (r_extract (v := v_106) rfl rfl) ?_)
          refine JL_op rfl (op_read rfl rfl (r_extract (v := .int .i64 r_97.2.2) rfl rfl) ?_)
          refine JL_op rfl (op_read rfl rfl (r_assign (v := v_104) rfl) ?_)
          refine JL_op rfl (op_read rfl rfl (r_assign (v := v_106) rfl) ?_)
          refine JL_op rfl (op_read rfl rfl (r_assign (v := .int .i64 r_97.2.2) rfl) ?_)
          refine JL_nil ?_
          refine J_then ?_
          refine J_seq ?_
          refine J_region ?_
          refine JL_op rfl (op_read rfl rfl (r_move (v := .int .i64 (if 30 < numbers_1.len then 30 else numbers_1.len)) rfl) ?_)
          refine JL_op rfl (op_read rfl rfl (r_load_priv (cs' := [.int .i64 goal_7.X, .int .i64 goal_7.Y, .int .i64 goal_7.C]) (v := .agg #[.int .i64 goal_7.X, .int .i64 goal_7.Y, .int .i64 goal_7.C]) 3 Try.pu37 Try.pi37 rfl rfl rfl rfl (by decide) rfl) ?_)
          refine JL_op rfl (op_read rfl rfl (r_move (v := v_95) rfl) ?_)
          refine JL_op rfl (op_call_lend (f := 16) (fn := Try.f16) (args := [.int .i64 (if 30 < numbers_1.len then 30 else numbers_1.len), .agg #[.int .i64 goal_7.X, .int .i64 goal_7.Y, .int .i64 goal_7.C], v_95]) (post := diff_Entails_post) rfl rfl rfl Try.func16 Try.pn16 rfl rfl (fun y w τ hy hle hs hrow => diff_Entails_ref w τ hs (if 30 < numbers_1.len then 30 else numbers_1.len) (.agg #[.int .i64 goal_7.X, .int .i64 goal_7.Y, .int .i64 goal_7.C]) goal_7 (Ty.vmono _ hle (t_Gdiff_Leq_v.2 rfl)) v_95 y_92 (hrow 4 _ _ _ _ _ rfl) y hy) (fun y σ' PV' v hp => by obtain ⟨rfl, rfl⟩ := hp; exact trivial) ?_)
          intro r_108 v_110 s_111 PV_113 hy_109 hp_114
          obtain ⟨rfl, rfl⟩ := hp_114
          refine JL_op rfl (op_read rfl rfl (r_move (v := .tuple #[.bool r_108.1, .int .i64 r_108.2]) rfl) ?_)
          refine JL_op rfl (op_read rfl rfl (r_extract (v := .bool r_108.1) rfl rfl) ?_)
          refine JL_op rfl (op_read rfl rfl (r_extract (v := .int .i64 r_108.2) rfl rfl) ?_)
          refine JL_op rfl (op_read rfl rfl (r_assign (v := .bool r_108.1) rfl) ?_)
          refine JL_op rfl (op_read rfl rfl (r_assign (v := .int .i64 r_108.2) rfl) ?_)
          refine JL_nil ?_
          refine J_then ?_
          refine J_seq ?_
          refine J_seq ?_
          refine J_region ?_
          refine JL_op rfl (op_read rfl rfl (r_move (v := .int .i64 r_97.2.2) rfl) ?_)
          refine JL_op rfl (op_read rfl rfl (r_neq rfl rfl) ?_)
          refine JL_op rfl (op_read rfl rfl (r_move (v := .bool (decide (r_97.2.2 ≠ 0))) rfl) ?_)
          refine J_forkL (e := (decide (r_97.2.2 ≠ 0))) 5 [(5, .pointer (some ⟨c_10, 0, none⟩)), (8, v_41), (16, .bool r_108.1), (17, .int .i64 r_108.2), (124, .bool (decide (r_97.2.2 ≠ 0) || decide (r_97.1.len ≠ (if 30 < numbers_1.len then 30 else numbers_1.len))))] (fun hc_115 hk => ?_) (fun hc_115 hk => ?_) (fun b => ?_)
          · refine JL_skip rfl rfl hc_115 rfl rfl ?_
            refine JL_skip rfl rfl hc_115 rfl rfl ?_
            refine JL_skip rfl rfl hc_115 rfl rfl ?_
            refine JL_skip rfl rfl hc_115 rfl rfl ?_
            refine JL_op rfl (op_read rfl rfl (r_pick_t (v := .bool true) rfl hc_115 rfl) ?_)
            refine J_prune [(5, .pointer (some ⟨c_10, 0, none⟩)), (8, v_41), (16, .bool r_108.1), (17, .int .i64 r_108.2), (124, .bool (decide (r_97.2.2 ≠ 0) || decide (r_97.1.len ≠ (if 30 < numbers_1.len then 30 else numbers_1.len))))] ⟨rfl, rfl, rfl, rfl, (by show Value.bool _ = Value.bool _; rw [hc_115]; rfl), trivial⟩ hk
          · refine JL_opg rfl rfl hc_115 (op_read rfl rfl (r_move (v := v_104) rfl) ?_)
            refine JL_opg rfl rfl hc_115 (op_read rfl rfl (r_len_row (v := v_104) 0 Try.pu23 rfl rfl) ?_)
            refine JL_opg rfl rfl hc_115 (op_read rfl rfl (r_move (v := .int .i64 (if 30 < numbers_1.len then 30 else numbers_1.len)) rfl) ?_)
            refine JL_opg rfl rfl hc_115 (op_read rfl rfl (r_neq rfl rfl) ?_)
            refine JL_op rfl (op_read rfl rfl (r_pick_f (v := .bool (decide (r_97.1.len ≠ (if 30 < numbers_1.len then 30 else numbers_1.len)))) rfl hc_115 rfl) ?_)
            refine J_prune [(5, .pointer (some ⟨c_10, 0, none⟩)), (8, v_41), (16, .bool r_108.1), (17, .int .i64 r_108.2), (124, .bool (decide (r_97.2.2 ≠ 0) || decide (r_97.1.len ≠ (if 30 < numbers_1.len then 30 else numbers_1.len))))] ⟨rfl, rfl, rfl, rfl, (by show Value.bool _ = Value.bool _; rw [hc_115]; rfl), trivial⟩ hk
          · refine JL_nil ?_
            refine J_then ?_
            refine J_cond rfl (fun hc_116 => ?_) (fun hc_116 => ?_)
            · refine J_seq ?_
              refine J_region ?_
              refine JL_op rfl (op_read rfl rfl (r_assign (v := .bool false) rfl) ?_)
              refine JL_nil ?_
              refine J_then ?_
              refine J_ret ?_
              refine J_then_ret ?_
              refine J_select (PV' := []) [] (by decide) rfl ?_
              exact J_return1 rfl ⟨rfl, rfl⟩
            · refine J_skip ?_
              refine J_then ?_
              refine J_seq ?_
              refine J_region_any [.row Int (tInt .i64) 2 v_104 r_97.1, .row Int (tInt .i64) 3 v_106 r_97.2.1, .row Int (tInt .i64) 2 v_41 y_38, .cell c_10 [.int .i64 goal_7.X, .int .i64 goal_7.Y, .int .i64 goal_7.C] 37, .row Gdiff_Leq t_Gdiff_Leq 37 v_95 y_92] Try.mixed (by kernel_rfl) fun hns => ?_
              have hS_117 : HeldOK s_93 [.row Int (tInt .i64) 2 v_104 r_97.1, .row Int (tInt .i64) 3 v_106 r_97.2.1, .row Int (tInt .i64) 2 v_41 y_38, .cell c_10 [.int .i64 goal_7.X, .int .i64 goal_7.Y, .int .i64 goal_7.C] 37, .row Gdiff_Leq t_Gdiff_Leq 37 v_95 y_92] s_93 [.row Int (tInt .i64) 2 v_104 r_97.1, .row Int (tInt .i64) 3 v_106 r_97.2.1, .row Int (tInt .i64) 2 v_41 y_38, .cell c_10 [.int .i64 goal_7.X, .int .i64 goal_7.Y, .int .i64 goal_7.C] 37, .row Gdiff_Leq t_Gdiff_Leq 37 v_95 y_92] := HeldOK.same ⟨⟨0, rfl⟩, ⟨1, rfl⟩, ⟨2, rfl⟩, ⟨3, rfl⟩, ⟨4, rfl⟩, trivial⟩
              refine JA_take 0 rfl hns (by kernel_rfl) (by kernel_rfl) hS_117 rfl rfl rfl (r_move (v := .int .i64 r_108.2) rfl) ?_
              refine JA_take 1 rfl hns (by kernel_rfl) (by kernel_rfl) hS_117 rfl rfl rfl (r_neq rfl rfl) ?_
              refine JA_take 2 rfl hns (by kernel_rfl) (by kernel_rfl) hS_117 rfl rfl rfl (r_move (v := .bool (decide (r_108.2 ≠ 0))) rfl) ?_
              refine J_forkA (e := (decide (r_108.2 ≠ 0))) 17 #[true, true, true, true, true, true, false, false, false, false, false, false, false, false, false, false, false, false, false, false, false, false, false] [(5, .pointer (some ⟨c_10, 0, none⟩)), (8, v_41), (130, .bool (decide (r_108.2 ≠ 0) || !r_108.1))] (fun hc_118 hk => ?_) (fun hc_118 hk => ?_) (fun b => ?_)
              · refine JA_skip (y := some (decide (r_108.2 ≠ 0))) 3 rfl hns (by kernel_rfl) (by kernel_rfl) hS_117 rfl rfl (by rw [hc_118]; decide) rfl rfl ?_
                refine JA_skip (y := some (decide (r_108.2 ≠ 0))) 4 rfl hns (by kernel_rfl) (by kernel_rfl) hS_117 rfl rfl (by rw [hc_118]; decide) rfl rfl ?_
                refine JA_take 5 rfl hns (by kernel_rfl) (by kernel_rfl) hS_117 rfl rfl rfl (r_pick_t (v := .bool true) rfl hc_118 rfl) ?_
                refine J_prune [(5, .pointer (some ⟨c_10, 0, none⟩)), (8, v_41), (130, .bool (decide (r_108.2 ≠ 0) || !r_108.1))] ⟨rfl, rfl, (by show Value.bool _ = Value.bool _; rw [hc_118]; rfl), trivial⟩ hk
              · refine JA_takeg 3 rfl hns (by kernel_rfl) (by kernel_rfl) hS_117 rfl rfl hc_118 rfl rfl (r_move (v := .bool r_108.1) rfl) ?_
                refine JA_takeg 4 rfl hns (by kernel_rfl) (by kernel_rfl) hS_117 rfl rfl hc_118 rfl rfl (r_not rfl) ?_
                refine JA_take 5 rfl hns (by kernel_rfl) (by kernel_rfl) hS_117 rfl rfl rfl (r_pick_f (v := .bool (!r_108.1)) rfl hc_118 rfl) ?_
                refine J_prune [(5, .pointer (some ⟨c_10, 0, none⟩)), (8, v_41), (130, .bool (decide (r_108.2 ≠ 0) || !r_108.1))] ⟨rfl, rfl, (by show Value.bool _ = Value.bool _; rw [hc_118]; rfl), trivial⟩ hk
              · refine JA_take 6 rfl hns (by kernel_rfl) (by kernel_rfl) hS_117 rfl rfl rfl (r_move (v := .bool (decide (r_108.2 ≠ 0) || !r_108.1)) rfl) ?_
                refine J_forkAB (e := (decide (r_108.2 ≠ 0) || !r_108.1)) 1 #[true, true, true, true, true, true, true, true, true, true, true, true, true, true, true, true, true, true, true, true, true, true, false] (fun (b_120 : Bool) L τ PV => s_93.le τ ∧ L = [(146, .bool b_120)] ∧ PV = [.row Int (tInt .i64) 2 v_104 r_97.1, .row Int (tInt .i64) 3 v_106 r_97.2.1, .row Int (tInt .i64) 2 v_41 y_38, .cell c_10 [.int .i64 goal_7.X, .int .i64 goal_7.Y, .int .i64 goal_7.C] 37, .row Gdiff_Leq t_Gdiff_Leq 37 v_95 y_92]) (fun hc_119 hk => ?_) (fun hc_119 hk => ?_) ?_
                · refine JA_skip (y := some (decide (r_108.2 ≠ 0) || !r_108.1)) 7 rfl hns (by kernel_rfl) (by kernel_rfl) hS_117 rfl rfl (by rw [hc_119]; decide) rfl rfl ?_
                  refine JA_skip (y := some (decide (r_108.2 ≠ 0) || !r_108.1)) 8 rfl hns (by kernel_rfl) (by kernel_rfl) hS_117 rfl rfl (by rw [hc_119]; decide) rfl rfl ?_
                  refine JA_skip (y := some (decide (r_108.2 ≠ 0) || !r_108.1)) 9 rfl hns (by kernel_rfl) (by kernel_rfl) hS_117 rfl rfl (by rw [hc_119]; decide) rfl rfl ?_
                  refine JA_skip (y := some (decide (r_108.2 ≠ 0) || !r_108.1)) 10 rfl hns (by kernel_rfl) (by kernel_rfl) hS_117 rfl rfl (by rw [hc_119]; decide) rfl rfl ?_
                  refine JA_skip (y := some (decide (r_108.2 ≠ 0) || !r_108.1)) 11 rfl hns (by kernel_rfl) (by kernel_rfl) hS_117 rfl rfl (by rw [hc_119]; decide) rfl rfl ?_
                  refine JA_skip (y := some (decide (r_108.2 ≠ 0) || !r_108.1)) 12 rfl hns (by kernel_rfl) (by kernel_rfl) hS_117 rfl rfl (by rw [hc_119]; decide) rfl rfl ?_
                  refine JA_skip (y := some (decide (r_108.2 ≠ 0) || !r_108.1)) 13 rfl hns (by kernel_rfl) (by kernel_rfl) hS_117 rfl rfl (by rw [hc_119]; decide) rfl rfl ?_
                  refine JA_skip (y := some (decide (r_108.2 ≠ 0) || !r_108.1)) 14 rfl hns (by kernel_rfl) (by kernel_rfl) hS_117 rfl rfl (by rw [hc_119]; decide) rfl rfl ?_
                  refine JA_skip (y := some (decide (r_108.2 ≠ 0) || !r_108.1)) 15 rfl hns (by kernel_rfl) (by kernel_rfl) hS_117 rfl rfl (by rw [hc_119]; decide) rfl rfl ?_
                  refine JA_skip (y := some (decide (r_108.2 ≠ 0) || !r_108.1)) 16 rfl hns (by kernel_rfl) (by kernel_rfl) hS_117 rfl rfl (by rw [hc_119]; decide) rfl rfl ?_
                  refine JA_skip (y := some (decide (r_108.2 ≠ 0) || !r_108.1)) 17 rfl hns (by kernel_rfl) (by kernel_rfl) hS_117 rfl rfl (by rw [hc_119]; decide) rfl rfl ?_
                  refine JA_skip (y := some (decide (r_108.2 ≠ 0) || !r_108.1)) 18 rfl hns (by kernel_rfl) (by kernel_rfl) hS_117 rfl rfl (by rw [hc_119]; decide) rfl rfl ?_
                  refine JA_skip (y := some (decide (r_108.2 ≠ 0) || !r_108.1)) 19 rfl hns (by kernel_rfl) (by kernel_rfl) hS_117 rfl rfl (by rw [hc_119]; decide) rfl rfl ?_
                  refine JA_skip (y := some (decide (r_108.2 ≠ 0) || !r_108.1)) 20 rfl hns (by kernel_rfl) (by kernel_rfl) hS_117 rfl rfl (by rw [hc_119]; decide) rfl rfl ?_
                  refine JA_take 21 rfl hns (by kernel_rfl) (by kernel_rfl) hS_117 rfl rfl rfl (r_pick_t (v := .bool true) rfl hc_119 rfl) ?_
                  refine J_prune _ ?_ fun b => hk true _ b _ _ ⟨(FS.le.refl _), rfl, rfl⟩
                  exact ⟨rfl, trivial⟩
                · refine JA_takeg 7 rfl hns (by kernel_rfl) (by kernel_rfl) hS_117 rfl rfl hc_119 rfl rfl (r_move (v := v_41) rfl) ?_
                  refine JA_takeg 8 rfl hns (by kernel_rfl) (by kernel_rfl) hS_117 rfl rfl hc_119 rfl rfl (r_fieldAddr (r := ⟨c_10, 0, none⟩) Try.pu37 (f := Try.pf37.getD 0 default) rfl Try.pi3 (by decide) rfl rfl) ?_
                  refine JA_takeg 9 rfl hns (by kernel_rfl) (by kernel_rfl) hS_117 rfl rfl hc_119 rfl rfl (r_load_priv (cs' := [.int .i64 goal_7.X]) (v := .int .i64 goal_7.X) 3 Try.pu3 Try.pi3 rfl rfl rfl rfl (by decide) rfl) ?_
                  refine J_assoc ?_
                  refine J_bind fun x_121 hx_122 => ?_
                  refine JA_takeg 10 rfl hns (by kernel_rfl) (by kernel_rfl) hS_117 rfl rfl hc_119 rfl rfl (r_index_row (v := v_41) (T := (tInt .i64)) (q := x_121) 2 Try.pu23 Try.pi2 rfl rfl rfl rfl hx_122) ?_
                  refine JA_takesg 11 rfl hns (by kernel_rfl) (by kernel_rfl) hS_117 rfl rfl hc_119 rfl rfl (l_elem_row (v := v_41) (T := (tInt .i64)) (Tf := (tInt .i64)) (q := x_121) (i := goal_7.X) (off := 0) 2 Try.pu2 Try.pi2 rfl rfl rfl rfl hx_122 (FieldAt.self _) (by decide)) ?_
                  intro v_123 h_124
                  obtain rfl := tInt_v.1 h_124
                  refine JA_takeg 12 rfl hns (by kernel_rfl) (by kernel_rfl) hS_117 rfl rfl hc_119 rfl rfl (r_move (v := v_41) rfl) ?_
                  refine JA_takeg 13 rfl hns (by kernel_rfl) (by kernel_rfl) hS_117 rfl rfl hc_119 rfl rfl (r_fieldAddr (r := ⟨c_10, 1, none⟩) Try.pu37 (f := Try.pf37.getD 1 default) rfl Try.pi3 (by decide) rfl rfl) ?_
                  refine JA_takeg 14 rfl hns (by kernel_rfl) (by kernel_rfl) hS_117 rfl rfl hc_119 rfl rfl (r_load_priv (cs' := [.int .i64 goal_7.Y]) (v := .int .i64 goal_7.Y) 3 Try.pu3 Try.pi3 rfl rfl rfl rfl (by decide) rfl) ?_
                  refine J_assoc ?_
                  refine J_bind fun x_125 hx_126 => ?_
                  refine JA_takeg 15 rfl hns (by kernel_rfl) (by kernel_rfl) hS_117 rfl rfl hc_119 rfl rfl (r_index_row (v := v_41) (T := (tInt .i64)) (q := x_125) 2 Try.pu23 Try.pi2 rfl rfl rfl rfl hx_126) ?_
                  refine JA_takesg 16 rfl hns (by kernel_rfl) (by kernel_rfl) hS_117 rfl rfl hc_119 rfl rfl (l_elem_row (v := v_41) (T := (tInt .i64)) (Tf := (tInt .i64)) (q := x_125) (i := goal_7.Y) (off := 0) 2 Try.pu2 Try.pi2 rfl rfl rfl rfl hx_126 (FieldAt.self _) (by decide)) ?_
                  intro v_127 h_128
                  obtain rfl := tInt_v.1 h_128
                  refine JA_takeg 17 rfl hns (by kernel_rfl) (by kernel_rfl) hS_117 rfl rfl hc_119 rfl rfl (r_sub rfl rfl) ?_
                  refine JA_takeg 18 rfl hns (by kernel_rfl) (by kernel_rfl) hS_117 rfl rfl hc_119 rfl rfl (r_fieldAddr (r := ⟨c_10, 2, none⟩) Try.pu37 (f := Try.pf37.getD 2 default) rfl Try.pi2 (by decide) rfl rfl) ?_
                  refine JA_takeg 19 rfl hns (by kernel_rfl) (by kernel_rfl) hS_117 rfl rfl hc_119 rfl rfl (r_load_priv (cs' := [.int .i64 goal_7.C]) (v := .int .i64 goal_7.C) 3 Try.pu2 Try.pi2 rfl rfl rfl rfl (by decide) rfl) ?_
                  refine JA_takeg 20 rfl hns (by kernel_rfl) (by kernel_rfl) hS_117 rfl rfl hc_119 rfl rfl (r_leq rfl rfl) ?_
                  refine JA_take 21 rfl hns (by kernel_rfl) (by kernel_rfl) hS_117 rfl rfl rfl (r_pick_f (v := .bool (decide ((IntKind.i64.wrap (x_121 - x_125)) ≤ goal_7.C))) rfl hc_119 rfl) ?_
                  refine J_prune _ ?_ fun b => hk (decide ((IntKind.i64.wrap (x_121 - x_125)) ≤ goal_7.C)) _ b _ _ ⟨(FS.le.refl _), rfl, rfl⟩
                  exact ⟨rfl, trivial⟩
                · rintro b_120 _ b s_129 _ ⟨hle_130, rfl, rfl⟩
                  have hS_131 : HeldOK s_93 [.row Int (tInt .i64) 2 v_104 r_97.1, .row Int (tInt .i64) 3 v_106 r_97.2.1, .row Int (tInt .i64) 2 v_41 y_38, .cell c_10 [.int .i64 goal_7.X, .int .i64 goal_7.Y, .int .i64 goal_7.C] 37, .row Gdiff_Leq t_Gdiff_Leq 37 v_95 y_92] s_129 [.row Int (tInt .i64) 2 v_104 r_97.1, .row Int (tInt .i64) 3 v_106 r_97.2.1, .row Int (tInt .i64) 2 v_41 y_38, .cell c_10 [.int .i64 goal_7.X, .int .i64 goal_7.Y, .int .i64 goal_7.C] 37, .row Gdiff_Leq t_Gdiff_Leq 37 v_95 y_92] := HeldOK.plain hle_130 ⟨⟨0, rfl⟩, ⟨1, rfl⟩, ⟨2, rfl⟩, ⟨3, rfl⟩, ⟨4, rfl⟩, trivial⟩ ⟨⟨inferInstance⟩, ⟨inferInstance⟩, ⟨inferInstance⟩, ⟨inferInstance⟩, trivial⟩
                  refine JA_take 22 rfl hns (by kernel_rfl) (by kernel_rfl) hS_131 rfl rfl rfl (r_assign (v := .bool b_120) rfl) ?_
                  refine JA_done (by kernel_rfl) ?_
                  refine J_then ?_
                  refine J_ret ?_
                  refine J_select (PV' := []) [] (by decide) rfl ?_
                  exact J_return1 rfl ⟨rfl, rfl⟩
def lychgatelaw04_DiffChain_post (r : Bool) (σ : FS) (PV : List Priv) (v : Value) : Prop :=
  v = .bool r ∧ PV = []
set_option maxRecDepth 100000 in
theorem lychgatelaw04_DiffChain_ref (w : World) (σ : FS) (hs : σ.sub w) (v_2 : Value) (steps_1 : Sl Int) (h_3 : (tSl (tInt .i64)).vrel σ v_2 steps_1) (r : Bool) (hr : lychgatelaw04_DiffChain steps_1 = some r) : Does Try.prog 7 [v_2] w σ (lychgatelaw04_DiffChain_post r) := by
  unfold lychgatelaw04_DiffChain at hr
  refine does_of_J Try.func7 rfl (n := 94) rfl rfl hs hr ?_
  refine J_seq ?_
  refine J_region ?_
  refine JL_op rfl (op_read rfl rfl (r_assign (v := .bool false) rfl) ?_)
  refine JL_nil ?_
  refine J_then ?_
  refine J_seq ?_
  refine J_seq ?_
  refine J_region ?_
  refine JL_op rfl (op_call (f := 13) (fn := Try.f13) (args := []) (post := lychgatelaw04_wakes_post) rfl rfl rfl Try.func13 Try.pn13 rfl rfl (fun y w hy hs => lychgatelaw04_wakes_ref w _ hs  y hy) ?_)
  intro r_4 v_6 s_7 PV_9 hy_5 hle_8 hp_10
  obtain ⟨rfl, rfl⟩ := hp_10
  refine JL_op rfl (op_read rfl rfl (r_not rfl) ?_)
  refine JL_nil ?_
  refine J_then ?_
  refine J_cond rfl (fun hc_11 => ?_) (fun hc_11 => ?_)
  · refine J_seq ?_
    refine J_region ?_
    refine JL_op rfl (op_read rfl rfl (r_assign (v := .bool false) rfl) ?_)
    refine JL_nil ?_
    refine J_then ?_
    refine J_ret ?_
    refine J_then_ret ?_
    exact J_return1 rfl ⟨rfl, rfl⟩
  · refine J_skip ?_
    refine J_then ?_
    refine J_seq ?_
    refine J_region ?_
    refine JL_op rfl (op_read rfl rfl (r_move (v := v_2) rfl) ?_)
    refine JL_op rfl (op_read rfl rfl (r_len_frozen (v := v_2) Try.pu23 rfl (Ty.vmono _ hle_8 h_3)) ?_)
    refine JL_op rfl (op_read rfl rfl (r_min rfl rfl) ?_)
    refine JL_op rfl (op_read rfl rfl (r_assign (v := .int .i64 (if 95 < steps_1.len then 95 else steps_1.len)) rfl) ?_)
    refine JL_nil ?_
    refine J_then ?_
    refine J_seq ?_
    refine J_region ?_
    refine JL_op rfl (op_read rfl rfl (r_assign (v := .int .i64 0) rfl) ?_)
    refine JL_nil ?_
    refine J_then ?_
    refine J_seq ?_
    refine J_region ?_
    refine JL_op rfl (op_read rfl rfl (r_assign (v := .slice none 0 0) rfl) ?_)
    refine JL_nil ?_
    refine J_then ?_
    refine J_seq ?_
    refine J_seq ?_
    refine J_region ?_
    refine JL_op rfl (op_read rfl rfl (r_move (v := .int .i64 (if 95 < steps_1.len then 95 else steps_1.len)) rfl) ?_)
    refine JL_op rfl (op_read rfl rfl (r_move (v := .int .i64 0) rfl) ?_)
    refine JL_nil ?_
    refine J_then ?_
    refine J_block ?_
    refine J_nil_row t_Gdiff_Leq 37 ?_
    refine J_loop (fun (y : Int × (Sl Gdiff_Leq) × Int) L τ PV => ∃ (w0 : Value), s_7.le τ ∧ L = [(0, v_2), (3, .int .i64 (if 95 < steps_1.len then 95 else steps_1.len)), (4, .int .i64 y.1), (5, w0), (19, .int .i64 (if 95 < steps_1.len then 95 else steps_1.len)), (20, .int .i64 y.2.2)] ∧ PV = [.row Gdiff_Leq t_Gdiff_Leq 37 w0 y.2.1]) (fun (y : Int × (Sl Gdiff_Leq)) e L τ PV => e = .exit 0 ∧ (∃ (w0 : Value), s_7.le τ ∧ L = [(3, .int .i64 (if 95 < steps_1.len then 95 else steps_1.len)), (4, .int .i64 y.1), (5, w0)] ∧ PV = [.row Gdiff_Leq t_Gdiff_Leq 37 w0 y.2])) _ ?_ ⟨(.slice none 0 0), (FS.le.refl _), rfl, rfl⟩ ?_ ?_
    · exact ⟨rfl, rfl, rfl, rfl, rfl, rfl, trivial⟩
    · rintro x_13 _ b s_14 _ ⟨v_16, hle_15, rfl, rfl⟩
      unfold lychgatelaw04_DiffChain_L1
      refine J_seq ?_
      refine J_region ?_
      refine JL_op rfl (op_read rfl rfl (r_lss rfl rfl) ?_)
      refine JL_nil ?_
      refine J_then ?_
      refine J_seq ?_
      refine J_cond rfl (fun hc_18 => ?_) (fun hc_18 => ?_)
      · refine J_skip ?_
        refine J_then ?_
        refine J_seq ?_
        refine J_block ?_
        refine J_seq ?_
        refine J_region ?_
        refine JL_op rfl (op_read rfl rfl (r_move (v := .int .i64 x_13.2.2) rfl) ?_)
        refine JL_op rfl (op_read rfl rfl (r_assign (v := .int .i64 x_13.2.2) rfl) ?_)
        refine JL_nil ?_
        refine J_then ?_
        refine J_seq ?_
        refine J_region ?_
        refine JL_op rfl (op_read rfl rfl (r_move (v := v_2) rfl) ?_)
        refine JL_op rfl (op_read rfl rfl (r_move (v := .int .i64 x_13.2.2) rfl) ?_)
        refine J_bind fun x_19 hx_20 => ?_
        refine JL_op rfl (op_read rfl rfl (r_index_frozen (v := v_2) (T := (tInt .i64)) (q := x_19) Try.pu23 Try.pi2 rfl rfl rfl (Ty.vmono _ (FS.le.trans hle_8 hle_15) h_3) hx_20) ?_)
        refine JL_op rfl (op_reads rfl rfl (l_elem_frozen (v := v_2) (T := (tInt .i64)) (Tf := (tInt .i64)) (q := x_19) (i := x_13.2.2) (off := 0) Try.pu2 Try.pi2 rfl rfl rfl (Ty.vmono _ (FS.le.trans hle_8 hle_15) h_3) hx_20 (FieldAt.self _) (by decide)) ?_)
        intro v_21 h_22
        obtain rfl := tInt_v.1 h_22
        refine JL_op rfl (op_read rfl rfl (r_min rfl rfl) ?_)
        refine JL_op rfl (op_read rfl rfl (r_max rfl rfl) ?_)
        refine JL_op rfl (op_read rfl rfl (r_assign (v := .int .i64 (if (-1073741824) < (if 1073741824 < x_19 then 1073741824 else x_19) then (if 1073741824 < x_19 then 1073741824 else x_19) else (-1073741824))) rfl) ?_)
        refine JL_nil ?_
        refine J_then ?_
        refine J_seq ?_
        refine J_region ?_
        refine JL_op rfl (op_read rfl rfl (r_move (v := v_16) rfl) ?_)
        refine JL_op rfl (op_read rfl rfl (r_move (v := .int .i64 x_13.2.2) rfl) ?_)
        refine JL_op rfl (op_read rfl rfl (r_move (v := .int .i64 x_13.2.2) rfl) ?_)
        refine JL_op rfl (op_read rfl rfl (r_add rfl rfl) ?_)
        refine JL_op rfl (op_read rfl rfl (r_move (v := .int .i64 (if (-1073741824) < (if 1073741824 < x_19 then 1073741824 else x_19) then (if 1073741824 < x_19 then 1073741824 else x_19) else (-1073741824))) rfl) ?_)
        refine JL_op rfl (op_read rfl rfl (r_build (cs := [.int .i64 x_13.2.2, .int .i64 (IntKind.i64.wrap (x_13.2.2 + 1)), .int .i64 (if (-1073741824) < (if 1073741824 < x_19 then 1073741824 else x_19) then (if 1073741824 < x_19 then 1073741824 else x_19) else (-1073741824))]) (vs := [(0, .int .i64 x_13.2.2), (1, .int .i64 (IntKind.i64.wrap (x_13.2.2 + 1))), (2, .int .i64 (if (-1073741824) < (if 1073741824 < x_19 then 1073741824 else x_19) then (if 1073741824 < x_19 then 1073741824 else x_19) else (-1073741824)))]) (pcs := [(0, [.int .i64 x_13.2.2]), (1, [.int .i64 (IntKind.i64.wrap (x_13.2.2 + 1))]), (2, [.int .i64 (if (-1073741824) < (if 1073741824 < x_19 then 1073741824 else x_19) then (if 1073741824 < x_19 then 1073741824 else x_19) else (-1073741824))])]) (pls := [(0, 1), (1, 1), (2, 1)]) Try.pu37 Try.pi37 rfl (by kernel_rfl) rfl ⟨rfl, rfl, ⟨rfl, rfl, ⟨rfl, rfl, trivial⟩⟩⟩ rfl) ?_)
        refine JL_op rfl (op_buildSlice (T := t_Gdiff_Leq) (vs := [.agg #[.int .i64 x_13.2.2, .int .i64 (IntKind.i64.wrap (x_13.2.2 + 1)), .int .i64 (if (-1073741824) < (if 1073741824 < x_19 then 1073741824 else x_19) then (if 1073741824 < x_19 then 1073741824 else x_19) else (-1073741824))]]) (xs := [(⟨x_13.2.2, IntKind.i64.wrap (x_13.2.2 + 1), (if (-1073741824) < (if 1073741824 < x_19 then 1073741824 else x_19) then (if 1073741824 < x_19 then 1073741824 else x_19) else (-1073741824))⟩ : Gdiff_Leq)]) rfl Try.pu22 Try.pi37 rfl rfl rfl rfl rfl rfl ⟨(t_Gdiff_Leq_v.2 rfl), trivial⟩ ?_)
        intro v_23
        refine JL_op rfl (op_append (v := v_16) (u := v_23) (T := t_Gdiff_Leq) (ts := [(⟨x_13.2.2, IntKind.i64.wrap (x_13.2.2 + 1), (if (-1073741824) < (if 1073741824 < x_19 then 1073741824 else x_19) then (if 1073741824 < x_19 then 1073741824 else x_19) else (-1073741824))⟩ : Gdiff_Leq)]) 1 rfl Try.pu22 Try.pi37 rfl rfl rfl rfl rfl rfl rfl (source_row (s := (⟨[(⟨x_13.2.2, IntKind.i64.wrap (x_13.2.2 + 1), (if (-1073741824) < (if 1073741824 < x_19 then 1073741824 else x_19) then (if 1073741824 < x_19 then 1073741824 else x_19) else (-1073741824))⟩ : Gdiff_Leq)], true⟩ : Sl Gdiff_Leq)) 0 rfl) ?_)
        intro s_25 v_27 ha_26
        refine JL_op rfl (op_read rfl rfl (r_assign (v := v_27) rfl) ?_)
        refine JL_nil ?_
        refine J_then ?_
        refine J_region ?_
        refine JL_op rfl (op_read rfl rfl (r_move (v := .int .i64 x_13.1) rfl) ?_)
        refine JL_op rfl (op_read rfl rfl (r_move (v := .int .i64 (if (-1073741824) < (if 1073741824 < x_19 then 1073741824 else x_19) then (if 1073741824 < x_19 then 1073741824 else x_19) else (-1073741824))) rfl) ?_)
        refine JL_op rfl (op_read rfl rfl (r_add rfl rfl) ?_)
        refine JL_op rfl (op_read rfl rfl (r_assign (v := .int .i64 (IntKind.i64.wrap (x_13.1 + (if (-1073741824) < (if 1073741824 < x_19 then 1073741824 else x_19) then (if 1073741824 < x_19 then 1073741824 else x_19) else (-1073741824))))) rfl) ?_)
        refine JL_nil ?_
        refine J_in_normal ?_
        refine J_then ?_
        refine J_region ?_
        refine JL_op rfl (op_read rfl rfl (r_add rfl rfl) ?_)
        refine JL_op rfl (op_read rfl rfl (r_move (v := .int .i64 (IntKind.i64.wrap (x_13.2.2 + 1))) rfl) ?_)
        refine JL_nil ?_
        refine J_select (PV' := [.row Gdiff_Leq t_Gdiff_Leq 37 v_27 s_25]) [1] (by decide) rfl ?_
        refine J_next _ ?_ ⟨v_27, hle_15, rfl, rfl⟩
        exact ⟨rfl, rfl, rfl, rfl, rfl, rfl, trivial⟩
      · refine J_exit ?_
        refine J_then_exit ?_
        refine J_done trivial _ ?_ ⟨rfl, v_16, hle_15, rfl, rfl⟩
        exact ⟨rfl, rfl, rfl, trivial⟩
    · rintro y_28 _ _ b s_29 _ ⟨rfl, ⟨v_31, hle_30, rfl, rfl⟩⟩
      refine J_in_exit ?_
      refine J_then ?_
      refine J_seq ?_
      refine J_seq ?_
      refine J_region ?_
      refine JL_op rfl (op_read rfl rfl (r_move (v := .int .i64 (if 95 < steps_1.len then 95 else steps_1.len)) rfl) ?_)
      refine JL_op rfl (op_read rfl rfl (r_eql rfl rfl) ?_)
      refine JL_nil ?_
      refine J_then ?_
      refine J_cond rfl (fun hc_33 => ?_) (fun hc_33 => ?_)
      · refine J_seq ?_
        refine J_region ?_
        refine JL_op rfl (op_read rfl rfl (r_assign (v := .bool true) rfl) ?_)
        refine JL_nil ?_
        refine J_then ?_
        refine J_ret ?_
        refine J_then_ret ?_
        refine J_select (PV' := []) [] (by decide) rfl ?_
        exact J_return1 rfl ⟨rfl, rfl⟩
      · refine J_skip ?_
        refine J_then ?_
        refine J_seq ?_
        refine J_region ?_
        refine JL_op rfl (op_read rfl rfl (r_move (v := .int .i64 (if 95 < steps_1.len then 95 else steps_1.len)) rfl) ?_)
        refine JL_op rfl (op_read rfl rfl (r_add rfl rfl) ?_)
        refine JL_op rfl (op_read rfl rfl (r_move (v := .int .i64 (if 95 < steps_1.len then 95 else steps_1.len)) rfl) ?_)
        refine JL_op rfl (op_read rfl rfl (r_move (v := .int .i64 y_28.1) rfl) ?_)
        refine JL_op rfl (op_read rfl rfl (r_build (cs := [.int .i64 0, .int .i64 (if 95 < steps_1.len then 95 else steps_1.len), .int .i64 y_28.1]) (vs := [(0, .int .i64 0), (1, .int .i64 (if 95 < steps_1.len then 95 else steps_1.len)), (2, .int .i64 y_28.1)]) (pcs := [(0, [.int .i64 0]), (1, [.int .i64 (if 95 < steps_1.len then 95 else steps_1.len)]), (2, [.int .i64 y_28.1])]) (pls := [(0, 1), (1, 1), (2, 1)]) Try.pu37 Try.pi37 rfl (by kernel_rfl) rfl ⟨rfl, rfl, ⟨rfl, rfl, ⟨rfl, rfl, trivial⟩⟩⟩ rfl) ?_)
        refine JL_op rfl (op_read rfl rfl (r_move (v := v_31) rfl) ?_)
        refine JL_op rfl (op_call_lend (f := 16) (fn := Try.f16) (args := [.int .i64 (IntKind.i64.wrap ((if 95 < steps_1.len then 95 else steps_1.len) + 1)), .agg #[.int .i64 0, .int .i64 (if 95 < steps_1.len then 95 else steps_1.len), .int .i64 y_28.1], v_31]) (post := diff_Entails_post) rfl rfl rfl Try.func16 Try.pn16 rfl rfl (fun y w τ hy hle hs hrow => diff_Entails_ref w τ hs (IntKind.i64.wrap ((if 95 < steps_1.len then 95 else steps_1.len) + 1)) (.agg #[.int .i64 0, .int .i64 (if 95 < steps_1.len then 95 else steps_1.len), .int .i64 y_28.1]) (⟨0, (if 95 < steps_1.len then 95 else steps_1.len), y_28.1⟩ : Gdiff_Leq) (Ty.vmono _ hle (t_Gdiff_Leq_v.2 rfl)) v_31 y_28.2 (hrow 0 _ _ _ _ _ rfl) y hy) (fun y σ' PV' v hp => by obtain ⟨rfl, rfl⟩ := hp; exact trivial) ?_)
        intro r_34 v_36 s_37 PV_39 hy_35 hp_40
        obtain ⟨rfl, rfl⟩ := hp_40
        refine JL_op rfl (op_read rfl rfl (r_move (v := .tuple #[.bool r_34.1, .int .i64 r_34.2]) rfl) ?_)
        refine JL_op rfl (op_read rfl rfl (r_extract (v := .bool r_34.1) rfl rfl) ?_)
        refine JL_op rfl (op_read rfl rfl (r_extract (v := .int .i64 r_34.2) rfl rfl) ?_)
        refine JL_op rfl (op_read rfl rfl (r_assign (v := .bool r_34.1) rfl) ?_)
        refine JL_op rfl (op_read rfl rfl (r_assign (v := .int .i64 r_34.2) rfl) ?_)
        refine JL_nil ?_
        refine J_then ?_
        refine J_seq ?_
        refine J_region ?_
        refine JL_op rfl (op_read rfl rfl (r_move (v := .int .i64 (if 95 < steps_1.len then 95 else steps_1.len)) rfl) ?_)
        refine JL_op rfl (op_read rfl rfl (r_add rfl rfl) ?_)
        refine JL_op rfl (op_read rfl rfl (r_move (v := .int .i64 (if 95 < steps_1.len then 95 else steps_1.len)) rfl) ?_)
        refine JL_op rfl (op_read rfl rfl (r_move (v := .int .i64 y_28.1) rfl) ?_)
        refine JL_op rfl (op_read rfl rfl (r_sub rfl rfl) ?_)
        refine JL_op rfl (op_read rfl rfl (r_build (cs := [.int .i64 0, .int .i64 (if 95 < steps_1.len then 95 else steps_1.len), .int .i64 (IntKind.i64.wrap (y_28.1 - 1))]) (vs := [(0, .int .i64 0), (1, .int .i64 (if 95 < steps_1.len then 95 else steps_1.len)), (2, .int .i64 (IntKind.i64.wrap (y_28.1 - 1)))]) (pcs := [(0, [.int .i64 0]), (1, [.int .i64 (if 95 < steps_1.len then 95 else steps_1.len)]), (2, [.int .i64 (IntKind.i64.wrap (y_28.1 - 1))])]) (pls := [(0, 1), (1, 1), (2, 1)]) Try.pu37 Try.pi37 rfl (by kernel_rfl) rfl ⟨rfl, rfl, ⟨rfl, rfl, ⟨rfl, rfl, trivial⟩⟩⟩ rfl) ?_)
        refine JL_op rfl (op_read rfl rfl (r_move (v := v_31) rfl) ?_)
        refine JL_op rfl (op_call_lend (f := 16) (fn := Try.f16) (args := [.int .i64 (IntKind.i64.wrap ((if 95 < steps_1.len then 95 else steps_1.len) + 1)), .agg #[.int .i64 0, .int .i64 (if 95 < steps_1.len then 95 else steps_1.len), .int .i64 (IntKind.i64.wrap (y_28.1 - 1))], v_31]) (post := diff_Entails_post) rfl rfl rfl Try.func16 Try.pn16 rfl rfl (fun y w τ hy hle hs hrow => diff_Entails_ref w τ hs (IntKind.i64.wrap ((if 95 < steps_1.len then 95 else steps_1.len) + 1)) (.agg #[.int .i64 0, .int .i64 (if 95 < steps_1.len then 95 else steps_1.len), .int .i64 (IntKind.i64.wrap (y_28.1 - 1))]) (⟨0, (if 95 < steps_1.len then 95 else steps_1.len), IntKind.i64.wrap (y_28.1 - 1)⟩ : Gdiff_Leq) (Ty.vmono _ hle (t_Gdiff_Leq_v.2 rfl)) v_31 y_28.2 (hrow 0 _ _ _ _ _ rfl) y hy) (fun y σ' PV' v hp => by obtain ⟨rfl, rfl⟩ := hp; exact trivial) ?_)
        intro r_41 v_43 s_44 PV_46 hy_42 hp_47
        obtain ⟨rfl, rfl⟩ := hp_47
        refine JL_op rfl (op_read rfl rfl (r_move (v := .tuple #[.bool r_41.1, .int .i64 r_41.2]) rfl) ?_)
        refine JL_op rfl (op_read rfl rfl (r_extract (v := .bool r_41.1) rfl rfl) ?_)
        refine JL_op rfl (op_read rfl rfl (r_extract (v := .int .i64 r_41.2) rfl rfl) ?_)
        refine JL_op rfl (op_read rfl rfl (r_assign (v := .bool r_41.1) rfl) ?_)
        refine JL_op rfl (op_read rfl rfl (r_assign (v := .int .i64 r_41.2) rfl) ?_)
        refine JL_nil ?_
        refine J_then ?_
        refine J_seq ?_
        refine J_region ?_
        refine JL_op rfl (op_read rfl rfl (r_move (v := .int .i64 (if 95 < steps_1.len then 95 else steps_1.len)) rfl) ?_)
        refine JL_op rfl (op_read rfl rfl (r_add rfl rfl) ?_)
        refine JL_op rfl (op_read rfl rfl (r_move (v := .int .i64 (if 95 < steps_1.len then 95 else steps_1.len)) rfl) ?_)
        refine JL_op rfl (op_read rfl rfl (r_build (cs := [.int .i64 (if 95 < steps_1.len then 95 else steps_1.len), .int .i64 0, .int .i64 1099511627776]) (vs := [(0, .int .i64 (if 95 < steps_1.len then 95 else steps_1.len)), (1, .int .i64 0), (2, .int .i64 1099511627776)]) (pcs := [(0, [.int .i64 (if 95 < steps_1.len then 95 else steps_1.len)]), (1, [.int .i64 0]), (2, [.int .i64 1099511627776])]) (pls := [(0, 1), (1, 1), (2, 1)]) Try.pu37 Try.pi37 rfl (by kernel_rfl) rfl ⟨rfl, rfl, ⟨rfl, rfl, ⟨rfl, rfl, trivial⟩⟩⟩ rfl) ?_)
        refine JL_op rfl (op_read rfl rfl (r_move (v := v_31) rfl) ?_)
        refine JL_op rfl (op_call_lend (f := 16) (fn := Try.f16) (args := [.int .i64 (IntKind.i64.wrap ((if 95 < steps_1.len then 95 else steps_1.len) + 1)), .agg #[.int .i64 (if 95 < steps_1.len then 95 else steps_1.len), .int .i64 0, .int .i64 1099511627776], v_31]) (post := diff_Entails_post) rfl rfl rfl Try.func16 Try.pn16 rfl rfl (fun y w τ hy hle hs hrow => diff_Entails_ref w τ hs (IntKind.i64.wrap ((if 95 < steps_1.len then 95 else steps_1.len) + 1)) (.agg #[.int .i64 (if 95 < steps_1.len then 95 else steps_1.len), .int .i64 0, .int .i64 1099511627776]) (⟨(if 95 < steps_1.len then 95 else steps_1.len), 0, 1099511627776⟩ : Gdiff_Leq) (Ty.vmono _ hle (t_Gdiff_Leq_v.2 rfl)) v_31 y_28.2 (hrow 0 _ _ _ _ _ rfl) y hy) (fun y σ' PV' v hp => by obtain ⟨rfl, rfl⟩ := hp; exact trivial) ?_)
        intro r_48 v_50 s_51 PV_53 hy_49 hp_54
        obtain ⟨rfl, rfl⟩ := hp_54
        refine JL_op rfl (op_read rfl rfl (r_move (v := .tuple #[.bool r_48.1, .int .i64 r_48.2]) rfl) ?_)
        refine JL_op rfl (op_read rfl rfl (r_extract (v := .bool r_48.1) rfl rfl) ?_)
        refine JL_op rfl (op_read rfl rfl (r_extract (v := .int .i64 r_48.2) rfl rfl) ?_)
        refine JL_op rfl (op_read rfl rfl (r_assign (v := .bool r_48.1) rfl) ?_)
        refine JL_op rfl (op_read rfl rfl (r_assign (v := .int .i64 r_48.2) rfl) ?_)
        refine JL_nil ?_
        refine J_then ?_
        refine J_seq ?_
        refine J_region ?_
        refine JL_op rfl (op_read rfl rfl (r_move (v := .bool r_34.1) rfl) ?_)
        refine JL_op rfl (op_read rfl rfl (r_move (v := .bool r_34.1) rfl) ?_)
        refine J_forkL (e := r_34.1) 3 [(9, .int .i64 r_34.2), (11, .int .i64 r_41.2), (12, .bool r_48.1), (13, .int .i64 r_48.2), (77, .bool (r_34.1 && !r_41.1))] (fun hc_55 hk => ?_) (fun hc_55 hk => ?_) (fun b => ?_)
        · refine JL_opg rfl rfl hc_55 (op_read rfl rfl (r_move (v := .bool r_41.1) rfl) ?_)
          refine JL_opg rfl rfl hc_55 (op_read rfl rfl (r_not rfl) ?_)
          refine JL_op rfl (op_read rfl rfl (r_pick_t (v := .bool (!r_41.1)) rfl hc_55 rfl) ?_)
          refine J_prune [(9, .int .i64 r_34.2), (11, .int .i64 r_41.2), (12, .bool r_48.1), (13, .int .i64 r_48.2), (77, .bool (r_34.1 && !r_41.1))] ⟨rfl, rfl, rfl, rfl, (by show Value.bool _ = Value.bool _; rw [hc_55]; rfl), trivial⟩ hk
        · refine JL_skip rfl rfl hc_55 rfl rfl ?_
          refine JL_skip rfl rfl hc_55 rfl rfl ?_
          refine JL_op rfl (op_read rfl rfl (r_pick_f (v := .bool false) rfl hc_55 rfl) ?_)
          refine J_prune [(9, .int .i64 r_34.2), (11, .int .i64 r_41.2), (12, .bool r_48.1), (13, .int .i64 r_48.2), (77, .bool (r_34.1 && !r_41.1))] ⟨rfl, rfl, rfl, rfl, (by show Value.bool _ = Value.bool _; rw [hc_55]; rfl), trivial⟩ hk
        · refine JL_op rfl (op_read rfl rfl (r_move (v := .bool (r_34.1 && !r_41.1)) rfl) ?_)
          refine J_forkL (e := (r_34.1 && !r_41.1)) 3 [(9, .int .i64 r_34.2), (11, .int .i64 r_41.2), (13, .int .i64 r_48.2), (81, .bool ((r_34.1 && !r_41.1) && !r_48.1))] (fun hc_56 hk => ?_) (fun hc_56 hk => ?_) (fun b => ?_)
          · refine JL_opg rfl rfl hc_56 (op_read rfl rfl (r_move (v := .bool r_48.1) rfl) ?_)
            refine JL_opg rfl rfl hc_56 (op_read rfl rfl (r_not rfl) ?_)
            refine JL_op rfl (op_read rfl rfl (r_pick_t (v := .bool (!r_48.1)) rfl hc_56 rfl) ?_)
            refine J_prune [(9, .int .i64 r_34.2), (11, .int .i64 r_41.2), (13, .int .i64 r_48.2), (81, .bool ((r_34.1 && !r_41.1) && !r_48.1))] ⟨rfl, rfl, rfl, (by show Value.bool _ = Value.bool _; rw [hc_56]; rfl), trivial⟩ hk
          · refine JL_skip rfl rfl hc_56 rfl rfl ?_
            refine JL_skip rfl rfl hc_56 rfl rfl ?_
            refine JL_op rfl (op_read rfl rfl (r_pick_f (v := .bool false) rfl hc_56 rfl) ?_)
            refine J_prune [(9, .int .i64 r_34.2), (11, .int .i64 r_41.2), (13, .int .i64 r_48.2), (81, .bool ((r_34.1 && !r_41.1) && !r_48.1))] ⟨rfl, rfl, rfl, (by show Value.bool _ = Value.bool _; rw [hc_56]; rfl), trivial⟩ hk
          · refine JL_op rfl (op_read rfl rfl (r_move (v := .bool ((r_34.1 && !r_41.1) && !r_48.1)) rfl) ?_)
            refine J_forkL (e := ((r_34.1 && !r_41.1) && !r_48.1)) 3 [(11, .int .i64 r_41.2), (13, .int .i64 r_48.2), (85, .bool (((r_34.1 && !r_41.1) && !r_48.1) && decide (r_34.2 = 0)))] (fun hc_57 hk => ?_) (fun hc_57 hk => ?_) (fun b => ?_)
            · refine JL_opg rfl rfl hc_57 (op_read rfl rfl (r_move (v := .int .i64 r_34.2) rfl) ?_)
              refine JL_opg rfl rfl hc_57 (op_read rfl rfl (r_eql rfl rfl) ?_)
              refine JL_op rfl (op_read rfl rfl (r_pick_t (v := .bool (decide (r_34.2 = 0))) rfl hc_57 rfl) ?_)
              refine J_prune [(11, .int .i64 r_41.2), (13, .int .i64 r_48.2), (85, .bool (((r_34.1 && !r_41.1) && !r_48.1) && decide (r_34.2 = 0)))] ⟨rfl, rfl, (by show Value.bool _ = Value.bool _; rw [hc_57]; rfl), trivial⟩ hk
            · refine JL_skip rfl rfl hc_57 rfl rfl ?_
              refine JL_skip rfl rfl hc_57 rfl rfl ?_
              refine JL_op rfl (op_read rfl rfl (r_pick_f (v := .bool false) rfl hc_57 rfl) ?_)
              refine J_prune [(11, .int .i64 r_41.2), (13, .int .i64 r_48.2), (85, .bool (((r_34.1 && !r_41.1) && !r_48.1) && decide (r_34.2 = 0)))] ⟨rfl, rfl, (by show Value.bool _ = Value.bool _; rw [hc_57]; rfl), trivial⟩ hk
            · refine JL_op rfl (op_read rfl rfl (r_move (v := .bool (((r_34.1 && !r_41.1) && !r_48.1) && decide (r_34.2 = 0))) rfl) ?_)
              refine J_forkL (e := (((r_34.1 && !r_41.1) && !r_48.1) && decide (r_34.2 = 0))) 3 [(13, .int .i64 r_48.2), (89, .bool ((((r_34.1 && !r_41.1) && !r_48.1) && decide (r_34.2 = 0)) && decide (r_41.2 = 0)))] (fun hc_58 hk => ?_) (fun hc_58 hk => ?_) (fun b => ?_)
              · refine JL_opg rfl rfl hc_58 (op_read rfl rfl (r_move (v := .int .i64 r_41.2) rfl) ?_)
                refine JL_opg rfl rfl hc_58 (op_read rfl rfl (r_eql rfl rfl) ?_)
                refine JL_op rfl (op_read rfl rfl (r_pick_t (v := .bool (decide (r_41.2 = 0))) rfl hc_58 rfl) ?_)
                refine J_prune [(13, .int .i64 r_48.2), (89, .bool ((((r_34.1 && !r_41.1) && !r_48.1) && decide (r_34.2 = 0)) && decide (r_41.2 = 0)))] ⟨rfl, (by show Value.bool _ = Value.bool _; rw [hc_58]; rfl), trivial⟩ hk
              · refine JL_skip rfl rfl hc_58 rfl rfl ?_
                refine JL_skip rfl rfl hc_58 rfl rfl ?_
                refine JL_op rfl (op_read rfl rfl (r_pick_f (v := .bool false) rfl hc_58 rfl) ?_)
                refine J_prune [(13, .int .i64 r_48.2), (89, .bool ((((r_34.1 && !r_41.1) && !r_48.1) && decide (r_34.2 = 0)) && decide (r_41.2 = 0)))] ⟨rfl, (by show Value.bool _ = Value.bool _; rw [hc_58]; rfl), trivial⟩ hk
              · refine JL_op rfl (op_read rfl rfl (r_move (v := .bool ((((r_34.1 && !r_41.1) && !r_48.1) && decide (r_34.2 = 0)) && decide (r_41.2 = 0))) rfl) ?_)
                refine J_forkL (e := ((((r_34.1 && !r_41.1) && !r_48.1) && decide (r_34.2 = 0)) && decide (r_41.2 = 0))) 3 [(93, .bool (((((r_34.1 && !r_41.1) && !r_48.1) && decide (r_34.2 = 0)) && decide (r_41.2 = 0)) && decide (r_48.2 = 0)))] (fun hc_59 hk => ?_) (fun hc_59 hk => ?_) (fun b => ?_)
                · refine JL_opg rfl rfl hc_59 (op_read rfl rfl (r_move (v := .int .i64 r_48.2) rfl) ?_)
                  refine JL_opg rfl rfl hc_59 (op_read rfl rfl (r_eql rfl rfl) ?_)
                  refine JL_op rfl (op_read rfl rfl (r_pick_t (v := .bool (decide (r_48.2 = 0))) rfl hc_59 rfl) ?_)
                  refine J_prune [(93, .bool (((((r_34.1 && !r_41.1) && !r_48.1) && decide (r_34.2 = 0)) && decide (r_41.2 = 0)) && decide (r_48.2 = 0)))] ⟨(by show Value.bool _ = Value.bool _; rw [hc_59]; rfl), trivial⟩ hk
                · refine JL_skip rfl rfl hc_59 rfl rfl ?_
                  refine JL_skip rfl rfl hc_59 rfl rfl ?_
                  refine JL_op rfl (op_read rfl rfl (r_pick_f (v := .bool false) rfl hc_59 rfl) ?_)
                  refine J_prune [(93, .bool (((((r_34.1 && !r_41.1) && !r_48.1) && decide (r_34.2 = 0)) && decide (r_41.2 = 0)) && decide (r_48.2 = 0)))] ⟨(by show Value.bool _ = Value.bool _; rw [hc_59]; rfl), trivial⟩ hk
                · refine JL_op rfl (op_read rfl rfl (r_assign (v := .bool (((((r_34.1 && !r_41.1) && !r_48.1) && decide (r_34.2 = 0)) && decide (r_41.2 = 0)) && decide (r_48.2 = 0))) rfl) ?_)
                  refine JL_nil ?_
                  refine J_then ?_
                  refine J_ret ?_
                  refine J_select (PV' := []) [] (by decide) rfl ?_
                  exact J_return1 rfl ⟨rfl, rfl⟩
end Go.Px
