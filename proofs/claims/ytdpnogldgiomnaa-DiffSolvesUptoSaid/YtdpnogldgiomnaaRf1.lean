/- The calls do what the models say, part 1. -/
import Derived.Test.YtdpnogldgiomnaaMd
namespace Go.Px
open Go.Proofs
set_option linter.unusedVariables false
def diff_fit_1_post (r : Bool) (σ : FS) (PV : List Priv) (v : Value) : Prop :=
  v = .bool r ∧ PV = []
set_option maxRecDepth 100000 in
theorem diff_fit_1_ref (w : World) (σ : FS) (hs : σ.sub w) (v_2 : Value) (f_1 : Gdiff_Leq) (h_3 : t_Gdiff_Leq.vrel σ v_2 f_1) (c_5 : Nat)  (a_4 : Int) (hf_6 : ∀ (j : Nat) (u : Value), [.int .i64 a_4][j]? = some u → σ.cell ((⟨c_5, 0, none⟩ : Addr).add j) = some u)  (r : Bool) (hr : diff_fit_1 f_1 a_4 = some r) : Does Try.prog 22 [v_2, .pointer (some ⟨c_5, 0, none⟩)] w σ (diff_fit_1_post r) := by
  unfold diff_fit_1 at hr
  obtain rfl := t_Gdiff_Leq_v.1 h_3
  refine does_of_J Try.func22 rfl (n := 34) rfl rfl hs hr ?_
  refine J_seq ?_
  refine J_region ?_
  refine JL_op rfl (op_box (cs := [.int .i64 f_1.X, .int .i64 f_1.Y, .int .i64 f_1.C]) rfl rfl ?_)
  intro c_7
  refine JL_op rfl (op_read rfl rfl (r_assign (v := .bool false) rfl) ?_)
  refine JL_nil ?_
  refine J_then ?_
  refine J_seq ?_
  refine J_region ?_
  refine JL_op rfl (op_read rfl rfl (r_fieldAddr (r := ⟨c_7, 0, none⟩) Try.pu37 (f := Try.pf37.getD 0 default) rfl Try.pi3 (by decide) rfl rfl) ?_)
  refine JL_op rfl (op_read rfl rfl (r_load_priv (cs' := [.int .i64 f_1.X]) (v := .int .i64 f_1.X) 0 Try.pu3 Try.pi3 rfl rfl rfl rfl (by decide) rfl) ?_)
  refine JL_op rfl (op_read rfl rfl (r_lss rfl rfl) ?_)
  refine JL_op rfl (op_read rfl rfl (r_move (v := .bool (decide (f_1.X < 0))) rfl) ?_)
  refine J_forkL (e := (decide (f_1.X < 0))) 5 [(1, .pointer (some ⟨c_5, 0, none⟩)), (2, .pointer (some ⟨c_7, 0, none⟩)), (12, .bool (decide (f_1.X < 0) || decide (a_4 ≤ f_1.X)))] (fun hc_9 hk => ?_) (fun hc_9 hk => ?_) (fun b => ?_)
  · refine JL_skip rfl rfl hc_9 rfl rfl ?_
    refine JL_skip rfl rfl hc_9 rfl rfl ?_
    refine JL_skip rfl rfl hc_9 rfl rfl ?_
    refine JL_skip rfl rfl hc_9 rfl rfl ?_
    refine JL_op rfl (op_read rfl rfl (r_pick_t (v := .bool true) rfl hc_9 rfl) ?_)
    refine J_prune [(1, .pointer (some ⟨c_5, 0, none⟩)), (2, .pointer (some ⟨c_7, 0, none⟩)), (12, .bool (decide (f_1.X < 0) || decide (a_4 ≤ f_1.X)))] ⟨rfl, rfl, (by show Value.bool _ = Value.bool _; rw [hc_9]; rfl), trivial⟩ hk
  · refine JL_opg rfl rfl hc_9 (op_read rfl rfl (r_fieldAddr (r := ⟨c_7, 0, none⟩) Try.pu37 (f := Try.pf37.getD 0 default) rfl Try.pi3 (by decide) rfl rfl) ?_)
    refine JL_opg rfl rfl hc_9 (op_read rfl rfl (r_load_priv (cs' := [.int .i64 f_1.X]) (v := .int .i64 f_1.X) 0 Try.pu3 Try.pi3 rfl rfl rfl rfl (by decide) rfl) ?_)
    refine JL_opg rfl rfl hc_9 (op_read rfl rfl (r_load_fast (cs' := [.int .i64 a_4]) (v := .int .i64 a_4) Try.pu3 Try.pi3 rfl (fun j u hj => FS.le.cell (FS.le.refl _) (hf_6 j u hj)) rfl rfl (by decide) rfl) ?_)
    refine JL_opg rfl rfl hc_9 (op_read rfl rfl (r_geq rfl rfl) ?_)
    refine JL_op rfl (op_read rfl rfl (r_pick_f (v := .bool (decide (a_4 ≤ f_1.X))) rfl hc_9 rfl) ?_)
    refine J_prune [(1, .pointer (some ⟨c_5, 0, none⟩)), (2, .pointer (some ⟨c_7, 0, none⟩)), (12, .bool (decide (f_1.X < 0) || decide (a_4 ≤ f_1.X)))] ⟨rfl, rfl, (by show Value.bool _ = Value.bool _; rw [hc_9]; rfl), trivial⟩ hk
  · refine JL_op rfl (op_read rfl rfl (r_move (v := .bool (decide (f_1.X < 0) || decide (a_4 ≤ f_1.X))) rfl) ?_)
    refine J_forkL (e := (decide (f_1.X < 0) || decide (a_4 ≤ f_1.X))) 4 [(1, .pointer (some ⟨c_5, 0, none⟩)), (2, .pointer (some ⟨c_7, 0, none⟩)), (17, .bool ((decide (f_1.X < 0) || decide (a_4 ≤ f_1.X)) || decide (f_1.Y < 0)))] (fun hc_10 hk => ?_) (fun hc_10 hk => ?_) (fun b => ?_)
    · refine JL_skip rfl rfl hc_10 rfl rfl ?_
      refine JL_skip rfl rfl hc_10 rfl rfl ?_
      refine JL_skip rfl rfl hc_10 rfl rfl ?_
      refine JL_op rfl (op_read rfl rfl (r_pick_t (v := .bool true) rfl hc_10 rfl) ?_)
      refine J_prune [(1, .pointer (some ⟨c_5, 0, none⟩)), (2, .pointer (some ⟨c_7, 0, none⟩)), (17, .bool ((decide (f_1.X < 0) || decide (a_4 ≤ f_1.X)) || decide (f_1.Y < 0)))] ⟨rfl, rfl, (by show Value.bool _ = Value.bool _; rw [hc_10]; rfl), trivial⟩ hk
    · refine JL_opg rfl rfl hc_10 (op_read rfl rfl (r_fieldAddr (r := ⟨c_7, 1, none⟩) Try.pu37 (f := Try.pf37.getD 1 default) rfl Try.pi3 (by decide) rfl rfl) ?_)
      refine JL_opg rfl rfl hc_10 (op_read rfl rfl (r_load_priv (cs' := [.int .i64 f_1.Y]) (v := .int .i64 f_1.Y) 0 Try.pu3 Try.pi3 rfl rfl rfl rfl (by decide) rfl) ?_)
      refine JL_opg rfl rfl hc_10 (op_read rfl rfl (r_lss rfl rfl) ?_)
      refine JL_op rfl (op_read rfl rfl (r_pick_f (v := .bool (decide (f_1.Y < 0))) rfl hc_10 rfl) ?_)
      refine J_prune [(1, .pointer (some ⟨c_5, 0, none⟩)), (2, .pointer (some ⟨c_7, 0, none⟩)), (17, .bool ((decide (f_1.X < 0) || decide (a_4 ≤ f_1.X)) || decide (f_1.Y < 0)))] ⟨rfl, rfl, (by show Value.bool _ = Value.bool _; rw [hc_10]; rfl), trivial⟩ hk
    · refine JL_op rfl (op_read rfl rfl (r_move (v := .bool ((decide (f_1.X < 0) || decide (a_4 ≤ f_1.X)) || decide (f_1.Y < 0))) rfl) ?_)
      refine J_forkL (e := ((decide (f_1.X < 0) || decide (a_4 ≤ f_1.X)) || decide (f_1.Y < 0))) 5 [(2, .pointer (some ⟨c_7, 0, none⟩)), (23, .bool (((decide (f_1.X < 0) || decide (a_4 ≤ f_1.X)) || decide (f_1.Y < 0)) || decide (a_4 ≤ f_1.Y)))] (fun hc_11 hk => ?_) (fun hc_11 hk => ?_) (fun b => ?_)
      · refine JL_skip rfl rfl hc_11 rfl rfl ?_
        refine JL_skip rfl rfl hc_11 rfl rfl ?_
        refine JL_skip rfl rfl hc_11 rfl rfl ?_
        refine JL_skip rfl rfl hc_11 rfl rfl ?_
        refine JL_op rfl (op_read rfl rfl (r_pick_t (v := .bool true) rfl hc_11 rfl) ?_)
        refine J_prune [(2, .pointer (some ⟨c_7, 0, none⟩)), (23, .bool (((decide (f_1.X < 0) || decide (a_4 ≤ f_1.X)) || decide (f_1.Y < 0)) || decide (a_4 ≤ f_1.Y)))] ⟨rfl, (by show Value.bool _ = Value.bool _; rw [hc_11]; rfl), trivial⟩ hk
      · refine JL_opg rfl rfl hc_11 (op_read rfl rfl (r_fieldAddr (r := ⟨c_7, 1, none⟩) Try.pu37 (f := Try.pf37.getD 1 default) rfl Try.pi3 (by decide) rfl rfl) ?_)
        refine JL_opg rfl rfl hc_11 (op_read rfl rfl (r_load_priv (cs' := [.int .i64 f_1.Y]) (v := .int .i64 f_1.Y) 0 Try.pu3 Try.pi3 rfl rfl rfl rfl (by decide) rfl) ?_)
        refine JL_opg rfl rfl hc_11 (op_read rfl rfl (r_load_fast (cs' := [.int .i64 a_4]) (v := .int .i64 a_4) Try.pu3 Try.pi3 rfl (fun j u hj => FS.le.cell (FS.le.refl _) (hf_6 j u hj)) rfl rfl (by decide) rfl) ?_)
        refine JL_opg rfl rfl hc_11 (op_read rfl rfl (r_geq rfl rfl) ?_)
        refine JL_op rfl (op_read rfl rfl (r_pick_f (v := .bool (decide (a_4 ≤ f_1.Y))) rfl hc_11 rfl) ?_)
        refine J_prune [(2, .pointer (some ⟨c_7, 0, none⟩)), (23, .bool (((decide (f_1.X < 0) || decide (a_4 ≤ f_1.X)) || decide (f_1.Y < 0)) || decide (a_4 ≤ f_1.Y)))] ⟨rfl, (by show Value.bool _ = Value.bool _; rw [hc_11]; rfl), trivial⟩ hk
      · refine JL_op rfl (op_read rfl rfl (r_move (v := .bool (((decide (f_1.X < 0) || decide (a_4 ≤ f_1.X)) || decide (f_1.Y < 0)) || decide (a_4 ≤ f_1.Y))) rfl) ?_)
        refine J_forkL (e := (((decide (f_1.X < 0) || decide (a_4 ≤ f_1.X)) || decide (f_1.Y < 0)) || decide (a_4 ≤ f_1.Y))) 4 [(2, .pointer (some ⟨c_7, 0, none⟩)), (28, .bool ((((decide (f_1.X < 0) || decide (a_4 ≤ f_1.X)) || decide (f_1.Y < 0)) || decide (a_4 ≤ f_1.Y)) || decide (8796093022208 < f_1.C)))] (fun hc_12 hk => ?_) (fun hc_12 hk => ?_) (fun b => ?_)
        · refine JL_skip rfl rfl hc_12 rfl rfl ?_
          refine JL_skip rfl rfl hc_12 rfl rfl ?_
          refine JL_skip rfl rfl hc_12 rfl rfl ?_
          refine JL_op rfl (op_read rfl rfl (r_pick_t (v := .bool true) rfl hc_12 rfl) ?_)
          refine J_prune [(2, .pointer (some ⟨c_7, 0, none⟩)), (28, .bool ((((decide (f_1.X < 0) || decide (a_4 ≤ f_1.X)) || decide (f_1.Y < 0)) || decide (a_4 ≤ f_1.Y)) || decide (8796093022208 < f_1.C)))] ⟨rfl, (by show Value.bool _ = Value.bool _; rw [hc_12]; rfl), trivial⟩ hk
        · refine JL_opg rfl rfl hc_12 (op_read rfl rfl (r_fieldAddr (r := ⟨c_7, 2, none⟩) Try.pu37 (f := Try.pf37.getD 2 default) rfl Try.pi2 (by decide) rfl rfl) ?_)
          refine JL_opg rfl rfl hc_12 (op_read rfl rfl (r_load_priv (cs' := [.int .i64 f_1.C]) (v := .int .i64 f_1.C) 0 Try.pu2 Try.pi2 rfl rfl rfl rfl (by decide) rfl) ?_)
          refine JL_opg rfl rfl hc_12 (op_read rfl rfl (r_gtr rfl rfl) ?_)
          refine JL_op rfl (op_read rfl rfl (r_pick_f (v := .bool (decide (8796093022208 < f_1.C))) rfl hc_12 rfl) ?_)
          refine J_prune [(2, .pointer (some ⟨c_7, 0, none⟩)), (28, .bool ((((decide (f_1.X < 0) || decide (a_4 ≤ f_1.X)) || decide (f_1.Y < 0)) || decide (a_4 ≤ f_1.Y)) || decide (8796093022208 < f_1.C)))] ⟨rfl, (by show Value.bool _ = Value.bool _; rw [hc_12]; rfl), trivial⟩ hk
        · refine JL_op rfl (op_read rfl rfl (r_move (v := .bool ((((decide (f_1.X < 0) || decide (a_4 ≤ f_1.X)) || decide (f_1.Y < 0)) || decide (a_4 ≤ f_1.Y)) || decide (8796093022208 < f_1.C))) rfl) ?_)
          refine J_forkL (e := ((((decide (f_1.X < 0) || decide (a_4 ≤ f_1.X)) || decide (f_1.Y < 0)) || decide (a_4 ≤ f_1.Y)) || decide (8796093022208 < f_1.C))) 4 [(33, .bool (((((decide (f_1.X < 0) || decide (a_4 ≤ f_1.X)) || decide (f_1.Y < 0)) || decide (a_4 ≤ f_1.Y)) || decide (8796093022208 < f_1.C)) || decide (f_1.C < (-8796093022208))))] (fun hc_13 hk => ?_) (fun hc_13 hk => ?_) (fun b => ?_)
          · refine JL_skip rfl rfl hc_13 rfl rfl ?_
            refine JL_skip rfl rfl hc_13 rfl rfl ?_
            refine JL_skip rfl rfl hc_13 rfl rfl ?_
            refine JL_op rfl (op_read rfl rfl (r_pick_t (v := .bool true) rfl hc_13 rfl) ?_)
            refine J_prune [(33, .bool (((((decide (f_1.X < 0) || decide (a_4 ≤ f_1.X)) || decide (f_1.Y < 0)) || decide (a_4 ≤ f_1.Y)) || decide (8796093022208 < f_1.C)) || decide (f_1.C < (-8796093022208))))] ⟨(by show Value.bool _ = Value.bool _; rw [hc_13]; rfl), trivial⟩ hk
          · refine JL_opg rfl rfl hc_13 (op_read rfl rfl (r_fieldAddr (r := ⟨c_7, 2, none⟩) Try.pu37 (f := Try.pf37.getD 2 default) rfl Try.pi2 (by decide) rfl rfl) ?_)
            refine JL_opg rfl rfl hc_13 (op_read rfl rfl (r_load_priv (cs' := [.int .i64 f_1.C]) (v := .int .i64 f_1.C) 0 Try.pu2 Try.pi2 rfl rfl rfl rfl (by decide) rfl) ?_)
            refine JL_opg rfl rfl hc_13 (op_read rfl rfl (r_lss rfl rfl) ?_)
            refine JL_op rfl (op_read rfl rfl (r_pick_f (v := .bool (decide (f_1.C < (-8796093022208)))) rfl hc_13 rfl) ?_)
            refine J_prune [(33, .bool (((((decide (f_1.X < 0) || decide (a_4 ≤ f_1.X)) || decide (f_1.Y < 0)) || decide (a_4 ≤ f_1.Y)) || decide (8796093022208 < f_1.C)) || decide (f_1.C < (-8796093022208))))] ⟨(by show Value.bool _ = Value.bool _; rw [hc_13]; rfl), trivial⟩ hk
          · refine JL_op rfl (op_read rfl rfl (r_assign (v := .bool (((((decide (f_1.X < 0) || decide (a_4 ≤ f_1.X)) || decide (f_1.Y < 0)) || decide (a_4 ≤ f_1.Y)) || decide (8796093022208 < f_1.C)) || decide (f_1.C < (-8796093022208)))) rfl) ?_)
            refine JL_nil ?_
            refine J_then ?_
            refine J_ret ?_
            refine J_select (PV' := []) [] (by decide) rfl ?_
            exact J_return1 rfl ⟨rfl, rfl⟩
def slices_IndexFunc_post (r : Int) (σ : FS) (PV : List Priv) (v : Value) : Prop :=
  v = .int .i64 r ∧ PV = []
set_option maxRecDepth 100000 in
theorem slices_IndexFunc_ref (w : World) (σ : FS) (hs : σ.sub w) (v_2 : Value) (s_1 : Sl Gdiff_Leq) (h_3 : (tSl t_Gdiff_Leq).vrel σ v_2 s_1) (v_5 : Value) (f_4 : Gdiff_Leq → Option Bool) (hf_6 : Fnc_T51 Try.prog σ v_5 f_4) (r : Int) (hr : slices_IndexFunc s_1 f_4 = some r) : Does Try.prog 24 [v_2, v_5] w σ (slices_IndexFunc_post r) := by
  unfold slices_IndexFunc at hr
  have hf_62 := hf_6
  obtain ⟨fi_7, fn_8, ca_9, rfl, k_10, k_11, k_12, k_13⟩ := hf_62
  refine does_of_J Try.func24 rfl (n := 19) rfl rfl hs hr ?_
  refine J_seq ?_
  refine J_region ?_
  refine JL_op rfl (op_read rfl rfl (r_assign (v := .int .i64 0) rfl) ?_)
  refine JL_nil ?_
  refine J_then ?_
  refine J_seq ?_
  refine J_seq ?_
  refine J_region ?_
  refine JL_op rfl (op_read rfl rfl (r_move (v := v_2) rfl) ?_)
  refine JL_op rfl (op_read rfl rfl (r_len_frozen (v := v_2) Try.pu22 rfl h_3) ?_)
  refine JL_op rfl (op_read rfl rfl (r_move (v := .int .i64 0) rfl) ?_)
  refine JL_nil ?_
  refine J_then ?_
  refine J_block ?_
  refine J_loop (fun (y : Int) L τ PV => σ.le τ ∧ L = [(0, v_2), (1, (.func (.func fi_7) #[] ca_9.toArray)), (7, .int .i64 s_1.len), (8, .int .i64 y)] ∧ PV = []) (fun (y : W2 Unit Int) e L τ PV => match y, e with | .a y, e => e = .exit 0 ∧ (σ.le τ ∧ L = [] ∧ PV = []) | .b y, e => e = .ret ∧ (σ.le τ ∧ L = [(4, .int .i64 y)] ∧ PV = [])) _ ?_ ⟨(FS.le.refl _), rfl, rfl⟩ ?_ ?_
  · exact ⟨rfl, rfl, rfl, rfl, trivial⟩
  · rintro x_14 _ b s_15 _ ⟨hle_16, rfl, rfl⟩
    unfold slices_IndexFunc_L1
    refine J_seq ?_
    refine J_region ?_
    refine JL_op rfl (op_read rfl rfl (r_lss rfl rfl) ?_)
    refine JL_nil ?_
    refine J_then ?_
    refine J_seq ?_
    refine J_cond rfl (fun hc_17 => ?_) (fun hc_17 => ?_)
    · refine J_skip ?_
      refine J_then ?_
      refine J_seq ?_
      refine J_block ?_
      refine J_seq ?_
      refine J_region ?_
      refine JL_op rfl (op_read rfl rfl (r_move (v := .int .i64 x_14) rfl) ?_)
      refine JL_op rfl (op_read rfl rfl (r_assign (v := .int .i64 x_14) rfl) ?_)
      refine JL_nil ?_
      refine J_then ?_
      refine J_seq ?_
      refine J_region ?_
      refine JL_op rfl (op_read rfl rfl (r_move (v := (.func (.func fi_7) #[] ca_9.toArray)) rfl) ?_)
      refine JL_op rfl (op_read rfl rfl (r_move (v := v_2) rfl) ?_)
      refine JL_op rfl (op_read rfl rfl (r_move (v := .int .i64 x_14) rfl) ?_)
      refine J_bind fun x_18 hx_19 => ?_
      refine JL_op rfl (op_read rfl rfl (r_index_frozen (v := v_2) (T := t_Gdiff_Leq) (q := x_18) Try.pu22 Try.pi37 rfl rfl rfl (Ty.vmono _ hle_16 h_3) hx_19) ?_)
      refine JL_op rfl (op_reads rfl rfl (l_elem_frozen (v := v_2) (T := t_Gdiff_Leq) (Tf := t_Gdiff_Leq) (q := x_18) (i := x_14) (off := 0) Try.pu37 Try.pi37 rfl rfl rfl (Ty.vmono _ hle_16 h_3) hx_19 (FieldAt.self _) (by decide)) ?_)
      intro v_20 h_21
      obtain rfl := t_Gdiff_Leq_v.1 h_21
      refine JL_op rfl (op_call (f := fi_7) (fn := fn_8) (args := .agg #[.int .i64 x_18.X, .int .i64 x_18.Y, .int .i64 x_18.C] :: ca_9) (post := fun r _ PV v => v = .bool r ∧ PV = []) rfl rfl rfl k_10 k_11 k_12 rfl (fun y w hy hs => k_13 _ w hle_16 hs (.agg #[.int .i64 x_18.X, .int .i64 x_18.Y, .int .i64 x_18.C]) x_18 (t_Gdiff_Leq_v.2 rfl) y hy) ?_)
      intro r_22 v_24 s_25 PV_27 hy_23 hle_26 hp_28
      obtain ⟨rfl, rfl⟩ := hp_28
      refine JL_nil ?_
      refine J_then ?_
      refine J_cond rfl (fun hc_29 => ?_) (fun hc_29 => ?_)
      · refine J_seq ?_
        refine J_region ?_
        refine JL_op rfl (op_read rfl rfl (r_move (v := .int .i64 x_14) rfl) ?_)
        refine JL_op rfl (op_read rfl rfl (r_assign (v := .int .i64 x_14) rfl) ?_)
        refine JL_nil ?_
        refine J_then ?_
        refine J_ret ?_
        refine J_in_ret ?_
        refine J_then_ret ?_
        refine J_done trivial _ ?_ ⟨rfl, (FS.le.trans hle_16 hle_26), rfl, rfl⟩
        exact ⟨rfl, trivial⟩
      · refine J_skip ?_
        refine J_in_normal ?_
        refine J_then ?_
        refine J_region ?_
        refine JL_op rfl (op_read rfl rfl (r_add rfl rfl) ?_)
        refine JL_op rfl (op_read rfl rfl (r_move (v := .int .i64 (IntKind.i64.wrap (x_14 + 1))) rfl) ?_)
        refine JL_nil ?_
        refine J_next _ ?_ ⟨(FS.le.trans hle_16 hle_26), rfl, rfl⟩
        exact ⟨rfl, rfl, rfl, rfl, trivial⟩
    · refine J_exit ?_
      refine J_then_exit ?_
      refine J_done trivial _ ?_ ⟨rfl, hle_16, rfl, rfl⟩
      exact trivial
  · rintro (y_31 | y_34) e L b τ PV ht
    · obtain ⟨rfl, ht⟩ := ht
      revert ht; revert PV; revert τ; revert b; revert L
      rintro _ b s_32 _ ⟨hle_33, rfl, rfl⟩
      refine J_in_exit ?_
      refine J_then ?_
      refine J_seq ?_
      refine J_region ?_
      refine JL_op rfl (op_read rfl rfl (r_assign (v := .int .i64 (-1)) rfl) ?_)
      refine JL_nil ?_
      refine J_then ?_
      refine J_ret ?_
      exact J_return1 rfl ⟨rfl, rfl⟩
    · obtain ⟨rfl, ht⟩ := ht
      revert ht; revert PV; revert τ; revert b; revert L
      rintro _ b s_35 _ ⟨hle_36, rfl, rfl⟩
      refine J_in_ret ?_
      refine J_then_ret ?_
      exact J_return1 rfl ⟨rfl, rfl⟩
def slices_ContainsFunc_post (r : Bool) (σ : FS) (PV : List Priv) (v : Value) : Prop :=
  v = .bool r ∧ PV = []
set_option maxRecDepth 100000 in
theorem slices_ContainsFunc_ref (w : World) (σ : FS) (hs : σ.sub w) (v_2 : Value) (s_1 : Sl Gdiff_Leq) (h_3 : (tSl t_Gdiff_Leq).vrel σ v_2 s_1) (v_5 : Value) (f_4 : Gdiff_Leq → Option Bool) (hf_6 : Fnc_T51 Try.prog σ v_5 f_4) (r : Bool) (hr : slices_ContainsFunc s_1 f_4 = some r) : Does Try.prog 23 [v_2, v_5] w σ (slices_ContainsFunc_post r) := by
  unfold slices_ContainsFunc at hr
  have hf_62 := hf_6
  obtain ⟨fi_7, fn_8, ca_9, rfl, k_10, k_11, k_12, k_13⟩ := hf_62
  refine does_of_J Try.func23 rfl (n := 9) rfl rfl hs hr ?_
  refine J_seq ?_
  refine J_region ?_
  refine JL_op rfl (op_read rfl rfl (r_assign (v := .bool false) rfl) ?_)
  refine JL_nil ?_
  refine J_then ?_
  refine J_seq ?_
  refine J_region ?_
  refine JL_op rfl (op_read rfl rfl (r_move (v := v_2) rfl) ?_)
  refine JL_op rfl (op_read rfl rfl (r_move (v := (.func (.func fi_7) #[] ca_9.toArray)) rfl) ?_)
  refine JL_op rfl (op_call (f := 24) (fn := Try.f24) (args := [v_2, (.func (.func fi_7) #[] ca_9.toArray)]) (post := slices_IndexFunc_post) rfl rfl rfl Try.func24 Try.pn24 rfl rfl (fun y w hy hs => slices_IndexFunc_ref w _ hs v_2 s_1 h_3 (.func (.func fi_7) #[] ca_9.toArray) f_4 hf_6 y hy) ?_)
  intro r_14 v_16 s_17 PV_19 hy_15 hle_18 hp_20
  obtain ⟨rfl, rfl⟩ := hp_20
  refine JL_op rfl (op_read rfl rfl (r_geq rfl rfl) ?_)
  refine JL_op rfl (op_read rfl rfl (r_assign (v := .bool (decide (0 ≤ r_14))) rfl) ?_)
  refine JL_nil ?_
  refine J_then ?_
  refine J_ret ?_
  exact J_return1 rfl ⟨rfl, rfl⟩
def diff_fit_post (r : Int) (σ : FS) (PV : List Priv) (v : Value) : Prop :=
  v = .int .i64 r ∧ PV = []
set_option maxRecDepth 100000 in
theorem diff_fit_ref (w : World) (σ : FS) (hs : σ.sub w) (n_1 : Int) (v_3 : Value) (facts_2 : Sl Gdiff_Leq) (h_4 : (tSl t_Gdiff_Leq).vrel σ v_3 facts_2) (r : Int) (hr : diff_fit n_1 facts_2 = some r) : Does Try.prog 18 [.int .i64 n_1, v_3] w σ (diff_fit_post r) := by
  unfold diff_fit at hr
  refine does_of_J Try.func18 rfl (n := 19) rfl rfl hs hr ?_
  refine J_seq ?_
  refine J_region ?_
  refine JL_op rfl (op_box (cs := [.int .i64 n_1]) rfl rfl ?_)
  intro c_5
  refine JL_op rfl (op_read rfl rfl (r_assign (v := .int .i64 0) rfl) ?_)
  refine JL_nil ?_
  refine J_then ?_
  refine J_seq ?_
  refine J_seq ?_
  refine J_region ?_
  refine JL_op rfl (op_read rfl rfl (r_move (v := v_3) rfl) ?_)
  refine JL_op rfl (op_read rfl rfl (r_len_frozen (v := v_3) Try.pu22 rfl h_4) ?_)
  refine JL_op rfl (op_read rfl rfl (r_gtr rfl rfl) ?_)
  refine JL_nil ?_
  refine J_then ?_
  refine J_cond rfl (fun hc_7 => ?_) (fun hc_7 => ?_)
  · refine J_seq ?_
    refine J_region ?_
    refine JL_op rfl (op_read rfl rfl (r_assign (v := .int .i64 22) rfl) ?_)
    refine JL_nil ?_
    refine J_then ?_
    refine J_ret ?_
    refine J_then_ret ?_
    refine J_select (PV' := []) [] (by decide) rfl ?_
    exact J_return1 rfl ⟨rfl, rfl⟩
  · refine J_skip ?_
    refine J_then ?_
    refine J_seq ?_
    refine J_seq ?_
    refine J_region ?_
    refine JL_op rfl (op_read rfl rfl (r_load_priv (cs' := [.int .i64 n_1]) (v := .int .i64 n_1) 0 Try.pu3 Try.pi3 rfl rfl rfl rfl (by decide) rfl) ?_)
    refine JL_op rfl (op_read rfl rfl (r_lss rfl rfl) ?_)
    refine JL_op rfl (op_read rfl rfl (r_move (v := .bool (decide (n_1 < 1))) rfl) ?_)
    refine J_forkL (e := (decide (n_1 < 1))) 3 [(1, v_3), (2, .pointer (some ⟨c_5, 0, none⟩)), (14, .bool (decide (n_1 < 1) || decide (96 < n_1)))] (fun hc_8 hk => ?_) (fun hc_8 hk => ?_) (fun b => ?_)
    · refine JL_skip rfl rfl hc_8 rfl rfl ?_
      refine JL_skip rfl rfl hc_8 rfl rfl ?_
      refine JL_op rfl (op_read rfl rfl (r_pick_t (v := .bool true) rfl hc_8 rfl) ?_)
      refine J_prune [(1, v_3), (2, .pointer (some ⟨c_5, 0, none⟩)), (14, .bool (decide (n_1 < 1) || decide (96 < n_1)))] ⟨rfl, rfl, (by show Value.bool _ = Value.bool _; rw [hc_8]; rfl), trivial⟩ hk
    · refine JL_opg rfl rfl hc_8 (op_read rfl rfl (r_load_priv (cs' := [.int .i64 n_1]) (v := .int .i64 n_1) 0 Try.pu3 Try.pi3 rfl rfl rfl rfl (by decide) rfl) ?_)
      refine JL_opg rfl rfl hc_8 (op_read rfl rfl (r_gtr rfl rfl) ?_)
      refine JL_op rfl (op_read rfl rfl (r_pick_f (v := .bool (decide (96 < n_1))) rfl hc_8 rfl) ?_)
      refine J_prune [(1, v_3), (2, .pointer (some ⟨c_5, 0, none⟩)), (14, .bool (decide (n_1 < 1) || decide (96 < n_1)))] ⟨rfl, rfl, (by show Value.bool _ = Value.bool _; rw [hc_8]; rfl), trivial⟩ hk
    · refine JL_nil ?_
      refine J_then ?_
      refine J_cond rfl (fun hc_9 => ?_) (fun hc_9 => ?_)
      · refine J_seq ?_
        refine J_region ?_
        refine JL_op rfl (op_read rfl rfl (r_assign (v := .int .i64 2) rfl) ?_)
        refine JL_nil ?_
        refine J_then ?_
        refine J_ret ?_
        refine J_then_ret ?_
        refine J_select (PV' := []) [] (by decide) rfl ?_
        exact J_return1 rfl ⟨rfl, rfl⟩
      · refine J_skip ?_
        refine J_then ?_
        refine J_seq ?_
        refine J_region ?_
        refine J_freeze_cell (PV' := []) 0 rfl rfl fun s_10 hle_11 hf_12 => ?_
        refine JL_op rfl (op_read rfl rfl (r_makeFunc (fs := []) (cs := [.pointer (some ⟨c_5, 0, none⟩)]) rfl rfl) ?_)
        refine JL_op rfl (op_read rfl rfl (r_assign (v := .func (.func 22) #[] #[.pointer (some ⟨c_5, 0, none⟩)]) rfl) ?_)
        refine JL_nil ?_
        refine J_then ?_
        refine J_seq ?_
        refine J_seq ?_
        refine J_region ?_
        refine JL_op rfl (op_read rfl rfl (r_move (v := v_3) rfl) ?_)
        refine JL_op rfl (op_read rfl rfl (r_move (v := .func (.func 22) #[] #[.pointer (some ⟨c_5, 0, none⟩)]) rfl) ?_)
        refine JL_op rfl (op_call (f := 23) (fn := Try.f23) (args := [v_3, .func (.func 22) #[] #[.pointer (some ⟨c_5, 0, none⟩)]]) (post := slices_ContainsFunc_post) rfl rfl rfl Try.func23 Try.pn23 rfl rfl (fun y w hy hs => slices_ContainsFunc_ref w _ hs v_3 facts_2 (Ty.vmono _ hle_11 h_4) (.func (.func 22) #[] #[.pointer (some ⟨c_5, 0, none⟩)]) (fun x0 => diff_fit_1 x0 n_1) ⟨22, Try.f22, [.pointer (some ⟨c_5, 0, none⟩)], rfl, Try.func22, Try.pn22, rfl, fun τ w hle2 hs v0 x0 h0 r hr => diff_fit_1_ref w τ hs v0 x0 h0 c_5 n_1 (fun j u hj => FS.le.cell (FS.le.trans (FS.le.refl _) hle2) (hf_12 j u hj)) r hr⟩ y hy) ?_)
        intro r_13 v_15 s_16 PV_18 hy_14 hle_17 hp_19
        obtain ⟨rfl, rfl⟩ := hp_19
        refine JL_nil ?_
        refine J_then ?_
        refine J_cond rfl (fun hc_20 => ?_) (fun hc_20 => ?_)
        · refine J_seq ?_
          refine J_region ?_
          refine JL_op rfl (op_read rfl rfl (r_assign (v := .int .i64 2) rfl) ?_)
          refine JL_nil ?_
          refine J_then ?_
          refine J_ret ?_
          refine J_then_ret ?_
          exact J_return1 rfl ⟨rfl, rfl⟩
        · refine J_skip ?_
          refine J_then ?_
          refine J_seq ?_
          refine J_region ?_
          refine JL_op rfl (op_read rfl rfl (r_assign (v := .int .i64 0) rfl) ?_)
          refine JL_nil ?_
          refine J_then ?_
          refine J_ret ?_
          exact J_return1 rfl ⟨rfl, rfl⟩
def diff_solve_post (r : (Sl Int) × (Sl Int)) (σ : FS) (PV : List Priv) (v : Value) : Prop :=
  ∃ v0 v1 : Value, v = .tuple #[v0, v1] ∧ PV = [.row Int (tInt .i64) 2 v0 r.1, .row Int (tInt .i64) 3 v1 r.2]
set_option maxRecDepth 100000 in
theorem diff_solve_ref (w : World) (σ : FS) (hs : σ.sub w) (n_1 : Int) (v_3 : Value) (facts_2 : Sl Gdiff_Leq) (h_4 : (tSl t_Gdiff_Leq).vrel σ v_3 facts_2) (r : (Sl Int) × (Sl Int)) (hr : diff_solve n_1 facts_2 = some r) : Does Try.prog 19 [.int .i64 n_1, v_3] w σ (diff_solve_post r) := by
  unfold diff_solve at hr
  refine does_of_J Try.func19 rfl (n := 96) rfl rfl hs hr ?_
  refine J_seq ?_
  refine J_region ?_
  refine JL_op rfl (op_read rfl rfl (r_assign (v := .slice none 0 0) rfl) ?_)
  refine JL_op rfl (op_read rfl rfl (r_assign (v := .slice none 0 0) rfl) ?_)
  refine JL_nil ?_
  refine J_then ?_
  refine J_seq ?_
  refine J_region ?_
  refine JL_op rfl (op_read rfl rfl (r_move (v := .int .i64 n_1) rfl) ?_)
  refine JL_op rfl (op_make (T := (tInt .i64)) (q := 0) rfl Try.pu23 Try.pi2 rfl rfl rfl rfl rfl (fun σ => rfl) ?_)
  intro s_5 v_7 hm_6
  refine JL_op rfl (op_read rfl rfl (r_assign (v := v_7) rfl) ?_)
  refine JL_nil ?_
  refine J_then ?_
  refine J_seq ?_
  refine J_region ?_
  refine JL_op rfl (op_read rfl rfl (r_move (v := .int .i64 n_1) rfl) ?_)
  refine JL_op rfl (op_make (T := (tInt .i64)) (q := 0) rfl Try.pu24 Try.pi3 rfl rfl rfl rfl rfl (fun σ => rfl) ?_)
  intro s_9 v_11 hm_10
  refine JL_op rfl (op_read rfl rfl (r_assign (v := v_11) rfl) ?_)
  refine JL_nil ?_
  refine J_then ?_
  refine J_seq ?_
  refine J_region ?_
  refine JL_op rfl (op_read rfl rfl (r_assign (v := .int .i64 (-1)) rfl) ?_)
  refine JL_nil ?_
  refine J_then ?_
  refine J_seq ?_
  refine J_seq ?_
  refine J_region ?_
  refine JL_op rfl (op_read rfl rfl (r_move (v := .int .i64 n_1) rfl) ?_)
  refine JL_op rfl (op_read rfl rfl (r_move (v := .int .i64 0) rfl) ?_)
  refine JL_nil ?_
  refine J_then ?_
  refine J_block ?_
  refine J_loop (fun (y : (Sl Int) × (Sl Int) × Int × Int) L τ PV => ∃ (w0 : Value) (w1 : Value), σ.le τ ∧ L = [(0, .int .i64 n_1), (1, v_3), (6, w1), (7, w0), (8, .int .i64 y.2.2.1), (20, .int .i64 n_1), (21, .int .i64 y.2.2.2)] ∧ PV = [.row Int (tInt .i64) 3 w0 y.1, .row Int (tInt .i64) 2 w1 y.2.1]) (fun (y : W2 ((Sl Int) × Int) ((Sl Int))) e L τ PV => match y, e with | .a y, e => e = .exit 0 ∧ (∃ (w0 : Value), σ.le τ ∧ L = [(0, .int .i64 n_1), (1, v_3), (7, w0), (8, .int .i64 y.2)] ∧ PV = [.row Int (tInt .i64) 3 w0 y.1]) | .b y, e => e = .ret ∧ (∃ (w0 : Value), σ.le τ ∧ L = [(4, w0), (5, .slice none 0 0)] ∧ PV = [.row Int (tInt .i64) 2 w0 y])) _ ?_ ⟨v_11, v_7, (FS.le.refl _), rfl, rfl⟩ ?_ ?_
  · exact ⟨rfl, rfl, rfl, rfl, rfl, rfl, rfl, trivial⟩
  · rintro x_13 _ b s_14 _ ⟨v_16, v_17, hle_15, rfl, rfl⟩
    unfold diff_solve_L2
    refine J_seq ?_
    refine J_region ?_
    refine JL_op rfl (op_read rfl rfl (r_lss rfl rfl) ?_)
    refine JL_nil ?_
    refine J_then ?_
    refine J_seq ?_
    refine J_cond rfl (fun hc_18 => ?_) (fun hc_18 => ?_)
    · refine J_skip ?_
      refine J_then ?_
      refine J_seq ?_
      refine J_block ?_
      refine J_seq ?_
      refine J_region ?_
      refine JL_op rfl (op_read rfl rfl (r_assign (v := .int .i64 (-1)) rfl) ?_)
      refine JL_nil ?_
      refine J_then ?_
      refine J_seq ?_
      refine J_seq ?_
      refine J_region ?_
      refine JL_op rfl (op_read rfl rfl (r_move (v := v_3) rfl) ?_)
      refine JL_op rfl (op_read rfl rfl (r_len_frozen (v := v_3) Try.pu22 rfl (Ty.vmono _ hle_15 h_4)) ?_)
      refine JL_op rfl (op_read rfl rfl (r_move (v := .int .i64 0) rfl) ?_)
      refine JL_nil ?_
      refine J_then ?_
      refine J_block ?_
      refine J_loop (fun (y : (Sl Int) × (Sl Int) × Int × Int) L τ PV => ∃ (w0 : Value) (w1 : Value), s_14.le τ ∧ L = [(0, .int .i64 n_1), (1, v_3), (6, w1), (7, w0), (8, .int .i64 y.2.2.1), (20, .int .i64 n_1), (21, .int .i64 x_13.2.2.2), (23, v_3), (24, .int .i64 facts_2.len), (25, .int .i64 y.2.2.2)] ∧ PV = [.row Int (tInt .i64) 3 w0 y.1, .row Int (tInt .i64) 2 w1 y.2.1]) (fun (y : (Sl Int) × (Sl Int) × Int) e L τ PV => e = .exit 2 ∧ (∃ (w0 : Value) (w1 : Value), s_14.le τ ∧ L = [(0, .int .i64 n_1), (1, v_3), (6, w1), (7, w0), (8, .int .i64 y.2.2), (20, .int .i64 n_1), (21, .int .i64 x_13.2.2.2)] ∧ PV = [.row Int (tInt .i64) 3 w0 y.1, .row Int (tInt .i64) 2 w1 y.2.1])) _ ?_ ⟨v_16, v_17, (FS.le.refl _), rfl, rfl⟩ ?_ ?_
      · exact ⟨rfl, rfl, rfl, rfl, rfl, rfl, rfl, rfl, rfl, rfl, trivial⟩
      · rintro x_19 _ b s_20 _ ⟨v_22, v_23, hle_21, rfl, rfl⟩
        unfold diff_solve_L1
        refine J_seq ?_
        refine J_region ?_
        refine JL_op rfl (op_read rfl rfl (r_lss rfl rfl) ?_)
        refine JL_nil ?_
        refine J_then ?_
        refine J_seq ?_
        refine J_cond rfl (fun hc_24 => ?_) (fun hc_24 => ?_)
        · refine J_skip ?_
          refine J_then ?_
          refine J_seq ?_
          refine J_cut (fun (y : (Sl Int) × (Sl Int) × Int) e L τ PV => e = .normal ∧ (∃ (w0 : Value) (w1 : Value), s_20.le τ ∧ L = [(0, .int .i64 n_1), (1, v_3), (6, w1), (7, w0), (8, .int .i64 y.2.2), (20, .int .i64 n_1), (21, .int .i64 x_13.2.2.2), (23, v_3), (24, .int .i64 facts_2.len), (25, .int .i64 x_19.2.2.2)] ∧ PV = [.row Int (tInt .i64) 3 w0 y.1, .row Int (tInt .i64) 2 w1 y.2.1])) ?_ ?_
          · refine J_block ?_
            refine J_seq ?_
            refine J_region ?_
            refine JL_op rfl (op_read rfl rfl (r_move (v := .int .i64 x_19.2.2.2) rfl) ?_)
            refine J_bind fun x_25 hx_26 => ?_
            refine JL_op rfl (op_read rfl rfl (r_index_frozen (v := v_3) (T := t_Gdiff_Leq) (q := x_25) Try.pu22 Try.pi37 rfl rfl rfl (Ty.vmono _ (FS.le.trans hle_15 hle_21) h_4) hx_26) ?_)
            refine JL_op rfl (op_reads rfl rfl (l_elem_frozen (v := v_3) (T := t_Gdiff_Leq) (Tf := t_Gdiff_Leq) (q := x_25) (i := x_19.2.2.2) (off := 0) Try.pu37 Try.pi37 rfl rfl rfl (Ty.vmono _ (FS.le.trans hle_15 hle_21) h_4) hx_26 (FieldAt.self _) (by decide)) ?_)
            intro v_27 h_28
            obtain rfl := t_Gdiff_Leq_v.1 h_28
            refine JL_op rfl (op_alloc (cs := [.int .i64 0, .int .i64 0, .int .i64 0]) rfl Try.pi37 rfl rfl ?_)
            intro c_29
            refine JL_op rfl (op_read rfl rfl (r_assign (v := .int .i64 x_19.2.2.2) rfl) ?_)
            refine JL_op rfl (op_store_priv (vs := [.int .i64 x_25.X, .int .i64 x_25.Y, .int .i64 x_25.C]) (cs' := [.int .i64 x_25.X, .int .i64 x_25.Y, .int .i64 x_25.C]) (PV' := [.cell c_29 [.int .i64 x_25.X, .int .i64 x_25.Y, .int .i64 x_25.C] 37, .row Int (tInt .i64) 3 v_22 x_19.1, .row Int (tInt .i64) 2 v_23 x_19.2.1]) 0 Try.pi37 rfl rfl rfl ⟨rfl, rfl, rfl, trivial⟩ rfl rfl rfl rfl ?_)
            refine JL_nil ?_
            refine J_then ?_
            refine J_seq ?_
            refine J_region_any [.cell c_29 [.int .i64 x_25.X, .int .i64 x_25.Y, .int .i64 x_25.C] 37, .row Int (tInt .i64) 3 v_22 x_19.1, .row Int (tInt .i64) 2 v_23 x_19.2.1] Try.mixed (by kernel_rfl) fun hns => ?_
            have hS_31 : HeldOK s_20 [.cell c_29 [.int .i64 x_25.X, .int .i64 x_25.Y, .int .i64 x_25.C] 37, .row Int (tInt .i64) 3 v_22 x_19.1, .row Int (tInt .i64) 2 v_23 x_19.2.1] s_20 [.cell c_29 [.int .i64 x_25.X, .int .i64 x_25.Y, .int .i64 x_25.C] 37, .row Int (tInt .i64) 3 v_22 x_19.1, .row Int (tInt .i64) 2 v_23 x_19.2.1] := HeldOK.same ⟨⟨0, rfl⟩, ⟨1, rfl⟩, ⟨2, rfl⟩, trivial⟩
            refine JA_take 0 rfl hns (by kernel_rfl) (by kernel_rfl) hS_31 rfl rfl rfl (r_move (v := v_23) rfl) ?_
            refine JA_take 1 rfl hns (by kernel_rfl) (by kernel_rfl) hS_31 rfl rfl rfl (r_fieldAddr (r := ⟨c_29, 1, none⟩) Try.pu37 (f := Try.pf37.getD 1 default) rfl Try.pi3 (by decide) rfl rfl) ?_
            refine JA_take 2 rfl hns (by kernel_rfl) (by kernel_rfl) hS_31 rfl rfl rfl (r_load_priv (cs' := [.int .i64 x_25.Y]) (v := .int .i64 x_25.Y) 0 Try.pu3 Try.pi3 rfl rfl rfl rfl (by decide) rfl) ?_
            refine J_bind fun x_32 hx_33 => ?_
            refine JA_take 3 rfl hns (by kernel_rfl) (by kernel_rfl) hS_31 rfl rfl rfl (r_index_row (v := v_23) (T := (tInt .i64)) (q := x_32) 2 Try.pu23 Try.pi2 rfl rfl rfl rfl hx_33) ?_
            refine JA_takes 4 rfl hns (by kernel_rfl) (by kernel_rfl) hS_31 rfl rfl rfl (l_elem_row (v := v_23) (T := (tInt .i64)) (Tf := (tInt .i64)) (q := x_32) (i := x_25.Y) (off := 0) 2 Try.pu2 Try.pi2 rfl rfl rfl rfl hx_33 (FieldAt.self _) (by decide)) ?_
            intro v_34 h_35
            obtain rfl := tInt_v.1 h_35
            refine JA_take 5 rfl hns (by kernel_rfl) (by kernel_rfl) hS_31 rfl rfl rfl (r_fieldAddr (r := ⟨c_29, 2, none⟩) Try.pu37 (f := Try.pf37.getD 2 default) rfl Try.pi2 (by decide) rfl rfl) ?_
            refine JA_take 6 rfl hns (by kernel_rfl) (by kernel_rfl) hS_31 rfl rfl rfl (r_load_priv (cs' := [.int .i64 x_25.C]) (v := .int .i64 x_25.C) 0 Try.pu2 Try.pi2 rfl rfl rfl rfl (by decide) rfl) ?_
            refine JA_take 7 rfl hns (by kernel_rfl) (by kernel_rfl) hS_31 rfl rfl rfl (r_add rfl rfl) ?_
            refine JA_take 8 rfl hns (by kernel_rfl) (by kernel_rfl) hS_31 rfl rfl rfl (r_assign (v := .int .i64 (IntKind.i64.wrap (x_32 + x_25.C))) rfl) ?_
            refine JA_done (by kernel_rfl) ?_
            refine J_then ?_
            refine J_seq ?_
            refine J_region ?_
            refine JL_op rfl (op_read rfl rfl (r_move (v := .int .i64 (IntKind.i64.wrap (x_32 + x_25.C))) rfl) ?_)
            refine JL_op rfl (op_read rfl rfl (r_move (v := v_23) rfl) ?_)
            refine JL_op rfl (op_read rfl rfl (r_fieldAddr (r := ⟨c_29, 0, none⟩) Try.pu37 (f := Try.pf37.getD 0 default) rfl Try.pi3 (by decide) rfl rfl) ?_)
            refine JL_op rfl (op_read rfl rfl (r_load_priv (cs' := [.int .i64 x_25.X]) (v := .int .i64 x_25.X) 0 Try.pu3 Try.pi3 rfl rfl rfl rfl (by decide) rfl) ?_)
            refine J_bind fun x_36 hx_37 => ?_
            refine JL_op rfl (op_read rfl rfl (r_index_row (v := v_23) (T := (tInt .i64)) (q := x_36) 2 Try.pu23 Try.pi2 rfl rfl rfl rfl hx_37) ?_)
            refine JL_op rfl (op_reads rfl rfl (l_elem_row (v := v_23) (T := (tInt .i64)) (Tf := (tInt .i64)) (q := x_36) (i := x_25.X) (off := 0) 2 Try.pu2 Try.pi2 rfl rfl rfl rfl hx_37 (FieldAt.self _) (by decide)) ?_)
            intro v_38 h_39
            obtain rfl := tInt_v.1 h_39
            refine JL_op rfl (op_read rfl rfl (r_lss rfl rfl) ?_)
            refine JL_nil ?_
            refine J_then ?_
            refine J_cut (fun (y : (Sl Int) × (Sl Int) × Int) e L τ PV => e = .normal ∧ (∃ (w0 : Value) (w1 : Value), s_20.le τ ∧ L = [(0, .int .i64 n_1), (1, v_3), (6, w1), (7, w0), (8, .int .i64 y.2.2), (20, .int .i64 n_1), (21, .int .i64 x_13.2.2.2), (23, v_3), (24, .int .i64 facts_2.len), (25, .int .i64 x_19.2.2.2)] ∧ PV = [.row Int (tInt .i64) 3 w0 y.1, .row Int (tInt .i64) 2 w1 y.2.1])) ?_ ?_
            · refine J_cond rfl (fun hc_40 => ?_) (fun hc_40 => ?_)
              · refine J_region_any [.cell c_29 [.int .i64 x_25.X, .int .i64 x_25.Y, .int .i64 x_25.C] 37] Try.mixed (by kernel_rfl) fun hns => ?_
                have hS_41 : HeldOK s_20 [.cell c_29 [.int .i64 x_25.X, .int .i64 x_25.Y, .int .i64 x_25.C] 37] s_20 [.cell c_29 [.int .i64 x_25.X, .int .i64 x_25.Y, .int .i64 x_25.C] 37, .row Int (tInt .i64) 3 v_22 x_19.1, .row Int (tInt .i64) 2 v_23 x_19.2.1] := HeldOK.same ⟨⟨0, rfl⟩, trivial⟩
                refine JA_take 0 rfl hns (by kernel_rfl) (by kernel_rfl) hS_41 rfl rfl rfl (r_move (v := v_23) rfl) ?_
                refine JA_take 1 rfl hns (by kernel_rfl) (by kernel_rfl) hS_41 rfl rfl rfl (r_fieldAddr (r := ⟨c_29, 0, none⟩) Try.pu37 (f := Try.pf37.getD 0 default) rfl Try.pi3 (by decide) rfl rfl) ?_
                refine JA_take 2 rfl hns (by kernel_rfl) (by kernel_rfl) hS_41 rfl rfl rfl (r_load_priv (cs' := [.int .i64 x_25.X]) (v := .int .i64 x_25.X) 0 Try.pu3 Try.pi3 rfl rfl rfl rfl (by decide) rfl) ?_
                refine JA_take 3 rfl hns (by kernel_rfl) (by kernel_rfl) hS_41 rfl rfl rfl (r_move (v := v_22) rfl) ?_
                refine JA_take 4 rfl hns (by kernel_rfl) (by kernel_rfl) hS_41 rfl rfl rfl (r_fieldAddr (r := ⟨c_29, 0, none⟩) Try.pu37 (f := Try.pf37.getD 0 default) rfl Try.pi3 (by decide) rfl rfl) ?_
                refine JA_take 5 rfl hns (by kernel_rfl) (by kernel_rfl) hS_41 rfl rfl rfl (r_load_priv (cs' := [.int .i64 x_25.X]) (v := .int .i64 x_25.X) 0 Try.pu3 Try.pi3 rfl rfl rfl rfl (by decide) rfl) ?_
                refine JA_take 6 rfl hns (by kernel_rfl) (by kernel_rfl) hS_41 rfl rfl rfl (r_move (v := .int .i64 (IntKind.i64.wrap (x_32 + x_25.C))) rfl) ?_
                refine JA_take 7 rfl hns (by kernel_rfl) (by kernel_rfl) hS_41 rfl rfl rfl (r_move (v := .int .i64 x_19.2.2.2) rfl) ?_
                refine JA_take 8 rfl hns (by kernel_rfl) (by kernel_rfl) hS_41 rfl rfl rfl (r_move (v := .int .i64 x_19.2.2.2) rfl) ?_
                refine J_bind fun x_42 hx_43 => ?_
                refine JA_op (i := 9) (by kernel_rfl) rfl rfl (op_read rfl rfl (r_index_row (v := v_23) (T := (tInt .i64)) (q := x_42) 2 Try.pu23 Try.pi2 rfl rfl rfl rfl hx_43) ?_)
                have hS_44 : HeldOK s_20 [.cell c_29 [.int .i64 x_25.X, .int .i64 x_25.Y, .int .i64 x_25.C] 37] s_20 [.cell c_29 [.int .i64 x_25.X, .int .i64 x_25.Y, .int .i64 x_25.C] 37, .row Int (tInt .i64) 3 v_22 x_19.1, .row Int (tInt .i64) 2 v_23 x_19.2.1] := HeldOK.same ⟨⟨0, rfl⟩, trivial⟩
                refine ⟨hS_44, ?_⟩
                refine JA_op (i := 10) (by kernel_rfl) rfl rfl (op_store_row (v := v_23) (u := .int .i64 (IntKind.i64.wrap (x_32 + x_25.C))) (T := (tInt .i64)) (q := (IntKind.i64.wrap (x_32 + x_25.C))) (i := x_25.X) 2 Try.pi2 rfl rfl rfl (tInt_v.2 rfl) rfl ?_)
                intro s_45 hs_46
                have hS_47 : HeldOK s_20 [.cell c_29 [.int .i64 x_25.X, .int .i64 x_25.Y, .int .i64 x_25.C] 37] s_20 [.cell c_29 [.int .i64 x_25.X, .int .i64 x_25.Y, .int .i64 x_25.C] 37, .row Int (tInt .i64) 3 v_22 x_19.1, .row Int (tInt .i64) 2 v_23 s_45] := HeldOK.same ⟨⟨0, rfl⟩, trivial⟩
                refine ⟨hS_47, ?_⟩
                refine J_bind fun x_48 hx_49 => ?_
                refine JA_op (i := 11) (by kernel_rfl) rfl rfl (op_read rfl rfl (r_index_row (v := v_22) (T := (tInt .i64)) (q := x_48) 1 Try.pu24 Try.pi3 rfl rfl rfl rfl hx_49) ?_)
                have hS_50 : HeldOK s_20 [.cell c_29 [.int .i64 x_25.X, .int .i64 x_25.Y, .int .i64 x_25.C] 37] s_20 [.cell c_29 [.int .i64 x_25.X, .int .i64 x_25.Y, .int .i64 x_25.C] 37, .row Int (tInt .i64) 3 v_22 x_19.1, .row Int (tInt .i64) 2 v_23 s_45] := HeldOK.same ⟨⟨0, rfl⟩, trivial⟩
                refine ⟨hS_50, ?_⟩
                refine JA_op (i := 12) (by kernel_rfl) rfl rfl (op_store_row (v := v_22) (u := .int .i64 x_19.2.2.2) (T := (tInt .i64)) (q := x_19.2.2.2) (i := x_25.X) 1 Try.pi3 rfl rfl rfl (tInt_v.2 rfl) rfl ?_)
                intro s_51 hs_52
                have hS_53 : HeldOK s_20 [.cell c_29 [.int .i64 x_25.X, .int .i64 x_25.Y, .int .i64 x_25.C] 37] s_20 [.cell c_29 [.int .i64 x_25.X, .int .i64 x_25.Y, .int .i64 x_25.C] 37, .row Int (tInt .i64) 3 v_22 s_51, .row Int (tInt .i64) 2 v_23 s_45] := HeldOK.same ⟨⟨0, rfl⟩, trivial⟩
                refine ⟨hS_53, ?_⟩
                refine JA_take 13 rfl hns (by kernel_rfl) (by kernel_rfl) hS_53 rfl rfl rfl (r_assign (v := .int .i64 x_19.2.2.2) rfl) ?_
                refine JA_done (by kernel_rfl) ?_
                refine J_select (PV' := [.row Int (tInt .i64) 3 v_22 s_51, .row Int (tInt .i64) 2 v_23 s_45]) [1, 2] (by decide) rfl ?_
                refine J_cut_end _ ?_ ⟨rfl, v_22, v_23, (FS.le.refl _), rfl, rfl⟩ trivial
                exact ⟨rfl, rfl, rfl, rfl, rfl, rfl, rfl, rfl, rfl, rfl, trivial⟩
              · refine J_skip ?_
                refine J_select (PV' := [.row Int (tInt .i64) 3 v_22 x_19.1, .row Int (tInt .i64) 2 v_23 x_19.2.1]) [1, 2] (by decide) rfl ?_
                refine J_cut_end _ ?_ ⟨rfl, v_22, v_23, (FS.le.refl _), rfl, rfl⟩ trivial
                exact ⟨rfl, rfl, rfl, rfl, rfl, rfl, rfl, rfl, rfl, rfl, trivial⟩
            · rintro y_54 _ _ b s_55 _ ⟨rfl, ⟨v_57, v_58, hle_56, rfl, rfl⟩⟩
              refine J_in_normal ?_
              refine J_cut_end _ ?_ ⟨rfl, v_57, v_58, hle_56, rfl, rfl⟩ trivial
              exact ⟨rfl, rfl, rfl, rfl, rfl, rfl, rfl, rfl, rfl, rfl, trivial⟩
          · rintro y_59 _ _ b s_60 _ ⟨rfl, ⟨v_62, v_63, hle_61, rfl, rfl⟩⟩
            refine J_then ?_
            refine J_region ?_
            refine JL_op rfl (op_read rfl rfl (r_add rfl rfl) ?_)
            refine JL_op rfl (op_read rfl rfl (r_move (v := .int .i64 (IntKind.i64.wrap (x_19.2.2.2 + 1))) rfl) ?_)
            refine JL_nil ?_
            refine J_next _ ?_ ⟨v_62, v_63, (FS.le.trans hle_21 hle_61), rfl, rfl⟩
            exact ⟨rfl, rfl, rfl, rfl, rfl, rfl, rfl, rfl, rfl, rfl, trivial⟩
        · refine J_exit ?_
          refine J_then_exit ?_
          refine J_done trivial _ ?_ ⟨rfl, v_22, v_23, hle_21, rfl, rfl⟩
          exact ⟨rfl, rfl, rfl, rfl, rfl, rfl, rfl, trivial⟩
      · rintro y_64 _ _ b s_65 _ ⟨rfl, ⟨v_67, v_68, hle_66, rfl, rfl⟩⟩
        refine J_in_exit ?_
        refine J_then ?_
        refine J_seq ?_
        refine J_region ?_
        refine JL_op rfl (op_read rfl rfl (r_move (v := .int .i64 y_64.2.2) rfl) ?_)
        refine JL_op rfl (op_read rfl rfl (r_lss rfl rfl) ?_)
        refine JL_nil ?_
        refine J_then ?_
        refine J_cond rfl (fun hc_69 => ?_) (fun hc_69 => ?_)
        · refine J_seq ?_
          refine J_region ?_
          refine JL_op rfl (op_read rfl rfl (r_move (v := v_68) rfl) ?_)
          refine JL_op rfl (op_read rfl rfl (r_assign (v := v_68) rfl) ?_)
          refine JL_op rfl (op_read rfl rfl (r_assign (v := .slice none 0 0) rfl) ?_)
          refine JL_nil ?_
          refine J_then ?_
          refine J_ret ?_
          refine J_in_ret ?_
          refine J_then_ret ?_
          refine J_select (PV' := [.row Int (tInt .i64) 2 v_68 y_64.2.1]) [1] (by decide) rfl ?_
          refine J_done trivial _ ?_ ⟨rfl, v_68, (FS.le.trans hle_15 hle_66), rfl, rfl⟩
          exact ⟨rfl, rfl, trivial⟩
        · refine J_skip ?_
          refine J_in_normal ?_
          refine J_then ?_
          refine J_region ?_
          refine JL_op rfl (op_read rfl rfl (r_add rfl rfl) ?_)
          refine JL_op rfl (op_read rfl rfl (r_move (v := .int .i64 (IntKind.i64.wrap (x_13.2.2.2 + 1))) rfl) ?_)
          refine JL_nil ?_
          refine J_next _ ?_ ⟨v_67, v_68, (FS.le.trans hle_15 hle_66), rfl, rfl⟩
          exact ⟨rfl, rfl, rfl, rfl, rfl, rfl, rfl, trivial⟩
    · refine J_exit ?_
      refine J_then_exit ?_
      refine J_select (PV' := [.row Int (tInt .i64) 3 v_16 x_13.1]) [0] (by decide) rfl ?_
      refine J_done trivial _ ?_ ⟨rfl, v_16, hle_15, rfl, rfl⟩
      exact ⟨rfl, rfl, rfl, rfl, trivial⟩
  · rintro (y_71 | y_120) e L b τ PV ht
    · obtain ⟨rfl, ht⟩ := ht
      revert ht; revert PV; revert τ; revert b; revert L
      rintro _ b s_72 _ ⟨v_74, hle_73, rfl, rfl⟩
      refine J_in_exit ?_
      refine J_then ?_
      refine J_seq ?_
      refine J_region ?_
      refine JL_op rfl (op_read rfl rfl (r_move (v := v_3) rfl) ?_)
      refine JL_op rfl (op_read rfl rfl (r_move (v := .int .i64 y_71.2) rfl) ?_)
      refine J_bind fun x_75 hx_76 => ?_
      refine JL_op rfl (op_read rfl rfl (r_index_frozen (v := v_3) (T := t_Gdiff_Leq) (q := x_75) Try.pu22 Try.pi37 rfl rfl rfl (Ty.vmono _ hle_73 h_4) hx_76) ?_)
      refine JL_op rfl (op_read rfl rfl (r_fieldAddr (r := elemAddr v_3 ((y_71.2).toNat * t_Gdiff_Leq.size + 0)) Try.pu37 (f := Try.pf37.getD 0 default) rfl Try.pi3 (by decide) rfl (elemAddr_add _ _ _)) ?_)
      refine JL_op rfl (op_reads rfl rfl (l_elem_frozen (v := v_3) (T := t_Gdiff_Leq) (Tf := (tInt .i64)) (q := x_75) (i := y_71.2) (off := 0) Try.pu3 Try.pi3 rfl rfl rfl (Ty.vmono _ hle_73 h_4) hx_76 f_Gdiff_Leq_X (by decide)) ?_)
      intro v_77 h_78
      obtain rfl := tInt_v.1 h_78
      refine JL_op rfl (op_read rfl rfl (r_assign (v := .int .i64 x_75.X) rfl) ?_)
      refine JL_nil ?_
      refine J_then ?_
      refine J_seq ?_
      refine J_seq ?_
      refine J_region ?_
      refine JL_op rfl (op_read rfl rfl (r_move (v := .int .i64 n_1) rfl) ?_)
      refine JL_op rfl (op_read rfl rfl (r_move (v := .int .i64 0) rfl) ?_)
      refine JL_nil ?_
      refine J_then ?_
      refine J_block ?_
      refine J_loop (fun (y : Int × Int) L τ PV => s_72.le τ ∧ L = [(1, v_3), (7, v_74), (12, .int .i64 y.1), (66, .int .i64 n_1), (67, .int .i64 y.2)] ∧ PV = [.row Int (tInt .i64) 3 v_74 y_71.1]) (fun (y : Int) e L τ PV => e = .exit 4 ∧ (s_72.le τ ∧ L = [(1, v_3), (7, v_74), (12, .int .i64 y)] ∧ PV = [.row Int (tInt .i64) 3 v_74 y_71.1])) _ ?_ ⟨(FS.le.refl _), rfl, rfl⟩ ?_ ?_
      · exact ⟨rfl, rfl, rfl, rfl, rfl, trivial⟩
      · rintro x_79 _ b s_80 _ ⟨hle_81, rfl, rfl⟩
        unfold diff_solve_L3
        refine J_seq ?_
        refine J_region ?_
        refine JL_op rfl (op_read rfl rfl (r_lss rfl rfl) ?_)
        refine JL_nil ?_
        refine J_then ?_
        refine J_seq ?_
        refine J_cond rfl (fun hc_82 => ?_) (fun hc_82 => ?_)
        · refine J_skip ?_
          refine J_then ?_
          refine J_seq ?_
          refine J_block ?_
          refine J_region ?_
          refine JL_op rfl (op_read rfl rfl (r_move (v := v_3) rfl) ?_)
          refine JL_op rfl (op_read rfl rfl (r_move (v := v_74) rfl) ?_)
          refine JL_op rfl (op_read rfl rfl (r_move (v := .int .i64 x_79.1) rfl) ?_)
          refine J_bind fun x_83 hx_84 => ?_
          refine JL_op rfl (op_read rfl rfl (r_index_row (v := v_74) (T := (tInt .i64)) (q := x_83) 0 Try.pu24 Try.pi3 rfl rfl rfl rfl hx_84) ?_)
          refine JL_op rfl (op_reads rfl rfl (l_elem_row (v := v_74) (T := (tInt .i64)) (Tf := (tInt .i64)) (q := x_83) (i := x_79.1) (off := 0) 0 Try.pu3 Try.pi3 rfl rfl rfl rfl hx_84 (FieldAt.self _) (by decide)) ?_)
          intro v_85 h_86
          obtain rfl := tInt_v.1 h_86
          refine J_bind fun x_87 hx_88 => ?_
          refine JL_op rfl (op_read rfl rfl (r_index_frozen (v := v_3) (T := t_Gdiff_Leq) (q := x_87) Try.pu22 Try.pi37 rfl rfl rfl (Ty.vmono _ (FS.le.trans hle_73 hle_81) h_4) hx_88) ?_)
          refine JL_op rfl (op_read rfl rfl (r_fieldAddr (r := elemAddr v_3 ((x_83).toNat * t_Gdiff_Leq.size + 1)) Try.pu37 (f := Try.pf37.getD 1 default) rfl Try.pi3 (by decide) rfl (elemAddr_add _ _ _)) ?_)
          refine JL_op rfl (op_reads rfl rfl (l_elem_frozen (v := v_3) (T := t_Gdiff_Leq) (Tf := (tInt .i64)) (q := x_87) (i := x_83) (off := 1) Try.pu3 Try.pi3 rfl rfl rfl (Ty.vmono _ (FS.le.trans hle_73 hle_81) h_4) hx_88 f_Gdiff_Leq_Y (by decide)) ?_)
          intro v_89 h_90
          obtain rfl := tInt_v.1 h_90
          refine JL_op rfl (op_read rfl rfl (r_assign (v := .int .i64 x_87.Y) rfl) ?_)
          refine JL_nil ?_
          refine J_in_normal ?_
          refine J_then ?_
          refine J_region ?_
          refine JL_op rfl (op_read rfl rfl (r_add rfl rfl) ?_)
          refine JL_op rfl (op_read rfl rfl (r_move (v := .int .i64 (IntKind.i64.wrap (x_79.2 + 1))) rfl) ?_)
          refine JL_nil ?_
          refine J_next _ ?_ ⟨hle_81, rfl, rfl⟩
          exact ⟨rfl, rfl, rfl, rfl, rfl, trivial⟩
        · refine J_exit ?_
          refine J_then_exit ?_
          refine J_done trivial _ ?_ ⟨rfl, hle_81, rfl, rfl⟩
          exact ⟨rfl, rfl, rfl, trivial⟩
      · rintro y_91 _ _ b s_92 _ ⟨rfl, ⟨hle_93, rfl, rfl⟩⟩
        refine J_in_exit ?_
        refine J_then ?_
        refine J_seq ?_
        refine J_region ?_
        refine JL_op rfl (op_read rfl rfl (r_assign (v := .slice none 0 0) rfl) ?_)
        refine JL_nil ?_
        refine J_then ?_
        refine J_seq ?_
        refine J_region ?_
        refine JL_op rfl (op_read rfl rfl (r_move (v := .int .i64 y_91) rfl) ?_)
        refine JL_op rfl (op_read rfl rfl (r_assign (v := .int .i64 y_91) rfl) ?_)
        refine JL_nil ?_
        refine J_then ?_
        refine J_block ?_
        refine J_nil_row (tInt .i64) 3 ?_
        refine J_select (PV' := [.row Int (tInt .i64) 3 v_74 y_71.1, .row Int (tInt .i64) 3 (.slice none 0 0) (⟨[], false⟩ : Sl Int)]) [1, 0] (by decide) rfl ?_
        refine J_loop (fun (y : (Sl Int) × Int) L τ PV => ∃ (w0 : Value), s_92.le τ ∧ L = [(1, v_3), (7, v_74), (12, .int .i64 y_91), (13, w0), (14, .int .i64 y.2)] ∧ PV = [.row Int (tInt .i64) 3 v_74 y_71.1, .row Int (tInt .i64) 3 w0 y.1]) (fun (y : (Sl Int)) e L τ PV => e = .ret ∧ (∃ (w0 : Value), s_92.le τ ∧ L = [(4, .slice none 0 0), (5, w0)] ∧ PV = [.row Int (tInt .i64) 3 w0 y])) _ ?_ ⟨(.slice none 0 0), (FS.le.refl _), rfl, rfl⟩ ?_ ?_
        · exact ⟨rfl, rfl, rfl, rfl, rfl, trivial⟩
        · rintro x_95 _ b s_96 _ ⟨v_98, hle_97, rfl, rfl⟩
          unfold diff_solve_L4
          refine J_block ?_
          refine J_seq ?_
          refine J_region ?_
          refine JL_op rfl (op_read rfl rfl (r_move (v := v_74) rfl) ?_)
          refine JL_op rfl (op_read rfl rfl (r_move (v := .int .i64 x_95.2) rfl) ?_)
          refine J_bind fun x_100 hx_101 => ?_
          refine JL_op rfl (op_read rfl rfl (r_index_row (v := v_74) (T := (tInt .i64)) (q := x_100) 0 Try.pu24 Try.pi3 rfl rfl rfl rfl hx_101) ?_)
          refine JL_op rfl (op_reads rfl rfl (l_elem_row (v := v_74) (T := (tInt .i64)) (Tf := (tInt .i64)) (q := x_100) (i := x_95.2) (off := 0) 0 Try.pu3 Try.pi3 rfl rfl rfl rfl hx_101 (FieldAt.self _) (by decide)) ?_)
          intro v_102 h_103
          obtain rfl := tInt_v.1 h_103
          refine JL_op rfl (op_read rfl rfl (r_assign (v := .int .i64 x_100) rfl) ?_)
          refine JL_nil ?_
          refine J_then ?_
          refine J_seq ?_
          refine J_region ?_
          refine JL_op rfl (op_read rfl rfl (r_move (v := v_98) rfl) ?_)
          refine JL_op rfl (op_read rfl rfl (r_move (v := .int .i64 x_100) rfl) ?_)
          refine JL_op rfl (op_buildSlice (T := (tInt .i64)) (vs := [.int .i64 x_100]) (xs := [x_100]) rfl Try.pu24 Try.pi3 rfl rfl rfl rfl rfl rfl ⟨(tInt_v.2 rfl), trivial⟩ ?_)
          intro v_104
          refine JL_op rfl (op_append (v := v_98) (u := v_104) (T := (tInt .i64)) (ts := [x_100]) 2 rfl Try.pu24 Try.pi3 rfl rfl rfl rfl rfl rfl rfl (source_row (s := (⟨[x_100], true⟩ : Sl Int)) 0 rfl) ?_)
          intro s_106 v_108 ha_107
          refine JL_op rfl (op_read rfl rfl (r_assign (v := v_108) rfl) ?_)
          refine JL_nil ?_
          refine J_then ?_
          refine J_seq ?_
          refine J_region ?_
          refine JL_op rfl (op_read rfl rfl (r_move (v := v_3) rfl) ?_)
          refine JL_op rfl (op_read rfl rfl (r_move (v := .int .i64 x_100) rfl) ?_)
          refine J_bind fun x_109 hx_110 => ?_
          refine JL_op rfl (op_read rfl rfl (r_index_frozen (v := v_3) (T := t_Gdiff_Leq) (q := x_109) Try.pu22 Try.pi37 rfl rfl rfl (Ty.vmono _ (FS.le.trans (FS.le.trans hle_73 hle_93) hle_97) h_4) hx_110) ?_)
          refine JL_op rfl (op_read rfl rfl (r_fieldAddr (r := elemAddr v_3 ((x_100).toNat * t_Gdiff_Leq.size + 1)) Try.pu37 (f := Try.pf37.getD 1 default) rfl Try.pi3 (by decide) rfl (elemAddr_add _ _ _)) ?_)
          refine JL_op rfl (op_reads rfl rfl (l_elem_frozen (v := v_3) (T := t_Gdiff_Leq) (Tf := (tInt .i64)) (q := x_109) (i := x_100) (off := 1) Try.pu3 Try.pi3 rfl rfl rfl (Ty.vmono _ (FS.le.trans (FS.le.trans hle_73 hle_93) hle_97) h_4) hx_110 f_Gdiff_Leq_Y (by decide)) ?_)
          intro v_111 h_112
          obtain rfl := tInt_v.1 h_112
          refine JL_op rfl (op_read rfl rfl (r_assign (v := .int .i64 x_109.Y) rfl) ?_)
          refine JL_nil ?_
          refine J_then ?_
          refine J_seq ?_
          refine J_region ?_
          refine JL_op rfl (op_read rfl rfl (r_move (v := .int .i64 x_109.Y) rfl) ?_)
          refine JL_op rfl (op_read rfl rfl (r_move (v := .int .i64 y_91) rfl) ?_)
          refine JL_op rfl (op_read rfl rfl (r_eql rfl rfl) ?_)
          refine JL_nil ?_
          refine J_then ?_
          refine J_cond rfl (fun hc_113 => ?_) (fun hc_113 => ?_)
          · refine J_seq ?_
            refine J_region ?_
            refine JL_op rfl (op_read rfl rfl (r_move (v := v_108) rfl) ?_)
            refine JL_op rfl (op_read rfl rfl (r_assign (v := .slice none 0 0) rfl) ?_)
            refine JL_op rfl (op_read rfl rfl (r_assign (v := v_108) rfl) ?_)
            refine JL_nil ?_
            refine J_then ?_
            refine J_ret ?_
            refine J_in_ret ?_
            refine J_select (PV' := [.row Int (tInt .i64) 3 v_108 s_106]) [2] (by decide) rfl ?_
            refine J_done trivial _ ?_ ⟨rfl, v_108, hle_97, rfl, rfl⟩
            exact ⟨rfl, rfl, trivial⟩
          · refine J_skip ?_
            refine J_in_normal ?_
            refine J_select (PV' := [.row Int (tInt .i64) 3 v_74 y_71.1, .row Int (tInt .i64) 3 v_108 s_106]) [1, 2] (by decide) rfl ?_
            refine J_next _ ?_ ⟨v_108, hle_97, rfl, rfl⟩
            exact ⟨rfl, rfl, rfl, rfl, rfl, trivial⟩
        · rintro y_114 _ _ b s_115 _ ⟨rfl, ⟨v_117, hle_116, rfl, rfl⟩⟩
          refine J_in_ret ?_
          refine J_nil_row (tInt .i64) 2 ?_
          exact J_return2 rfl ⟨_, _, rfl, rfl⟩
    · obtain ⟨rfl, ht⟩ := ht
      revert ht; revert PV; revert τ; revert b; revert L
      rintro _ b s_121 _ ⟨v_123, hle_122, rfl, rfl⟩
      refine J_in_ret ?_
      refine J_then_ret ?_
      refine J_nil_row (tInt .i64) 3 ?_
      refine J_select (PV' := [.row Int (tInt .i64) 2 v_123 y_120, .row Int (tInt .i64) 3 (.slice none 0 0) (⟨[], false⟩ : Sl Int)]) [1, 0] (by decide) rfl ?_
      exact J_return2 rfl ⟨_, _, rfl, rfl⟩
def diff_Solve_post (r : (Sl Int) × (Sl Int) × Int) (σ : FS) (PV : List Priv) (v : Value) : Prop :=
  ∃ v0 v1 : Value, v = .tuple #[v0, v1, .int .i64 r.2.2] ∧ PV = [.row Int (tInt .i64) 2 v0 r.1, .row Int (tInt .i64) 3 v1 r.2.1]
set_option maxRecDepth 100000 in
theorem diff_Solve_ref (w : World) (σ : FS) (hs : σ.sub w) (n_1 : Int) (v_3 : Value) (facts_2 : Sl Gdiff_Leq) (h_4 : (tSl t_Gdiff_Leq).vrel σ v_3 facts_2) (r : (Sl Int) × (Sl Int) × Int) (hr : diff_Solve n_1 facts_2 = some r) : Does Try.prog 10 [.int .i64 n_1, v_3] w σ (diff_Solve_post r) := by
  unfold diff_Solve at hr
  refine does_of_J Try.func10 rfl (n := 42) rfl rfl hs hr ?_
  refine J_seq ?_
  refine J_region ?_
  refine JL_op rfl (op_read rfl rfl (r_assign (v := .slice none 0 0) rfl) ?_)
  refine JL_op rfl (op_read rfl rfl (r_assign (v := .slice none 0 0) rfl) ?_)
  refine JL_op rfl (op_read rfl rfl (r_assign (v := .int .i64 0) rfl) ?_)
  refine JL_nil ?_
  refine J_then ?_
  refine J_seq ?_
  refine J_seq ?_
  refine J_region ?_
  refine JL_op rfl (op_read rfl rfl (r_move (v := .int .i64 n_1) rfl) ?_)
  refine JL_op rfl (op_read rfl rfl (r_move (v := v_3) rfl) ?_)
  refine JL_op rfl (op_call (f := 18) (fn := Try.f18) (args := [.int .i64 n_1, v_3]) (post := diff_fit_post) rfl rfl rfl Try.func18 Try.pn18 rfl rfl (fun y w hy hs => diff_fit_ref w _ hs n_1 v_3 facts_2 h_4 y hy) ?_)
  intro r_5 v_7 s_8 PV_10 hy_6 hle_9 hp_11
  obtain ⟨rfl, rfl⟩ := hp_11
  refine JL_op rfl (op_read rfl rfl (r_assign (v := .int .i64 r_5) rfl) ?_)
  refine JL_nil ?_
  refine J_then ?_
  refine J_seq ?_
  refine J_region ?_
  refine JL_op rfl (op_read rfl rfl (r_move (v := .int .i64 r_5) rfl) ?_)
  refine JL_op rfl (op_read rfl rfl (r_neq rfl rfl) ?_)
  refine JL_nil ?_
  refine J_then ?_
  refine J_cond rfl (fun hc_12 => ?_) (fun hc_12 => ?_)
  · refine J_seq ?_
    refine J_region ?_
    refine JL_op rfl (op_read rfl rfl (r_move (v := .int .i64 r_5) rfl) ?_)
    refine JL_op rfl (op_read rfl rfl (r_assign (v := .slice none 0 0) rfl) ?_)
    refine JL_op rfl (op_read rfl rfl (r_assign (v := .slice none 0 0) rfl) ?_)
    refine JL_op rfl (op_read rfl rfl (r_assign (v := .int .i64 r_5) rfl) ?_)
    refine JL_nil ?_
    refine J_then ?_
    refine J_ret ?_
    refine J_then_ret ?_
    refine J_nil_row (tInt .i64) 2 ?_
    refine J_nil_row (tInt .i64) 3 ?_
    refine J_select (PV' := [.row Int (tInt .i64) 2 (.slice none 0 0) (⟨[], false⟩ : Sl Int), .row Int (tInt .i64) 3 (.slice none 0 0) (⟨[], false⟩ : Sl Int)]) [1, 0] (by decide) rfl ?_
    exact J_return3 rfl ⟨_, _, rfl, rfl⟩
  · refine J_skip ?_
    refine J_then ?_
    refine J_seq ?_
    refine J_region ?_
    refine JL_op rfl (op_read rfl rfl (r_move (v := .int .i64 n_1) rfl) ?_)
    refine JL_op rfl (op_read rfl rfl (r_move (v := v_3) rfl) ?_)
    refine JL_op rfl (op_call (f := 19) (fn := Try.f19) (args := [.int .i64 n_1, v_3]) (post := diff_solve_post) rfl rfl rfl Try.func19 Try.pn19 rfl rfl (fun y w hy hs => diff_solve_ref w _ hs n_1 v_3 facts_2 (Ty.vmono _ hle_9 h_4) y hy) ?_)
    intro r_15 v_17 s_18 PV_20 hy_16 hle_19 hp_21
    obtain ⟨v_22, v_24, rfl, rfl⟩ := hp_21
    refine JL_op rfl (op_read rfl rfl (r_move (v := .tuple #[v_22, v_24]) rfl) ?_)
    refine JL_op rfl (op_read rfl rfl (r_extract (v := v_22) rfl rfl) ?_)
    refine JL_op rfl (op_read rfl rfl (r_extract (v := v_24) rfl rfl) ?_)
    refine JL_op rfl (op_read rfl rfl (r_assign (v := v_22) rfl) ?_)
    refine JL_op rfl (op_read rfl rfl (r_assign (v := v_24) rfl) ?_)
    refine JL_nil ?_
    refine J_then ?_
    refine J_seq ?_
    refine J_seq ?_
    refine J_region ?_
    refine JL_op rfl (op_read rfl rfl (r_move (v := v_24) rfl) ?_)
    refine JL_op rfl (op_read rfl rfl (r_nenil_row (v := v_24) 1 Try.pu24 rfl rfl rfl) ?_)
    refine JL_nil ?_
    refine J_then ?_
    refine J_cond rfl (fun hc_26 => ?_) (fun hc_26 => ?_)
    · refine J_seq ?_
      refine J_region ?_
      refine JL_op rfl (op_read rfl rfl (r_move (v := v_24) rfl) ?_)
      refine JL_op rfl (op_read rfl rfl (r_assign (v := .slice none 0 0) rfl) ?_)
      refine JL_op rfl (op_read rfl rfl (r_assign (v := v_24) rfl) ?_)
      refine JL_op rfl (op_read rfl rfl (r_assign (v := .int .i64 0) rfl) ?_)
      refine JL_nil ?_
      refine J_then ?_
      refine J_ret ?_
      refine J_then_ret ?_
      refine J_nil_row (tInt .i64) 2 ?_
      refine J_select (PV' := [.row Int (tInt .i64) 2 (.slice none 0 0) (⟨[], false⟩ : Sl Int), .row Int (tInt .i64) 3 v_24 r_15.2]) [0, 2] (by decide) rfl ?_
      exact J_return3 rfl ⟨_, _, rfl, rfl⟩
    · refine J_skip ?_
      refine J_then ?_
      refine J_seq ?_
      refine J_region ?_
      refine JL_op rfl (op_read rfl rfl (r_move (v := v_22) rfl) ?_)
      refine J_bind fun x_28 hx_29 => ?_
      refine JL_op rfl (op_read rfl rfl (r_index_row (v := v_22) (T := (tInt .i64)) (q := x_28) 0 Try.pu23 Try.pi2 rfl rfl rfl rfl hx_29) ?_)
      refine JL_op rfl (op_reads rfl rfl (l_elem_row (v := v_22) (T := (tInt .i64)) (Tf := (tInt .i64)) (q := x_28) (i := 0) (off := 0) 0 Try.pu2 Try.pi2 rfl rfl rfl rfl hx_29 (FieldAt.self _) (by decide)) ?_)
      intro v_30 h_31
      obtain rfl := tInt_v.1 h_31
      refine JL_op rfl (op_read rfl rfl (r_assign (v := .int .i64 x_28) rfl) ?_)
      refine JL_nil ?_
      refine J_then ?_
      refine J_seq ?_
      refine J_seq ?_
      refine J_region ?_
      refine JL_op rfl (op_read rfl rfl (r_move (v := v_22) rfl) ?_)
      refine JL_op rfl (op_read rfl rfl (r_len_row (v := v_22) 0 Try.pu23 rfl rfl) ?_)
      refine JL_op rfl (op_read rfl rfl (r_move (v := .int .i64 0) rfl) ?_)
      refine JL_nil ?_
      refine J_then ?_
      refine J_block ?_
      refine J_select (PV' := [.row Int (tInt .i64) 2 v_22 r_15.1]) [0] (by decide) rfl ?_
      refine J_loop (fun (y : (Sl Int) × Int) L τ PV => ∃ (w0 : Value), s_18.le τ ∧ L = [(4, w0), (8, .int .i64 x_28), (29, .int .i64 r_15.1.len), (30, .int .i64 y.2)] ∧ PV = [.row Int (tInt .i64) 2 w0 y.1]) (fun (y : (Sl Int)) e L τ PV => e = .exit 0 ∧ (∃ (w0 : Value), s_18.le τ ∧ L = [(4, w0)] ∧ PV = [.row Int (tInt .i64) 2 w0 y])) _ ?_ ⟨v_22, (FS.le.refl _), rfl, rfl⟩ ?_ ?_
      · exact ⟨rfl, rfl, rfl, rfl, trivial⟩
      · rintro x_32 _ b s_33 _ ⟨v_35, hle_34, rfl, rfl⟩
        unfold diff_Solve_L1
        refine J_seq ?_
        refine J_region ?_
        refine JL_op rfl (op_read rfl rfl (r_lss rfl rfl) ?_)
        refine JL_nil ?_
        refine J_then ?_
        refine J_seq ?_
        refine J_cond rfl (fun hc_36 => ?_) (fun hc_36 => ?_)
        · refine J_skip ?_
          refine J_then ?_
          refine J_seq ?_
          refine J_block ?_
          refine J_seq ?_
          refine J_region ?_
          refine JL_op rfl (op_read rfl rfl (r_move (v := .int .i64 x_32.2) rfl) ?_)
          refine JL_op rfl (op_read rfl rfl (r_assign (v := .int .i64 x_32.2) rfl) ?_)
          refine JL_nil ?_
          refine J_then ?_
          refine J_region ?_
          refine JL_op rfl (op_read rfl rfl (r_move (v := v_35) rfl) ?_)
          refine JL_op rfl (op_read rfl rfl (r_move (v := .int .i64 x_32.2) rfl) ?_)
          refine J_bind fun x_37 hx_38 => ?_
          refine JL_op rfl (op_read rfl rfl (r_index_row (v := v_35) (T := (tInt .i64)) (q := x_37) 0 Try.pu23 Try.pi2 rfl rfl rfl rfl hx_38) ?_)
          refine JL_op rfl (op_reads rfl rfl (l_elem_row (v := v_35) (T := (tInt .i64)) (Tf := (tInt .i64)) (q := x_37) (i := x_32.2) (off := 0) 0 Try.pu2 Try.pi2 rfl rfl rfl rfl hx_38 (FieldAt.self _) (by decide)) ?_)
          intro v_39 h_40
          obtain rfl := tInt_v.1 h_40
          refine JL_op rfl (op_read rfl rfl (r_move (v := .int .i64 x_28) rfl) ?_)
          refine JL_op rfl (op_read rfl rfl (r_sub rfl rfl) ?_)
          refine J_bind fun x_41 hx_42 => ?_
          refine JL_op rfl (op_read rfl rfl (r_index_row (v := v_35) (T := (tInt .i64)) (q := x_41) 0 Try.pu23 Try.pi2 rfl rfl rfl rfl hx_42) ?_)
          refine JL_op rfl (op_store_row (v := v_35) (u := .int .i64 (IntKind.i64.wrap (x_37 - x_28))) (T := (tInt .i64)) (q := (IntKind.i64.wrap (x_37 - x_28))) (i := x_32.2) 0 Try.pi2 rfl rfl rfl (tInt_v.2 rfl) rfl ?_)
          intro s_43 hs_44
          refine JL_nil ?_
          refine J_in_normal ?_
          refine J_then ?_
          refine J_region ?_
          refine JL_op rfl (op_read rfl rfl (r_add rfl rfl) ?_)
          refine JL_op rfl (op_read rfl rfl (r_move (v := .int .i64 (IntKind.i64.wrap (x_32.2 + 1))) rfl) ?_)
          refine JL_nil ?_
          refine J_next _ ?_ ⟨v_35, hle_34, rfl, rfl⟩
          exact ⟨rfl, rfl, rfl, rfl, trivial⟩
        · refine J_exit ?_
          refine J_then_exit ?_
          refine J_done trivial _ ?_ ⟨rfl, v_35, hle_34, rfl, rfl⟩
          exact ⟨rfl, trivial⟩
      · rintro y_45 _ _ b s_46 _ ⟨rfl, ⟨v_48, hle_47, rfl, rfl⟩⟩
        refine J_in_exit ?_
        refine J_then ?_
        refine J_seq ?_
        refine J_region ?_
        refine JL_op rfl (op_read rfl rfl (r_move (v := v_48) rfl) ?_)
        refine JL_op rfl (op_read rfl rfl (r_assign (v := v_48) rfl) ?_)
        refine JL_op rfl (op_read rfl rfl (r_assign (v := .slice none 0 0) rfl) ?_)
        refine JL_op rfl (op_read rfl rfl (r_assign (v := .int .i64 0) rfl) ?_)
        refine JL_nil ?_
        refine J_then ?_
        refine J_ret ?_
        refine J_nil_row (tInt .i64) 3 ?_
        refine J_select (PV' := [.row Int (tInt .i64) 2 v_48 y_45, .row Int (tInt .i64) 3 (.slice none 0 0) (⟨[], false⟩ : Sl Int)]) [1, 0] (by decide) rfl ?_
        exact J_return3 rfl ⟨_, _, rfl, rfl⟩
def lychgatelaw04_refs_post (r : Sl Glychgateref04_Leq) (σ : FS) (PV : List Priv) (v : Value) : Prop :=
  ∃ v0 : Value, v = v0 ∧ PV = [.row Glychgateref04_Leq t_Glychgateref04_Leq 41 v0 r]
set_option maxRecDepth 100000 in
theorem lychgatelaw04_refs_ref (w : World) (σ : FS) (hs : σ.sub w) (v_2 : Value) (l_1 : Sl Gdiff_Leq) (h_3 : (tSl t_Gdiff_Leq).vrel σ v_2 l_1) (r : Sl Glychgateref04_Leq) (hr : lychgatelaw04_refs l_1 = some r) : Does Try.prog 12 [v_2] w σ (lychgatelaw04_refs_post r) := by
  unfold lychgatelaw04_refs at hr
  refine does_of_J Try.func12 rfl (n := 24) rfl rfl hs hr ?_
  refine J_seq ?_
  refine J_region ?_
  refine JL_op rfl (op_read rfl rfl (r_assign (v := .slice none 0 0) rfl) ?_)
  refine JL_nil ?_
  refine J_then ?_
  refine J_seq ?_
  refine J_region ?_
  refine JL_op rfl (op_read rfl rfl (r_assign (v := .slice none 0 0) rfl) ?_)
  refine JL_nil ?_
  refine J_then ?_
  refine J_seq ?_
  refine J_seq ?_
  refine J_region ?_
  refine JL_op rfl (op_read rfl rfl (r_move (v := v_2) rfl) ?_)
  refine JL_op rfl (op_read rfl rfl (r_len_frozen (v := v_2) Try.pu22 rfl h_3) ?_)
  refine JL_op rfl (op_read rfl rfl (r_move (v := .int .i64 0) rfl) ?_)
  refine JL_nil ?_
  refine J_then ?_
  refine J_block ?_
  refine J_nil_row t_Glychgateref04_Leq 41 ?_
  refine J_loop (fun (y : (Sl Glychgateref04_Leq) × Int) L τ PV => ∃ (w0 : Value), σ.le τ ∧ L = [(3, w0), (6, v_2), (7, .int .i64 l_1.len), (8, .int .i64 y.2)] ∧ PV = [.row Glychgateref04_Leq t_Glychgateref04_Leq 41 w0 y.1]) (fun (y : (Sl Glychgateref04_Leq)) e L τ PV => e = .exit 0 ∧ (∃ (w0 : Value), σ.le τ ∧ L = [(3, w0)] ∧ PV = [.row Glychgateref04_Leq t_Glychgateref04_Leq 41 w0 y])) _ ?_ ⟨(.slice none 0 0), (FS.le.refl _), rfl, rfl⟩ ?_ ?_
  · exact ⟨rfl, rfl, rfl, rfl, trivial⟩
  · rintro x_5 _ b s_6 _ ⟨v_8, hle_7, rfl, rfl⟩
    unfold lychgatelaw04_refs_L1
    refine J_seq ?_
    refine J_region ?_
    refine JL_op rfl (op_read rfl rfl (r_lss rfl rfl) ?_)
    refine JL_nil ?_
    refine J_then ?_
    refine J_seq ?_
    refine J_cond rfl (fun hc_10 => ?_) (fun hc_10 => ?_)
    · refine J_skip ?_
      refine J_then ?_
      refine J_seq ?_
      refine J_block ?_
      refine J_seq ?_
      refine J_region ?_
      refine J_bind fun x_11 hx_12 => ?_
      refine JL_op rfl (op_read rfl rfl (r_index_frozen (v := v_2) (T := t_Gdiff_Leq) (q := x_11) Try.pu22 Try.pi37 rfl rfl rfl (Ty.vmono _ hle_7 h_3) hx_12) ?_)
      refine JL_op rfl (op_reads rfl rfl (l_elem_frozen (v := v_2) (T := t_Gdiff_Leq) (Tf := t_Gdiff_Leq) (q := x_11) (i := x_5.2) (off := 0) Try.pu37 Try.pi37 rfl rfl rfl (Ty.vmono _ hle_7 h_3) hx_12 (FieldAt.self _) (by decide)) ?_)
      intro v_13 h_14
      obtain rfl := t_Gdiff_Leq_v.1 h_14
      refine JL_op rfl (op_alloc (cs := [.int .i64 0, .int .i64 0, .int .i64 0]) rfl Try.pi37 rfl rfl ?_)
      intro c_15
      refine JL_op rfl (op_store_priv (vs := [.int .i64 x_11.X, .int .i64 x_11.Y, .int .i64 x_11.C]) (cs' := [.int .i64 x_11.X, .int .i64 x_11.Y, .int .i64 x_11.C]) (PV' := [.cell c_15 [.int .i64 x_11.X, .int .i64 x_11.Y, .int .i64 x_11.C] 37, .row Glychgateref04_Leq t_Glychgateref04_Leq 41 v_8 x_5.1]) 0 Try.pi37 rfl rfl rfl ⟨rfl, rfl, rfl, trivial⟩ rfl rfl rfl rfl ?_)
      refine JL_nil ?_
      refine J_then ?_
      refine J_region ?_
      refine JL_op rfl (op_read rfl rfl (r_move (v := v_8) rfl) ?_)
      refine JL_op rfl (op_read rfl rfl (r_fieldAddr (r := ⟨c_15, 0, none⟩) Try.pu37 (f := Try.pf37.getD 0 default) rfl Try.pi3 (by decide) rfl rfl) ?_)
      refine JL_op rfl (op_read rfl rfl (r_load_priv (cs' := [.int .i64 x_11.X]) (v := .int .i64 x_11.X) 0 Try.pu3 Try.pi3 rfl rfl rfl rfl (by decide) rfl) ?_)
      refine JL_op rfl (op_read rfl rfl (r_fieldAddr (r := ⟨c_15, 1, none⟩) Try.pu37 (f := Try.pf37.getD 1 default) rfl Try.pi3 (by decide) rfl rfl) ?_)
      refine JL_op rfl (op_read rfl rfl (r_load_priv (cs' := [.int .i64 x_11.Y]) (v := .int .i64 x_11.Y) 0 Try.pu3 Try.pi3 rfl rfl rfl rfl (by decide) rfl) ?_)
      refine JL_op rfl (op_read rfl rfl (r_fieldAddr (r := ⟨c_15, 2, none⟩) Try.pu37 (f := Try.pf37.getD 2 default) rfl Try.pi2 (by decide) rfl rfl) ?_)
      refine JL_op rfl (op_read rfl rfl (r_load_priv (cs' := [.int .i64 x_11.C]) (v := .int .i64 x_11.C) 0 Try.pu2 Try.pi2 rfl rfl rfl rfl (by decide) rfl) ?_)
      refine JL_op rfl (op_read rfl rfl (r_build (cs := [.int .i64 x_11.X, .int .i64 x_11.Y, .int .i64 x_11.C]) (vs := [(0, .int .i64 x_11.X), (1, .int .i64 x_11.Y), (2, .int .i64 x_11.C)]) (pcs := [(0, [.int .i64 x_11.X]), (1, [.int .i64 x_11.Y]), (2, [.int .i64 x_11.C])]) (pls := [(0, 1), (1, 1), (2, 1)]) Try.pu41 Try.pi41 rfl (by kernel_rfl) rfl ⟨rfl, rfl, ⟨rfl, rfl, ⟨rfl, rfl, trivial⟩⟩⟩ rfl) ?_)
      refine JL_op rfl (op_buildSlice (T := t_Glychgateref04_Leq) (vs := [.agg #[.int .i64 x_11.X, .int .i64 x_11.Y, .int .i64 x_11.C]]) (xs := [(⟨x_11.X, x_11.Y, x_11.C⟩ : Glychgateref04_Leq)]) rfl Try.pu29 Try.pi41 rfl rfl rfl rfl rfl rfl ⟨(t_Glychgateref04_Leq_v.2 rfl), trivial⟩ ?_)
      intro v_17
      refine JL_op rfl (op_append (v := v_8) (u := v_17) (T := t_Glychgateref04_Leq) (ts := [(⟨x_11.X, x_11.Y, x_11.C⟩ : Glychgateref04_Leq)]) 2 rfl Try.pu29 Try.pi41 rfl rfl rfl rfl rfl rfl rfl (source_row (s := (⟨[(⟨x_11.X, x_11.Y, x_11.C⟩ : Glychgateref04_Leq)], true⟩ : Sl Glychgateref04_Leq)) 0 rfl) ?_)
      intro s_19 v_21 ha_20
      refine JL_op rfl (op_read rfl rfl (r_assign (v := v_21) rfl) ?_)
      refine JL_nil ?_
      refine J_in_normal ?_
      refine J_then ?_
      refine J_region ?_
      refine JL_op rfl (op_read rfl rfl (r_add rfl rfl) ?_)
      refine JL_op rfl (op_read rfl rfl (r_move (v := .int .i64 (IntKind.i64.wrap (x_5.2 + 1))) rfl) ?_)
      refine JL_nil ?_
      refine J_select (PV' := [.row Glychgateref04_Leq t_Glychgateref04_Leq 41 v_21 s_19]) [2] (by decide) rfl ?_
      refine J_next _ ?_ ⟨v_21, hle_7, rfl, rfl⟩
      exact ⟨rfl, rfl, rfl, rfl, trivial⟩
    · refine J_exit ?_
      refine J_then_exit ?_
      refine J_done trivial _ ?_ ⟨rfl, v_8, hle_7, rfl, rfl⟩
      exact ⟨rfl, trivial⟩
  · rintro y_22 _ _ b s_23 _ ⟨rfl, ⟨v_25, hle_24, rfl, rfl⟩⟩
    refine J_in_exit ?_
    refine J_then ?_
    refine J_seq ?_
    refine J_region ?_
    refine JL_op rfl (op_read rfl rfl (r_move (v := v_25) rfl) ?_)
    refine JL_op rfl (op_read rfl rfl (r_assign (v := v_25) rfl) ?_)
    refine JL_nil ?_
    refine J_then ?_
    refine J_ret ?_
    exact J_return1 rfl ⟨_, rfl, rfl⟩
def lychgateref04_Fit_post (r : Int) (σ : FS) (PV : List Priv) (v : Value) : Prop :=
  v = .int .i64 r ∧ PV = []
set_option maxRecDepth 100000 in
theorem lychgateref04_Fit_ref (w : World) (σ : FS) (hs : σ.sub w) (n_1 : Int) (v_3 : Value) (facts_2 : Sl Glychgateref04_Leq) (h_4 : (tSl t_Glychgateref04_Leq).vrel σ v_3 facts_2) (r : Int) (hr : lychgateref04_Fit n_1 facts_2 = some r) : Does Try.prog 11 [.int .i64 n_1, v_3] w σ (lychgateref04_Fit_post r) := by
  unfold lychgateref04_Fit at hr
  refine does_of_J Try.func11 rfl (n := 56) rfl rfl hs hr ?_
  refine J_seq ?_
  refine J_region ?_
  refine JL_op rfl (op_read rfl rfl (r_assign (v := .int .i64 0) rfl) ?_)
  refine JL_nil ?_
  refine J_then ?_
  refine J_seq ?_
  refine J_seq ?_
  refine J_region ?_
  refine JL_op rfl (op_read rfl rfl (r_move (v := v_3) rfl) ?_)
  refine JL_op rfl (op_read rfl rfl (r_len_frozen (v := v_3) Try.pu29 rfl h_4) ?_)
  refine JL_op rfl (op_read rfl rfl (r_gtr rfl rfl) ?_)
  refine JL_nil ?_
  refine J_then ?_
  refine J_cond rfl (fun hc_5 => ?_) (fun hc_5 => ?_)
  · refine J_seq ?_
    refine J_region ?_
    refine JL_op rfl (op_read rfl rfl (r_assign (v := .int .i64 22) rfl) ?_)
    refine JL_nil ?_
    refine J_then ?_
    refine J_ret ?_
    refine J_then_ret ?_
    exact J_return1 rfl ⟨rfl, rfl⟩
  · refine J_skip ?_
    refine J_then ?_
    refine J_seq ?_
    refine J_seq ?_
    refine J_region ?_
    refine JL_op rfl (op_read rfl rfl (r_move (v := .int .i64 n_1) rfl) ?_)
    refine JL_op rfl (op_read rfl rfl (r_lss rfl rfl) ?_)
    refine JL_op rfl (op_read rfl rfl (r_move (v := .bool (decide (n_1 < 1))) rfl) ?_)
    refine J_forkL (e := (decide (n_1 < 1))) 3 [(0, .int .i64 n_1), (1, v_3), (15, .bool (decide (n_1 < 1) || decide (96 < n_1)))] (fun hc_6 hk => ?_) (fun hc_6 hk => ?_) (fun b => ?_)
    · refine JL_skip rfl rfl hc_6 rfl rfl ?_
      refine JL_skip rfl rfl hc_6 rfl rfl ?_
      refine JL_op rfl (op_read rfl rfl (r_pick_t (v := .bool true) rfl hc_6 rfl) ?_)
      refine J_prune [(0, .int .i64 n_1), (1, v_3), (15, .bool (decide (n_1 < 1) || decide (96 < n_1)))] ⟨rfl, rfl, (by show Value.bool _ = Value.bool _; rw [hc_6]; rfl), trivial⟩ hk
    · refine JL_opg rfl rfl hc_6 (op_read rfl rfl (r_move (v := .int .i64 n_1) rfl) ?_)
      refine JL_opg rfl rfl hc_6 (op_read rfl rfl (r_gtr rfl rfl) ?_)
      refine JL_op rfl (op_read rfl rfl (r_pick_f (v := .bool (decide (96 < n_1))) rfl hc_6 rfl) ?_)
      refine J_prune [(0, .int .i64 n_1), (1, v_3), (15, .bool (decide (n_1 < 1) || decide (96 < n_1)))] ⟨rfl, rfl, (by show Value.bool _ = Value.bool _; rw [hc_6]; rfl), trivial⟩ hk
    · refine JL_nil ?_
      refine J_then ?_
      refine J_cond rfl (fun hc_7 => ?_) (fun hc_7 => ?_)
      · refine J_seq ?_
        refine J_region ?_
        refine JL_op rfl (op_read rfl rfl (r_assign (v := .int .i64 2) rfl) ?_)
        refine JL_nil ?_
        refine J_then ?_
        refine J_ret ?_
        refine J_then_ret ?_
        exact J_return1 rfl ⟨rfl, rfl⟩
      · refine J_skip ?_
        refine J_then ?_
        refine J_seq ?_
        refine J_seq ?_
        refine J_region ?_
        refine JL_op rfl (op_read rfl rfl (r_assign (v := .int .i64 0) rfl) ?_)
        refine JL_nil ?_
        refine J_then ?_
        refine J_block ?_
        refine J_loop (fun (y : Int) L τ PV => σ.le τ ∧ L = [(0, .int .i64 n_1), (1, v_3), (5, .int .i64 y)] ∧ PV = []) (fun (y : W2 Unit Unit) e L τ PV => match y, e with | .a y, e => e = .exit 0 ∧ (σ.le τ ∧ L = [] ∧ PV = []) | .b y, e => e = .ret ∧ (σ.le τ ∧ L = [(4, .int .i64 2)] ∧ PV = [])) _ ?_ ⟨(FS.le.refl _), rfl, rfl⟩ ?_ ?_
        · exact ⟨rfl, rfl, rfl, trivial⟩
        · rintro x_8 _ b s_9 _ ⟨hle_10, rfl, rfl⟩
          unfold lychgateref04_Fit_L1
          refine J_seq ?_
          refine J_seq ?_
          refine J_region ?_
          refine JL_op rfl (op_read rfl rfl (r_move (v := .int .i64 x_8) rfl) ?_)
          refine JL_op rfl (op_read rfl rfl (r_move (v := v_3) rfl) ?_)
          refine JL_op rfl (op_read rfl rfl (r_len_frozen (v := v_3) Try.pu29 rfl (Ty.vmono _ hle_10 h_4)) ?_)
          refine JL_op rfl (op_read rfl rfl (r_lss rfl rfl) ?_)
          refine JL_nil ?_
          refine J_then ?_
          refine J_cond rfl (fun hc_11 => ?_) (fun hc_11 => ?_)
          · refine J_skip ?_
            refine J_then ?_
            refine J_seq ?_
            refine J_block ?_
            refine J_seq ?_
            refine J_region ?_
            refine JL_op rfl (op_read rfl rfl (r_move (v := v_3) rfl) ?_)
            refine JL_op rfl (op_read rfl rfl (r_move (v := .int .i64 x_8) rfl) ?_)
            refine J_bind fun x_12 hx_13 => ?_
            refine JL_op rfl (op_read rfl rfl (r_index_frozen (v := v_3) (T := t_Glychgateref04_Leq) (q := x_12) Try.pu29 Try.pi41 rfl rfl rfl (Ty.vmono _ hle_10 h_4) hx_13) ?_)
            refine JL_op rfl (op_reads rfl rfl (l_elem_frozen (v := v_3) (T := t_Glychgateref04_Leq) (Tf := t_Glychgateref04_Leq) (q := x_12) (i := x_8) (off := 0) Try.pu41 Try.pi41 rfl rfl rfl (Ty.vmono _ hle_10 h_4) hx_13 (FieldAt.self _) (by decide)) ?_)
            intro v_14 h_15
            obtain rfl := t_Glychgateref04_Leq_v.1 h_15
            refine JL_op rfl (op_alloc (cs := [.int .i64 0, .int .i64 0, .int .i64 0]) rfl Try.pi41 rfl rfl ?_)
            intro c_16
            refine JL_op rfl (op_store_priv (vs := [.int .i64 x_12.X, .int .i64 x_12.Y, .int .i64 x_12.C]) (cs' := [.int .i64 x_12.X, .int .i64 x_12.Y, .int .i64 x_12.C]) (PV' := [.cell c_16 [.int .i64 x_12.X, .int .i64 x_12.Y, .int .i64 x_12.C] 41]) 0 Try.pi41 rfl rfl rfl ⟨rfl, rfl, rfl, trivial⟩ rfl rfl rfl rfl ?_)
            refine JL_nil ?_
            refine J_then ?_
            refine J_seq ?_
            refine J_region ?_
            refine JL_op rfl (op_read rfl rfl (r_fieldAddr (r := ⟨c_16, 0, none⟩) Try.pu41 (f := Try.pf41.getD 0 default) rfl Try.pi3 (by decide) rfl rfl) ?_)
            refine JL_op rfl (op_read rfl rfl (r_load_priv (cs' := [.int .i64 x_12.X]) (v := .int .i64 x_12.X) 0 Try.pu3 Try.pi3 rfl rfl rfl rfl (by decide) rfl) ?_)
            refine JL_op rfl (op_read rfl rfl (r_lss rfl rfl) ?_)
            refine JL_op rfl (op_read rfl rfl (r_move (v := .bool (decide (x_12.X < 0))) rfl) ?_)
            refine J_forkL (e := (decide (x_12.X < 0))) 5 [(0, .int .i64 n_1), (1, v_3), (5, .int .i64 x_8), (6, .pointer (some ⟨c_16, 0, none⟩)), (34, .bool (decide (x_12.X < 0) || decide (n_1 ≤ x_12.X)))] (fun hc_18 hk => ?_) (fun hc_18 hk => ?_) (fun b => ?_)
            · refine JL_skip rfl rfl hc_18 rfl rfl ?_
              refine JL_skip rfl rfl hc_18 rfl rfl ?_
              refine JL_skip rfl rfl hc_18 rfl rfl ?_
              refine JL_skip rfl rfl hc_18 rfl rfl ?_
              refine JL_op rfl (op_read rfl rfl (r_pick_t (v := .bool true) rfl hc_18 rfl) ?_)
              refine J_prune [(0, .int .i64 n_1), (1, v_3), (5, .int .i64 x_8), (6, .pointer (some ⟨c_16, 0, none⟩)), (34, .bool (decide (x_12.X < 0) || decide (n_1 ≤ x_12.X)))] ⟨rfl, rfl, rfl, rfl, (by show Value.bool _ = Value.bool _; rw [hc_18]; rfl), trivial⟩ hk
            · refine JL_opg rfl rfl hc_18 (op_read rfl rfl (r_fieldAddr (r := ⟨c_16, 0, none⟩) Try.pu41 (f := Try.pf41.getD 0 default) rfl Try.pi3 (by decide) rfl rfl) ?_)
              refine JL_opg rfl rfl hc_18 (op_read rfl rfl (r_load_priv (cs' := [.int .i64 x_12.X]) (v := .int .i64 x_12.X) 0 Try.pu3 Try.pi3 rfl rfl rfl rfl (by decide) rfl) ?_)
              refine JL_opg rfl rfl hc_18 (op_read rfl rfl (r_move (v := .int .i64 n_1) rfl) ?_)
              refine JL_opg rfl rfl hc_18 (op_read rfl rfl (r_geq rfl rfl) ?_)
              refine JL_op rfl (op_read rfl rfl (r_pick_f (v := .bool (decide (n_1 ≤ x_12.X))) rfl hc_18 rfl) ?_)
              refine J_prune [(0, .int .i64 n_1), (1, v_3), (5, .int .i64 x_8), (6, .pointer (some ⟨c_16, 0, none⟩)), (34, .bool (decide (x_12.X < 0) || decide (n_1 ≤ x_12.X)))] ⟨rfl, rfl, rfl, rfl, (by show Value.bool _ = Value.bool _; rw [hc_18]; rfl), trivial⟩ hk
            · refine JL_op rfl (op_read rfl rfl (r_move (v := .bool (decide (x_12.X < 0) || decide (n_1 ≤ x_12.X))) rfl) ?_)
              refine J_forkL (e := (decide (x_12.X < 0) || decide (n_1 ≤ x_12.X))) 4 [(0, .int .i64 n_1), (1, v_3), (5, .int .i64 x_8), (6, .pointer (some ⟨c_16, 0, none⟩)), (39, .bool ((decide (x_12.X < 0) || decide (n_1 ≤ x_12.X)) || decide (x_12.Y < 0)))] (fun hc_19 hk => ?_) (fun hc_19 hk => ?_) (fun b => ?_)
              · refine JL_skip rfl rfl hc_19 rfl rfl ?_
                refine JL_skip rfl rfl hc_19 rfl rfl ?_
                refine JL_skip rfl rfl hc_19 rfl rfl ?_
                refine JL_op rfl (op_read rfl rfl (r_pick_t (v := .bool true) rfl hc_19 rfl) ?_)
                refine J_prune [(0, .int .i64 n_1), (1, v_3), (5, .int .i64 x_8), (6, .pointer (some ⟨c_16, 0, none⟩)), (39, .bool ((decide (x_12.X < 0) || decide (n_1 ≤ x_12.X)) || decide (x_12.Y < 0)))] ⟨rfl, rfl, rfl, rfl, (by show Value.bool _ = Value.bool _; rw [hc_19]; rfl), trivial⟩ hk
              · refine JL_opg rfl rfl hc_19 (op_read rfl rfl (r_fieldAddr (r := ⟨c_16, 1, none⟩) Try.pu41 (f := Try.pf41.getD 1 default) rfl Try.pi3 (by decide) rfl rfl) ?_)
                refine JL_opg rfl rfl hc_19 (op_read rfl rfl (r_load_priv (cs' := [.int .i64 x_12.Y]) (v := .int .i64 x_12.Y) 0 Try.pu3 Try.pi3 rfl rfl rfl rfl (by decide) rfl) ?_)
                refine JL_opg rfl rfl hc_19 (op_read rfl rfl (r_lss rfl rfl) ?_)
                refine JL_op rfl (op_read rfl rfl (r_pick_f (v := .bool (decide (x_12.Y < 0))) rfl hc_19 rfl) ?_)
                refine J_prune [(0, .int .i64 n_1), (1, v_3), (5, .int .i64 x_8), (6, .pointer (some ⟨c_16, 0, none⟩)), (39, .bool ((decide (x_12.X < 0) || decide (n_1 ≤ x_12.X)) || decide (x_12.Y < 0)))] ⟨rfl, rfl, rfl, rfl, (by show Value.bool _ = Value.bool _; rw [hc_19]; rfl), trivial⟩ hk
              · refine JL_op rfl (op_read rfl rfl (r_move (v := .bool ((decide (x_12.X < 0) || decide (n_1 ≤ x_12.X)) || decide (x_12.Y < 0))) rfl) ?_)
                refine J_forkL (e := ((decide (x_12.X < 0) || decide (n_1 ≤ x_12.X)) || decide (x_12.Y < 0))) 5 [(0, .int .i64 n_1), (1, v_3), (5, .int .i64 x_8), (6, .pointer (some ⟨c_16, 0, none⟩)), (45, .bool (((decide (x_12.X < 0) || decide (n_1 ≤ x_12.X)) || decide (x_12.Y < 0)) || decide (n_1 ≤ x_12.Y)))] (fun hc_20 hk => ?_) (fun hc_20 hk => ?_) (fun b => ?_)
                · refine JL_skip rfl rfl hc_20 rfl rfl ?_
                  refine JL_skip rfl rfl hc_20 rfl rfl ?_
                  refine JL_skip rfl rfl hc_20 rfl rfl ?_
                  refine JL_skip rfl rfl hc_20 rfl rfl ?_
                  refine JL_op rfl (op_read rfl rfl (r_pick_t (v := .bool true) rfl hc_20 rfl) ?_)
                  refine J_prune [(0, .int .i64 n_1), (1, v_3), (5, .int .i64 x_8), (6, .pointer (some ⟨c_16, 0, none⟩)), (45, .bool (((decide (x_12.X < 0) || decide (n_1 ≤ x_12.X)) || decide (x_12.Y < 0)) || decide (n_1 ≤ x_12.Y)))] ⟨rfl, rfl, rfl, rfl, (by show Value.bool _ = Value.bool _; rw [hc_20]; rfl), trivial⟩ hk
                · refine JL_opg rfl rfl hc_20 (op_read rfl rfl (r_fieldAddr (r := ⟨c_16, 1, none⟩) Try.pu41 (f := Try.pf41.getD 1 default) rfl Try.pi3 (by decide) rfl rfl) ?_)
                  refine JL_opg rfl rfl hc_20 (op_read rfl rfl (r_load_priv (cs' := [.int .i64 x_12.Y]) (v := .int .i64 x_12.Y) 0 Try.pu3 Try.pi3 rfl rfl rfl rfl (by decide) rfl) ?_)
                  refine JL_opg rfl rfl hc_20 (op_read rfl rfl (r_move (v := .int .i64 n_1) rfl) ?_)
                  refine JL_opg rfl rfl hc_20 (op_read rfl rfl (r_geq rfl rfl) ?_)
                  refine JL_op rfl (op_read rfl rfl (r_pick_f (v := .bool (decide (n_1 ≤ x_12.Y))) rfl hc_20 rfl) ?_)
                  refine J_prune [(0, .int .i64 n_1), (1, v_3), (5, .int .i64 x_8), (6, .pointer (some ⟨c_16, 0, none⟩)), (45, .bool (((decide (x_12.X < 0) || decide (n_1 ≤ x_12.X)) || decide (x_12.Y < 0)) || decide (n_1 ≤ x_12.Y)))] ⟨rfl, rfl, rfl, rfl, (by show Value.bool _ = Value.bool _; rw [hc_20]; rfl), trivial⟩ hk
                · refine JL_op rfl (op_read rfl rfl (r_move (v := .bool (((decide (x_12.X < 0) || decide (n_1 ≤ x_12.X)) || decide (x_12.Y < 0)) || decide (n_1 ≤ x_12.Y))) rfl) ?_)
                  refine J_forkL (e := (((decide (x_12.X < 0) || decide (n_1 ≤ x_12.X)) || decide (x_12.Y < 0)) || decide (n_1 ≤ x_12.Y))) 4 [(0, .int .i64 n_1), (1, v_3), (5, .int .i64 x_8), (6, .pointer (some ⟨c_16, 0, none⟩)), (50, .bool ((((decide (x_12.X < 0) || decide (n_1 ≤ x_12.X)) || decide (x_12.Y < 0)) || decide (n_1 ≤ x_12.Y)) || decide (8796093022208 < x_12.C)))] (fun hc_21 hk => ?_) (fun hc_21 hk => ?_) (fun b => ?_)
                  · refine JL_skip rfl rfl hc_21 rfl rfl ?_
                    refine JL_skip rfl rfl hc_21 rfl rfl ?_
                    refine JL_skip rfl rfl hc_21 rfl rfl ?_
                    refine JL_op rfl (op_read rfl rfl (r_pick_t (v := .bool true) rfl hc_21 rfl) ?_)
                    refine J_prune [(0, .int .i64 n_1), (1, v_3), (5, .int .i64 x_8), (6, .pointer (some ⟨c_16, 0, none⟩)), (50, .bool ((((decide (x_12.X < 0) || decide (n_1 ≤ x_12.X)) || decide (x_12.Y < 0)) || decide (n_1 ≤ x_12.Y)) || decide (8796093022208 < x_12.C)))] ⟨rfl, rfl, rfl, rfl, (by show Value.bool _ = Value.bool _; rw [hc_21]; rfl), trivial⟩ hk
                  · refine JL_opg rfl rfl hc_21 (op_read rfl rfl (r_fieldAddr (r := ⟨c_16, 2, none⟩) Try.pu41 (f := Try.pf41.getD 2 default) rfl Try.pi2 (by decide) rfl rfl) ?_)
                    refine JL_opg rfl rfl hc_21 (op_read rfl rfl (r_load_priv (cs' := [.int .i64 x_12.C]) (v := .int .i64 x_12.C) 0 Try.pu2 Try.pi2 rfl rfl rfl rfl (by decide) rfl) ?_)
                    refine JL_opg rfl rfl hc_21 (op_read rfl rfl (r_gtr rfl rfl) ?_)
                    refine JL_op rfl (op_read rfl rfl (r_pick_f (v := .bool (decide (8796093022208 < x_12.C))) rfl hc_21 rfl) ?_)
                    refine J_prune [(0, .int .i64 n_1), (1, v_3), (5, .int .i64 x_8), (6, .pointer (some ⟨c_16, 0, none⟩)), (50, .bool ((((decide (x_12.X < 0) || decide (n_1 ≤ x_12.X)) || decide (x_12.Y < 0)) || decide (n_1 ≤ x_12.Y)) || decide (8796093022208 < x_12.C)))] ⟨rfl, rfl, rfl, rfl, (by show Value.bool _ = Value.bool _; rw [hc_21]; rfl), trivial⟩ hk
                  · refine JL_op rfl (op_read rfl rfl (r_move (v := .bool ((((decide (x_12.X < 0) || decide (n_1 ≤ x_12.X)) || decide (x_12.Y < 0)) || decide (n_1 ≤ x_12.Y)) || decide (8796093022208 < x_12.C))) rfl) ?_)
                    refine J_forkL (e := ((((decide (x_12.X < 0) || decide (n_1 ≤ x_12.X)) || decide (x_12.Y < 0)) || decide (n_1 ≤ x_12.Y)) || decide (8796093022208 < x_12.C))) 4 [(0, .int .i64 n_1), (1, v_3), (5, .int .i64 x_8), (55, .bool (((((decide (x_12.X < 0) || decide (n_1 ≤ x_12.X)) || decide (x_12.Y < 0)) || decide (n_1 ≤ x_12.Y)) || decide (8796093022208 < x_12.C)) || decide (x_12.C < (-8796093022208))))] (fun hc_22 hk => ?_) (fun hc_22 hk => ?_) (fun b => ?_)
                    · refine JL_skip rfl rfl hc_22 rfl rfl ?_
                      refine JL_skip rfl rfl hc_22 rfl rfl ?_
                      refine JL_skip rfl rfl hc_22 rfl rfl ?_
                      refine JL_op rfl (op_read rfl rfl (r_pick_t (v := .bool true) rfl hc_22 rfl) ?_)
                      refine J_prune [(0, .int .i64 n_1), (1, v_3), (5, .int .i64 x_8), (55, .bool (((((decide (x_12.X < 0) || decide (n_1 ≤ x_12.X)) || decide (x_12.Y < 0)) || decide (n_1 ≤ x_12.Y)) || decide (8796093022208 < x_12.C)) || decide (x_12.C < (-8796093022208))))] ⟨rfl, rfl, rfl, (by show Value.bool _ = Value.bool _; rw [hc_22]; rfl), trivial⟩ hk
                    · refine JL_opg rfl rfl hc_22 (op_read rfl rfl (r_fieldAddr (r := ⟨c_16, 2, none⟩) Try.pu41 (f := Try.pf41.getD 2 default) rfl Try.pi2 (by decide) rfl rfl) ?_)
                      refine JL_opg rfl rfl hc_22 (op_read rfl rfl (r_load_priv (cs' := [.int .i64 x_12.C]) (v := .int .i64 x_12.C) 0 Try.pu2 Try.pi2 rfl rfl rfl rfl (by decide) rfl) ?_)
                      refine JL_opg rfl rfl hc_22 (op_read rfl rfl (r_lss rfl rfl) ?_)
                      refine JL_op rfl (op_read rfl rfl (r_pick_f (v := .bool (decide (x_12.C < (-8796093022208)))) rfl hc_22 rfl) ?_)
                      refine J_prune [(0, .int .i64 n_1), (1, v_3), (5, .int .i64 x_8), (55, .bool (((((decide (x_12.X < 0) || decide (n_1 ≤ x_12.X)) || decide (x_12.Y < 0)) || decide (n_1 ≤ x_12.Y)) || decide (8796093022208 < x_12.C)) || decide (x_12.C < (-8796093022208))))] ⟨rfl, rfl, rfl, (by show Value.bool _ = Value.bool _; rw [hc_22]; rfl), trivial⟩ hk
                    · refine JL_nil ?_
                      refine J_then ?_
                      refine J_cond rfl (fun hc_23 => ?_) (fun hc_23 => ?_)
                      · refine J_seq ?_
                        refine J_region ?_
                        refine JL_op rfl (op_read rfl rfl (r_assign (v := .int .i64 2) rfl) ?_)
                        refine JL_nil ?_
                        refine J_then ?_
                        refine J_ret ?_
                        refine J_in_ret ?_
                        refine J_then_ret ?_
                        refine J_select (PV' := []) [] (by decide) rfl ?_
                        refine J_done trivial _ ?_ ⟨rfl, hle_10, rfl, rfl⟩
                        exact ⟨rfl, trivial⟩
                      · refine J_skip ?_
                        refine J_in_normal ?_
                        refine J_then ?_
                        refine J_region ?_
                        refine JL_op rfl (op_read rfl rfl (r_move (v := .int .i64 x_8) rfl) ?_)
                        refine JL_op rfl (op_read rfl rfl (r_add rfl rfl) ?_)
                        refine JL_op rfl (op_read rfl rfl (r_assign (v := .int .i64 (IntKind.i64.wrap (x_8 + 1))) rfl) ?_)
                        refine JL_nil ?_
                        refine J_select (PV' := []) [] (by decide) rfl ?_
                        refine J_next _ ?_ ⟨hle_10, rfl, rfl⟩
                        exact ⟨rfl, rfl, rfl, trivial⟩
          · refine J_exit ?_
            refine J_then_exit ?_
            refine J_done trivial _ ?_ ⟨rfl, hle_10, rfl, rfl⟩
            exact trivial
        · rintro (y_25 | y_28) e L b τ PV ht
          · obtain ⟨rfl, ht⟩ := ht
            revert ht; revert PV; revert τ; revert b; revert L
            rintro _ b s_26 _ ⟨hle_27, rfl, rfl⟩
            refine J_in_exit ?_
            refine J_then ?_
            refine J_seq ?_
            refine J_region ?_
            refine JL_op rfl (op_read rfl rfl (r_assign (v := .int .i64 0) rfl) ?_)
            refine JL_nil ?_
            refine J_then ?_
            refine J_ret ?_
            exact J_return1 rfl ⟨rfl, rfl⟩
          · obtain ⟨rfl, ht⟩ := ht
            revert ht; revert PV; revert τ; revert b; revert L
            rintro _ b s_29 _ ⟨hle_30, rfl, rfl⟩
            refine J_in_ret ?_
            refine J_then_ret ?_
            exact J_return1 rfl ⟨rfl, rfl⟩
def slices_Clone_post (r : Sl Gdiff_Leq) (σ : FS) (PV : List Priv) (v : Value) : Prop :=
  ∃ v0 : Value, v = v0 ∧ PV = [.row Gdiff_Leq t_Gdiff_Leq 37 v0 r]
set_option maxRecDepth 100000 in
theorem slices_Clone_ref (w : World) (σ : FS) (hs : σ.sub w) (v_2 : Value) (s_1 : Sl Gdiff_Leq) (h_3 : (tSl t_Gdiff_Leq).vrel σ v_2 s_1) (r : Sl Gdiff_Leq) (hr : slices_Clone s_1 = some r) : Does Try.prog 21 [v_2] w σ (slices_Clone_post r) := by
  unfold slices_Clone at hr
  refine does_of_J Try.func21 rfl (n := 8) rfl rfl hs hr ?_
  refine J_seq ?_
  refine J_region ?_
  refine JL_op rfl (op_read rfl rfl (r_assign (v := .slice none 0 0) rfl) ?_)
  refine JL_nil ?_
  refine J_then ?_
  refine J_seq ?_
  refine J_seq ?_
  refine J_region ?_
  refine JL_op rfl (op_read rfl rfl (r_move (v := v_2) rfl) ?_)
  refine JL_op rfl (op_read rfl rfl (r_eqnil_frozen (v := v_2) Try.pu22 rfl rfl h_3) ?_)
  refine JL_nil ?_
  refine J_then ?_
  refine J_cond rfl (fun hc_4 => ?_) (fun hc_4 => ?_)
  · refine J_seq ?_
    refine J_region ?_
    refine JL_op rfl (op_read rfl rfl (r_assign (v := .slice none 0 0) rfl) ?_)
    refine JL_nil ?_
    refine J_then ?_
    refine J_ret ?_
    refine J_then_ret ?_
    refine J_nil_row t_Gdiff_Leq 37 ?_
    exact J_return1 rfl ⟨_, rfl, rfl⟩
  · refine J_skip ?_
    refine J_then ?_
    refine J_seq ?_
    refine J_region ?_
    refine JL_op rfl (op_buildSlice (T := t_Gdiff_Leq) (vs := []) (xs := []) rfl Try.pu22 Try.pi37 rfl rfl rfl rfl rfl rfl trivial ?_)
    intro v_6
    refine JL_op rfl (op_read rfl rfl (r_move (v := v_2) rfl) ?_)
    refine JL_op rfl (op_append (v := v_6) (u := v_2) (T := t_Gdiff_Leq) (ts := s_1.xs) 0 rfl Try.pu22 Try.pi37 rfl rfl rfl rfl rfl rfl rfl (source_frozen h_3) ?_)
    intro s_8 v_10 ha_9
    refine JL_op rfl (op_read rfl rfl (r_assign (v := v_10) rfl) ?_)
    refine JL_nil ?_
    refine J_then ?_
    refine J_ret ?_
    exact J_return1 rfl ⟨_, rfl, rfl⟩
def diff_Entails_post (r : Bool × Int) (σ : FS) (PV : List Priv) (v : Value) : Prop :=
  v = .tuple #[.bool r.1, .int .i64 r.2] ∧ PV = []
set_option maxRecDepth 100000 in
theorem diff_Entails_ref (w : World) (σ : FS) (hs : σ.sub w) (n_1 : Int) (v_3 : Value) (goal_2 : Gdiff_Leq) (h_4 : t_Gdiff_Leq.vrel σ v_3 goal_2) (v_6 : Value) (facts_5 : Sl Gdiff_Leq) (h_7 : (tSl t_Gdiff_Leq).vrel σ v_6 facts_5) (r : Bool × Int) (hr : diff_Entails n_1 goal_2 facts_5 = some r) : Does Try.prog 16 [.int .i64 n_1, v_3, v_6] w σ (diff_Entails_post r) := by
  unfold diff_Entails at hr
  obtain rfl := t_Gdiff_Leq_v.1 h_4
  refine does_of_J Try.func16 rfl (n := 47) rfl rfl hs hr ?_
  refine J_seq ?_
  refine J_region ?_
  refine JL_op rfl (op_box (cs := [.int .i64 goal_2.X, .int .i64 goal_2.Y, .int .i64 goal_2.C]) rfl rfl ?_)
  intro c_8
  refine JL_op rfl (op_read rfl rfl (r_assign (v := .bool false) rfl) ?_)
  refine JL_op rfl (op_read rfl rfl (r_assign (v := .int .i64 0) rfl) ?_)
  refine JL_nil ?_
  refine J_then ?_
  refine J_seq ?_
  refine J_region_any [.cell c_8 [.int .i64 goal_2.X, .int .i64 goal_2.Y, .int .i64 goal_2.C] 37] Try.mixed (by kernel_rfl) fun hns => ?_
  have hS_10 : HeldOK σ [.cell c_8 [.int .i64 goal_2.X, .int .i64 goal_2.Y, .int .i64 goal_2.C] 37] σ [.cell c_8 [.int .i64 goal_2.X, .int .i64 goal_2.Y, .int .i64 goal_2.C] 37] := HeldOK.same ⟨⟨0, rfl⟩, trivial⟩
  refine JA_take 0 rfl hns (by kernel_rfl) (by kernel_rfl) hS_10 rfl rfl rfl (r_move (v := v_6) rfl) ?_
  refine JA_take 2 rfl hns (by kernel_rfl) (by kernel_rfl) hS_10 rfl rfl rfl (r_load_priv (cs' := [.int .i64 goal_2.X, .int .i64 goal_2.Y, .int .i64 goal_2.C]) (v := .agg #[.int .i64 goal_2.X, .int .i64 goal_2.Y, .int .i64 goal_2.C]) 0 Try.pu37 Try.pi37 rfl rfl rfl rfl (by decide) rfl) ?_
  refine J_meetD (fun y => diff_Entails_K1 facts_5 goal_2 n_1 y) 0 #[true, true, true, true, true, true] (fun (y : (Sl Gdiff_Leq)) L τ PV => ∃ (w0 : Value), σ.le τ ∧ L = [(0, .int .i64 n_1), (2, v_6), (4, .pointer (some ⟨c_8, 0, none⟩)), (8, w0)] ∧ PV = [.cell c_8 [.int .i64 goal_2.X, .int .i64 goal_2.Y, .int .i64 goal_2.C] 37, .row Gdiff_Leq t_Gdiff_Leq 37 w0 y]) (fun hk => ?_) ?_
  · refine JA_two (i := 1) (j := 3) (by kernel_rfl) ?_ ?_
    · refine J1_op rfl rfl (op_call (f := 21) (fn := Try.f21) (args := [v_6]) (post := slices_Clone_post) rfl rfl rfl Try.func21 Try.pn21 rfl rfl (fun y w hy hs => slices_Clone_ref w _ hs v_6 facts_5 h_7 y hy) ?_)
      intro r_40 v_42 s_43 PV_45 hy_41 hle_44 hp_46
      obtain ⟨_, rfl, rfl⟩ := hp_46
      have hS_48 : HeldOK σ [.cell c_8 [.int .i64 goal_2.X, .int .i64 goal_2.Y, .int .i64 goal_2.C] 37] s_43 [.row Gdiff_Leq t_Gdiff_Leq 37 v_42 r_40, .cell c_8 [.int .i64 goal_2.X, .int .i64 goal_2.Y, .int .i64 goal_2.C] 37] := HeldOK.plain hle_44 ⟨⟨1, rfl⟩, trivial⟩ trivial
      refine ⟨hS_48, ?_⟩
      refine JA_op (i := 3) (by kernel_rfl) rfl rfl (op_buildSlice (T := t_Gdiff_Leq) (vs := [.agg #[.int .i64 goal_2.X, .int .i64 goal_2.Y, .int .i64 goal_2.C]]) (xs := [goal_2]) rfl Try.pu22 Try.pi37 rfl rfl rfl rfl rfl rfl ⟨(t_Gdiff_Leq_v.2 rfl), trivial⟩ ?_)
      intro v_49
      have hS_51 : HeldOK σ [.cell c_8 [.int .i64 goal_2.X, .int .i64 goal_2.Y, .int .i64 goal_2.C] 37] s_43 [.row Gdiff_Leq t_Gdiff_Leq 37 v_49 (⟨[goal_2], true⟩ : Sl Gdiff_Leq), .row Gdiff_Leq t_Gdiff_Leq 37 v_42 r_40, .cell c_8 [.int .i64 goal_2.X, .int .i64 goal_2.Y, .int .i64 goal_2.C] 37] := HeldOK.plain hle_44 ⟨⟨2, rfl⟩, trivial⟩ trivial
      refine ⟨hS_51, ?_⟩
      refine JA_op (i := 4) (by kernel_rfl) rfl rfl (op_append (v := v_42) (u := v_49) (T := t_Gdiff_Leq) (ts := [goal_2]) 1 rfl Try.pu22 Try.pi37 rfl rfl rfl rfl rfl rfl rfl (source_row (s := (⟨[goal_2], true⟩ : Sl Gdiff_Leq)) 0 rfl) ?_)
      intro s_52 v_54 ha_53
      have hS_55 : HeldOK σ [.cell c_8 [.int .i64 goal_2.X, .int .i64 goal_2.Y, .int .i64 goal_2.C] 37] s_43 [.row Gdiff_Leq t_Gdiff_Leq 37 v_49 (⟨[goal_2], true⟩ : Sl Gdiff_Leq), .row Gdiff_Leq t_Gdiff_Leq 37 v_54 s_52, .cell c_8 [.int .i64 goal_2.X, .int .i64 goal_2.Y, .int .i64 goal_2.C] 37] := HeldOK.plain hle_44 ⟨⟨2, rfl⟩, trivial⟩ trivial
      refine ⟨hS_55, ?_⟩
      refine JA_take 5 rfl hns (by kernel_rfl) (by kernel_rfl) hS_55 rfl rfl rfl (r_assign (v := v_54) rfl) ?_
      refine J_select (PV' := [.cell c_8 [.int .i64 goal_2.X, .int .i64 goal_2.Y, .int .i64 goal_2.C] 37, .row Gdiff_Leq t_Gdiff_Leq 37 v_54 s_52]) [2, 1] (by decide) rfl ?_
      refine J_prune _ ?_ fun b => hk s_52 _ b _ _ ⟨v_54, hle_44, rfl, rfl⟩
      exact ⟨rfl, rfl, rfl, rfl, trivial⟩
    · refine J1_op rfl rfl (op_buildSlice (T := t_Gdiff_Leq) (vs := [.agg #[.int .i64 goal_2.X, .int .i64 goal_2.Y, .int .i64 goal_2.C]]) (xs := [goal_2]) rfl Try.pu22 Try.pi37 rfl rfl rfl rfl rfl rfl ⟨(t_Gdiff_Leq_v.2 rfl), trivial⟩ ?_)
      intro v_56
      have hS_58 : HeldOK σ [.cell c_8 [.int .i64 goal_2.X, .int .i64 goal_2.Y, .int .i64 goal_2.C] 37] σ [.row Gdiff_Leq t_Gdiff_Leq 37 v_56 (⟨[goal_2], true⟩ : Sl Gdiff_Leq), .cell c_8 [.int .i64 goal_2.X, .int .i64 goal_2.Y, .int .i64 goal_2.C] 37] := HeldOK.same ⟨⟨1, rfl⟩, trivial⟩
      refine ⟨hS_58, ?_⟩
      refine JA_op (i := 1) (by kernel_rfl) rfl rfl (op_call (f := 21) (fn := Try.f21) (args := [v_6]) (post := slices_Clone_post) rfl rfl rfl Try.func21 Try.pn21 rfl rfl (fun y w hy hs => slices_Clone_ref w _ hs v_6 facts_5 h_7 y hy) ?_)
      intro r_59 v_61 s_62 PV_64 hy_60 hle_63 hp_65
      obtain ⟨_, rfl, rfl⟩ := hp_65
      have hS_67 : HeldOK σ [.cell c_8 [.int .i64 goal_2.X, .int .i64 goal_2.Y, .int .i64 goal_2.C] 37] s_62 [.row Gdiff_Leq t_Gdiff_Leq 37 v_61 r_59, .row Gdiff_Leq t_Gdiff_Leq 37 v_56 (⟨[goal_2], true⟩ : Sl Gdiff_Leq), .cell c_8 [.int .i64 goal_2.X, .int .i64 goal_2.Y, .int .i64 goal_2.C] 37] := HeldOK.plain hle_63 ⟨⟨2, rfl⟩, trivial⟩ trivial
      refine ⟨hS_67, ?_⟩
      refine JA_op (i := 4) (by kernel_rfl) rfl rfl (op_append (v := v_61) (u := v_56) (T := t_Gdiff_Leq) (ts := [goal_2]) 0 rfl Try.pu22 Try.pi37 rfl rfl rfl rfl rfl rfl rfl (source_row (s := (⟨[goal_2], true⟩ : Sl Gdiff_Leq)) 1 rfl) ?_)
      intro s_68 v_70 ha_69
      have hS_71 : HeldOK σ [.cell c_8 [.int .i64 goal_2.X, .int .i64 goal_2.Y, .int .i64 goal_2.C] 37] s_62 [.row Gdiff_Leq t_Gdiff_Leq 37 v_70 s_68, .row Gdiff_Leq t_Gdiff_Leq 37 v_56 (⟨[goal_2], true⟩ : Sl Gdiff_Leq), .cell c_8 [.int .i64 goal_2.X, .int .i64 goal_2.Y, .int .i64 goal_2.C] 37] := HeldOK.plain hle_63 ⟨⟨2, rfl⟩, trivial⟩ trivial
      refine ⟨hS_71, ?_⟩
      refine JA_take 5 rfl hns (by kernel_rfl) (by kernel_rfl) hS_71 rfl rfl rfl (r_assign (v := v_70) rfl) ?_
      refine J_select (PV' := [.cell c_8 [.int .i64 goal_2.X, .int .i64 goal_2.Y, .int .i64 goal_2.C] 37, .row Gdiff_Leq t_Gdiff_Leq 37 v_70 s_68]) [2, 0] (by decide) rfl ?_
      refine J_prune _ ?_ fun b => hk s_68 _ b _ _ ⟨v_70, hle_63, rfl, rfl⟩
      exact ⟨rfl, rfl, rfl, rfl, trivial⟩
  · rintro y_11 _ b s_12 _ ⟨v_14, hle_13, rfl, rfl⟩
    unfold diff_Entails_K1
    refine JA_done (by kernel_rfl) ?_
    refine J_then ?_
    refine J_seq ?_
    refine J_seq ?_
    refine J_region ?_
    refine JL_op rfl (op_read rfl rfl (r_move (v := .int .i64 n_1) rfl) ?_)
    refine JL_op rfl (op_read rfl rfl (r_move (v := v_14) rfl) ?_)
    refine JL_op rfl (op_call_lend (f := 18) (fn := Try.f18) (args := [.int .i64 n_1, v_14]) (post := diff_fit_post) rfl rfl rfl Try.func18 Try.pn18 rfl rfl (fun y w τ hy hle hs hrow => diff_fit_ref w τ hs n_1 v_14 y_11 (hrow 1 _ _ _ _ _ rfl) y hy) (fun y σ' PV' v hp => by obtain ⟨rfl, rfl⟩ := hp; exact trivial) ?_)
    intro r_16 v_18 s_19 PV_21 hy_17 hp_22
    obtain ⟨rfl, rfl⟩ := hp_22
    refine JL_op rfl (op_read rfl rfl (r_assign (v := .int .i64 r_16) rfl) ?_)
    refine JL_nil ?_
    refine J_then ?_
    refine J_seq ?_
    refine J_region ?_
    refine JL_op rfl (op_read rfl rfl (r_move (v := .int .i64 r_16) rfl) ?_)
    refine JL_op rfl (op_read rfl rfl (r_neq rfl rfl) ?_)
    refine JL_nil ?_
    refine J_then ?_
    refine J_cond rfl (fun hc_23 => ?_) (fun hc_23 => ?_)
    · refine J_seq ?_
      refine J_region ?_
      refine JL_op rfl (op_read rfl rfl (r_move (v := .int .i64 r_16) rfl) ?_)
      refine JL_op rfl (op_read rfl rfl (r_assign (v := .bool false) rfl) ?_)
      refine JL_op rfl (op_read rfl rfl (r_assign (v := .int .i64 r_16) rfl) ?_)
      refine JL_nil ?_
      refine J_then ?_
      refine J_ret ?_
      refine J_then_ret ?_
      refine J_select (PV' := []) [] (by decide) rfl ?_
      exact J_return2 rfl ⟨rfl, rfl⟩
    · refine J_skip ?_
      refine J_then ?_
      refine J_seq ?_
      refine J_seq ?_
      refine J_region ?_
      refine JL_op rfl (op_read rfl rfl (r_fieldAddr (r := ⟨c_8, 2, none⟩) Try.pu37 (f := Try.pf37.getD 2 default) rfl Try.pi2 (by decide) rfl rfl) ?_)
      refine JL_op rfl (op_read rfl rfl (r_load_priv (cs' := [.int .i64 goal_2.C]) (v := .int .i64 goal_2.C) 0 Try.pu2 Try.pi2 rfl rfl rfl rfl (by decide) rfl) ?_)
      refine JL_op rfl (op_read rfl rfl (r_eql rfl rfl) ?_)
      refine JL_nil ?_
      refine J_then ?_
      refine J_cond rfl (fun hc_24 => ?_) (fun hc_24 => ?_)
      · refine J_seq ?_
        refine J_region ?_
        refine JL_op rfl (op_read rfl rfl (r_assign (v := .bool false) rfl) ?_)
        refine JL_op rfl (op_read rfl rfl (r_assign (v := .int .i64 2) rfl) ?_)
        refine JL_nil ?_
        refine J_then ?_
        refine J_ret ?_
        refine J_then_ret ?_
        refine J_select (PV' := []) [] (by decide) rfl ?_
        exact J_return2 rfl ⟨rfl, rfl⟩
      · refine J_skip ?_
        refine J_then ?_
        refine J_seq ?_
        refine J_region ?_
        refine JL_op rfl (op_read rfl rfl (r_move (v := v_14) rfl) ?_)
        refine JL_op rfl (op_read rfl rfl (r_move (v := v_6) rfl) ?_)
        refine JL_op rfl (op_read rfl rfl (r_len_frozen (v := v_6) Try.pu22 rfl (Ty.vmono _ hle_13 h_7)) ?_)
        refine JL_op rfl (op_read rfl rfl (r_fieldAddr (r := ⟨c_8, 1, none⟩) Try.pu37 (f := Try.pf37.getD 1 default) rfl Try.pi3 (by decide) rfl rfl) ?_)
        refine JL_op rfl (op_read rfl rfl (r_load_priv (cs' := [.int .i64 goal_2.Y]) (v := .int .i64 goal_2.Y) 0 Try.pu3 Try.pi3 rfl rfl rfl rfl (by decide) rfl) ?_)
        refine JL_op rfl (op_read rfl rfl (r_fieldAddr (r := ⟨c_8, 0, none⟩) Try.pu37 (f := Try.pf37.getD 0 default) rfl Try.pi3 (by decide) rfl rfl) ?_)
        refine JL_op rfl (op_read rfl rfl (r_load_priv (cs' := [.int .i64 goal_2.X]) (v := .int .i64 goal_2.X) 0 Try.pu3 Try.pi3 rfl rfl rfl rfl (by decide) rfl) ?_)
        refine JL_op rfl (op_read rfl rfl (r_fieldAddr (r := ⟨c_8, 2, none⟩) Try.pu37 (f := Try.pf37.getD 2 default) rfl Try.pi2 (by decide) rfl rfl) ?_)
        refine JL_op rfl (op_read rfl rfl (r_load_priv (cs' := [.int .i64 goal_2.C]) (v := .int .i64 goal_2.C) 0 Try.pu2 Try.pi2 rfl rfl rfl rfl (by decide) rfl) ?_)
        refine JL_op rfl (op_read rfl rfl (r_neg rfl) ?_)
        refine JL_op rfl (op_read rfl rfl (r_sub rfl rfl) ?_)
        refine JL_op rfl (op_read rfl rfl (r_build (cs := [.int .i64 goal_2.Y, .int .i64 goal_2.X, .int .i64 (IntKind.i64.wrap ((IntKind.i64.wrap (0 - goal_2.C)) - 1))]) (vs := [(0, .int .i64 goal_2.Y), (1, .int .i64 goal_2.X), (2, .int .i64 (IntKind.i64.wrap ((IntKind.i64.wrap (0 - goal_2.C)) - 1)))]) (pcs := [(0, [.int .i64 goal_2.Y]), (1, [.int .i64 goal_2.X]), (2, [.int .i64 (IntKind.i64.wrap ((IntKind.i64.wrap (0 - goal_2.C)) - 1))])]) (pls := [(0, 1), (1, 1), (2, 1)]) Try.pu37 Try.pi37 rfl (by kernel_rfl) rfl ⟨rfl, rfl, ⟨rfl, rfl, ⟨rfl, rfl, trivial⟩⟩⟩ rfl) ?_)
        refine J_bind fun x_25 hx_26 => ?_
        refine JL_op rfl (op_read rfl rfl (r_index_row (v := v_14) (T := t_Gdiff_Leq) (q := x_25) 1 Try.pu22 Try.pi37 rfl rfl rfl rfl hx_26) ?_)
        refine JL_op rfl (op_store_row (v := v_14) (u := .agg #[.int .i64 goal_2.Y, .int .i64 goal_2.X, .int .i64 (IntKind.i64.wrap ((IntKind.i64.wrap (0 - goal_2.C)) - 1))]) (T := t_Gdiff_Leq) (q := (⟨goal_2.Y, goal_2.X, IntKind.i64.wrap ((IntKind.i64.wrap (0 - goal_2.C)) - 1)⟩ : Gdiff_Leq)) (i := facts_5.len) 1 Try.pi37 rfl rfl rfl (t_Gdiff_Leq_v.2 rfl) rfl ?_)
        intro s_27 hs_28
        refine JL_nil ?_
        refine J_then ?_
        refine J_seq ?_
        refine J_region ?_
        refine JL_op rfl (op_read rfl rfl (r_move (v := .int .i64 n_1) rfl) ?_)
        refine JL_op rfl (op_read rfl rfl (r_move (v := v_14) rfl) ?_)
        refine JL_op rfl (op_call_lend (f := 19) (fn := Try.f19) (args := [.int .i64 n_1, v_14]) (post := diff_solve_post) rfl rfl rfl Try.func19 Try.pn19 rfl rfl (fun y w τ hy hle hs hrow => diff_solve_ref w τ hs n_1 v_14 s_27 (hrow 1 _ _ _ _ _ rfl) y hy) (fun y σ' PV' v hp => by obtain ⟨_, _, rfl, rfl⟩ := hp; exact ⟨⟨inferInstance⟩, ⟨⟨inferInstance⟩, trivial⟩⟩) ?_)
        intro r_29 v_31 s_32 PV_34 hy_30 hp_35
        obtain ⟨v_36, v_38, rfl, rfl⟩ := hp_35
        refine JL_op rfl (op_read rfl rfl (r_move (v := .tuple #[v_36, v_38]) rfl) ?_)
        refine JL_op rfl (op_read rfl rfl (r_extract (v := v_36) rfl rfl) ?_)
        refine JL_op rfl (op_read rfl rfl (r_extract (v := v_38) rfl rfl) ?_)
        refine JL_op rfl (op_read rfl rfl (r_assign (v := v_36) rfl) ?_)
        refine JL_op rfl (op_read rfl rfl (r_assign (v := v_38) rfl) ?_)
        refine JL_nil ?_
        refine J_then ?_
        refine J_seq ?_
        refine J_region ?_
        refine JL_op rfl (op_read rfl rfl (r_move (v := v_38) rfl) ?_)
        refine JL_op rfl (op_read rfl rfl (r_nenil_row (v := v_38) 1 Try.pu24 rfl rfl rfl) ?_)
        refine JL_op rfl (op_read rfl rfl (r_assign (v := .bool r_29.2.nn) rfl) ?_)
        refine JL_op rfl (op_read rfl rfl (r_assign (v := .int .i64 0) rfl) ?_)
        refine JL_nil ?_
        refine J_then ?_
        refine J_ret ?_
        refine J_select (PV' := []) [] (by decide) rfl ?_
        exact J_return2 rfl ⟨rfl, rfl⟩
def lychgatelaw04_wakes_post (r : Bool) (σ : FS) (PV : List Priv) (v : Value) : Prop :=
  v = .bool r ∧ PV = []
set_option maxRecDepth 100000 in
theorem lychgatelaw04_wakes_ref (w : World) (σ : FS) (hs : σ.sub w)  (r : Bool) (hr : lychgatelaw04_wakes  = some r) : Does Try.prog 13 [] w σ (lychgatelaw04_wakes_post r) := by
  unfold lychgatelaw04_wakes at hr
  refine does_of_J Try.func13 rfl (n := 54) rfl rfl hs hr ?_
  refine J_seq ?_
  refine J_region ?_
  refine JL_op rfl (op_read rfl rfl (r_assign (v := .bool false) rfl) ?_)
  refine JL_nil ?_
  refine J_then ?_
  refine J_seq ?_
  refine J_region ?_
  refine JL_op rfl (op_read rfl rfl (r_build (cs := [.int .i64 0, .int .i64 2, .int .i64 5]) (vs := [(0, .int .i64 0), (1, .int .i64 2), (2, .int .i64 5)]) (pcs := [(0, [.int .i64 0]), (1, [.int .i64 2]), (2, [.int .i64 5])]) (pls := [(0, 1), (1, 1), (2, 1)]) Try.pu37 Try.pi37 rfl (by kernel_rfl) rfl ⟨rfl, rfl, ⟨rfl, rfl, ⟨rfl, rfl, trivial⟩⟩⟩ rfl) ?_)
  refine JL_op rfl (op_read rfl rfl (r_build (cs := [.int .i64 0, .int .i64 1, .int .i64 2]) (vs := [(0, .int .i64 0), (1, .int .i64 1), (2, .int .i64 2)]) (pcs := [(0, [.int .i64 0]), (1, [.int .i64 1]), (2, [.int .i64 2])]) (pls := [(0, 1), (1, 1), (2, 1)]) Try.pu37 Try.pi37 rfl (by kernel_rfl) rfl ⟨rfl, rfl, ⟨rfl, rfl, ⟨rfl, rfl, trivial⟩⟩⟩ rfl) ?_)
  refine JL_op rfl (op_read rfl rfl (r_build (cs := [.int .i64 1, .int .i64 2, .int .i64 3]) (vs := [(0, .int .i64 1), (1, .int .i64 2), (2, .int .i64 3)]) (pcs := [(0, [.int .i64 1]), (1, [.int .i64 2]), (2, [.int .i64 3])]) (pls := [(0, 1), (1, 1), (2, 1)]) Try.pu37 Try.pi37 rfl (by kernel_rfl) rfl ⟨rfl, rfl, ⟨rfl, rfl, ⟨rfl, rfl, trivial⟩⟩⟩ rfl) ?_)
  refine JL_op rfl (op_buildSlice (T := t_Gdiff_Leq) (vs := [.agg #[.int .i64 0, .int .i64 1, .int .i64 2], .agg #[.int .i64 1, .int .i64 2, .int .i64 3]]) (xs := [(⟨0, 1, 2⟩ : Gdiff_Leq), (⟨1, 2, 3⟩ : Gdiff_Leq)]) rfl Try.pu22 Try.pi37 rfl rfl rfl rfl rfl rfl ⟨(t_Gdiff_Leq_v.2 rfl), (t_Gdiff_Leq_v.2 rfl), trivial⟩ ?_)
  intro v_1
  refine JL_op rfl (op_call_lend (f := 16) (fn := Try.f16) (args := [.int .i64 3, .agg #[.int .i64 0, .int .i64 2, .int .i64 5], v_1]) (post := diff_Entails_post) rfl rfl rfl Try.func16 Try.pn16 rfl rfl (fun y w τ hy hle hs hrow => diff_Entails_ref w τ hs 3 (.agg #[.int .i64 0, .int .i64 2, .int .i64 5]) (⟨0, 2, 5⟩ : Gdiff_Leq) (Ty.vmono _ hle (t_Gdiff_Leq_v.2 rfl)) v_1 (⟨[(⟨0, 1, 2⟩ : Gdiff_Leq), (⟨1, 2, 3⟩ : Gdiff_Leq)], true⟩ : Sl Gdiff_Leq) (hrow 0 _ _ _ _ _ rfl) y hy) (fun y σ' PV' v hp => by obtain ⟨rfl, rfl⟩ := hp; exact trivial) ?_)
  intro r_3 v_5 s_6 PV_8 hy_4 hp_9
  obtain ⟨rfl, rfl⟩ := hp_9
  refine JL_op rfl (op_read rfl rfl (r_move (v := .tuple #[.bool r_3.1, .int .i64 r_3.2]) rfl) ?_)
  refine JL_op rfl (op_read rfl rfl (r_extract (v := .bool r_3.1) rfl rfl) ?_)
  refine JL_op rfl (op_read rfl rfl (r_extract (v := .int .i64 r_3.2) rfl rfl) ?_)
  refine JL_op rfl (op_read rfl rfl (r_assign (v := .bool r_3.1) rfl) ?_)
  refine JL_op rfl (op_read rfl rfl (r_assign (v := .int .i64 r_3.2) rfl) ?_)
  refine JL_nil ?_
  refine J_then ?_
  refine J_seq ?_
  refine J_region ?_
  refine JL_op rfl (op_read rfl rfl (r_build (cs := [.int .i64 0, .int .i64 2, .int .i64 4]) (vs := [(0, .int .i64 0), (1, .int .i64 2), (2, .int .i64 4)]) (pcs := [(0, [.int .i64 0]), (1, [.int .i64 2]), (2, [.int .i64 4])]) (pls := [(0, 1), (1, 1), (2, 1)]) Try.pu37 Try.pi37 rfl (by kernel_rfl) rfl ⟨rfl, rfl, ⟨rfl, rfl, ⟨rfl, rfl, trivial⟩⟩⟩ rfl) ?_)
  refine JL_op rfl (op_read rfl rfl (r_build (cs := [.int .i64 0, .int .i64 1, .int .i64 2]) (vs := [(0, .int .i64 0), (1, .int .i64 1), (2, .int .i64 2)]) (pcs := [(0, [.int .i64 0]), (1, [.int .i64 1]), (2, [.int .i64 2])]) (pls := [(0, 1), (1, 1), (2, 1)]) Try.pu37 Try.pi37 rfl (by kernel_rfl) rfl ⟨rfl, rfl, ⟨rfl, rfl, ⟨rfl, rfl, trivial⟩⟩⟩ rfl) ?_)
  refine JL_op rfl (op_read rfl rfl (r_build (cs := [.int .i64 1, .int .i64 2, .int .i64 3]) (vs := [(0, .int .i64 1), (1, .int .i64 2), (2, .int .i64 3)]) (pcs := [(0, [.int .i64 1]), (1, [.int .i64 2]), (2, [.int .i64 3])]) (pls := [(0, 1), (1, 1), (2, 1)]) Try.pu37 Try.pi37 rfl (by kernel_rfl) rfl ⟨rfl, rfl, ⟨rfl, rfl, ⟨rfl, rfl, trivial⟩⟩⟩ rfl) ?_)
  refine JL_op rfl (op_buildSlice (T := t_Gdiff_Leq) (vs := [.agg #[.int .i64 0, .int .i64 1, .int .i64 2], .agg #[.int .i64 1, .int .i64 2, .int .i64 3]]) (xs := [(⟨0, 1, 2⟩ : Gdiff_Leq), (⟨1, 2, 3⟩ : Gdiff_Leq)]) rfl Try.pu22 Try.pi37 rfl rfl rfl rfl rfl rfl ⟨(t_Gdiff_Leq_v.2 rfl), (t_Gdiff_Leq_v.2 rfl), trivial⟩ ?_)
  intro v_10
  refine JL_op rfl (op_call_lend (f := 16) (fn := Try.f16) (args := [.int .i64 3, .agg #[.int .i64 0, .int .i64 2, .int .i64 4], v_10]) (post := diff_Entails_post) rfl rfl rfl Try.func16 Try.pn16 rfl rfl (fun y w τ hy hle hs hrow => diff_Entails_ref w τ hs 3 (.agg #[.int .i64 0, .int .i64 2, .int .i64 4]) (⟨0, 2, 4⟩ : Gdiff_Leq) (Ty.vmono _ hle (t_Gdiff_Leq_v.2 rfl)) v_10 (⟨[(⟨0, 1, 2⟩ : Gdiff_Leq), (⟨1, 2, 3⟩ : Gdiff_Leq)], true⟩ : Sl Gdiff_Leq) (hrow 0 _ _ _ _ _ rfl) y hy) (fun y σ' PV' v hp => by obtain ⟨rfl, rfl⟩ := hp; exact trivial) ?_)
  intro r_12 v_14 s_15 PV_17 hy_13 hp_18
  obtain ⟨rfl, rfl⟩ := hp_18
  refine JL_op rfl (op_read rfl rfl (r_move (v := .tuple #[.bool r_12.1, .int .i64 r_12.2]) rfl) ?_)
  refine JL_op rfl (op_read rfl rfl (r_extract (v := .bool r_12.1) rfl rfl) ?_)
  refine JL_op rfl (op_read rfl rfl (r_extract (v := .int .i64 r_12.2) rfl rfl) ?_)
  refine JL_op rfl (op_read rfl rfl (r_assign (v := .bool r_12.1) rfl) ?_)
  refine JL_op rfl (op_read rfl rfl (r_assign (v := .int .i64 r_12.2) rfl) ?_)
  refine JL_nil ?_
  refine J_then ?_
  refine J_seq ?_
  refine J_region ?_
  refine JL_op rfl (op_read rfl rfl (r_build (cs := [.int .i64 0, .int .i64 1, .int .i64 (-1)]) (vs := [(0, .int .i64 0), (1, .int .i64 1), (2, .int .i64 (-1))]) (pcs := [(0, [.int .i64 0]), (1, [.int .i64 1]), (2, [.int .i64 (-1)])]) (pls := [(0, 1), (1, 1), (2, 1)]) Try.pu37 Try.pi37 rfl (by kernel_rfl) rfl ⟨rfl, rfl, ⟨rfl, rfl, ⟨rfl, rfl, trivial⟩⟩⟩ rfl) ?_)
  refine JL_op rfl (op_read rfl rfl (r_build (cs := [.int .i64 1, .int .i64 0, .int .i64 0]) (vs := [(0, .int .i64 1), (1, .int .i64 0)]) (pcs := [(0, [.int .i64 1]), (1, [.int .i64 0])]) (pls := [(0, 1), (1, 1), (2, 1)]) Try.pu37 Try.pi37 rfl (by kernel_rfl) rfl ⟨rfl, rfl, ⟨rfl, rfl, trivial⟩⟩ rfl) ?_)
  refine JL_op rfl (op_buildSlice (T := t_Gdiff_Leq) (vs := [.agg #[.int .i64 0, .int .i64 1, .int .i64 (-1)], .agg #[.int .i64 1, .int .i64 0, .int .i64 0]]) (xs := [(⟨0, 1, (-1)⟩ : Gdiff_Leq), (⟨1, 0, 0⟩ : Gdiff_Leq)]) rfl Try.pu22 Try.pi37 rfl rfl rfl rfl rfl rfl ⟨(t_Gdiff_Leq_v.2 rfl), (t_Gdiff_Leq_v.2 rfl), trivial⟩ ?_)
  intro v_19
  refine JL_op rfl (op_call_lend (f := 10) (fn := Try.f10) (args := [.int .i64 2, v_19]) (post := diff_Solve_post) rfl rfl rfl Try.func10 Try.pn10 rfl rfl (fun y w τ hy hle hs hrow => diff_Solve_ref w τ hs 2 v_19 (⟨[(⟨0, 1, (-1)⟩ : Gdiff_Leq), (⟨1, 0, 0⟩ : Gdiff_Leq)], true⟩ : Sl Gdiff_Leq) (hrow 0 _ _ _ _ _ rfl) y hy) (fun y σ' PV' v hp => by obtain ⟨_, _, rfl, rfl⟩ := hp; exact ⟨⟨inferInstance⟩, ⟨⟨inferInstance⟩, trivial⟩⟩) ?_)
  intro r_21 v_23 s_24 PV_26 hy_22 hp_27
  obtain ⟨v_28, v_30, rfl, rfl⟩ := hp_27
  refine JL_op rfl (op_read rfl rfl (r_move (v := .tuple #[v_28, v_30, .int .i64 r_21.2.2]) rfl) ?_)
  refine JL_op rfl (op_read rfl rfl (r_extract (v := v_28) rfl rfl) ?_)
  refine JL_op rfl (op_read rfl rfl (r_extract (v := v_30) rfl rfl) ?_)
  refine JL_op rfl (op_read rfl rfl (r_extract (v := .int .i64 r_21.2.2) rfl rfl) ?_)
  refine JL_op rfl (op_read rfl rfl (r_assign (v := v_28) rfl) ?_)
  refine JL_op rfl (op_read rfl rfl (r_assign (v := v_30) rfl) ?_)
  refine JL_op rfl (op_read rfl rfl (r_assign (v := .int .i64 r_21.2.2) rfl) ?_)
  refine JL_nil ?_
  refine J_then ?_
  refine J_seq ?_
  refine J_region ?_
  refine JL_op rfl (op_read rfl rfl (r_move (v := .bool r_3.1) rfl) ?_)
  refine JL_op rfl (op_read rfl rfl (r_move (v := .bool r_3.1) rfl) ?_)
  refine J_forkL (e := r_3.1) 3 [(2, .int .i64 r_3.2), (4, .int .i64 r_12.2), (6, v_30), (7, .int .i64 r_21.2.2), (36, .bool (r_3.1 && !r_12.1))] (fun hc_32 hk => ?_) (fun hc_32 hk => ?_) (fun b => ?_)
  · refine JL_opg rfl rfl hc_32 (op_read rfl rfl (r_move (v := .bool r_12.1) rfl) ?_)
    refine JL_opg rfl rfl hc_32 (op_read rfl rfl (r_not rfl) ?_)
    refine JL_op rfl (op_read rfl rfl (r_pick_t (v := .bool (!r_12.1)) rfl hc_32 rfl) ?_)
    refine J_prune [(2, .int .i64 r_3.2), (4, .int .i64 r_12.2), (6, v_30), (7, .int .i64 r_21.2.2), (36, .bool (r_3.1 && !r_12.1))] ⟨rfl, rfl, rfl, rfl, (by show Value.bool _ = Value.bool _; rw [hc_32]; rfl), trivial⟩ hk
  · refine JL_skip rfl rfl hc_32 rfl rfl ?_
    refine JL_skip rfl rfl hc_32 rfl rfl ?_
    refine JL_op rfl (op_read rfl rfl (r_pick_f (v := .bool false) rfl hc_32 rfl) ?_)
    refine J_prune [(2, .int .i64 r_3.2), (4, .int .i64 r_12.2), (6, v_30), (7, .int .i64 r_21.2.2), (36, .bool (r_3.1 && !r_12.1))] ⟨rfl, rfl, rfl, rfl, (by show Value.bool _ = Value.bool _; rw [hc_32]; rfl), trivial⟩ hk
  · refine JL_op rfl (op_read rfl rfl (r_move (v := .bool (r_3.1 && !r_12.1)) rfl) ?_)
    refine J_forkL (e := (r_3.1 && !r_12.1)) 3 [(4, .int .i64 r_12.2), (6, v_30), (7, .int .i64 r_21.2.2), (40, .bool ((r_3.1 && !r_12.1) && decide (r_3.2 = 0)))] (fun hc_33 hk => ?_) (fun hc_33 hk => ?_) (fun b => ?_)
    · refine JL_opg rfl rfl hc_33 (op_read rfl rfl (r_move (v := .int .i64 r_3.2) rfl) ?_)
      refine JL_opg rfl rfl hc_33 (op_read rfl rfl (r_eql rfl rfl) ?_)
      refine JL_op rfl (op_read rfl rfl (r_pick_t (v := .bool (decide (r_3.2 = 0))) rfl hc_33 rfl) ?_)
      refine J_prune [(4, .int .i64 r_12.2), (6, v_30), (7, .int .i64 r_21.2.2), (40, .bool ((r_3.1 && !r_12.1) && decide (r_3.2 = 0)))] ⟨rfl, rfl, rfl, (by show Value.bool _ = Value.bool _; rw [hc_33]; rfl), trivial⟩ hk
    · refine JL_skip rfl rfl hc_33 rfl rfl ?_
      refine JL_skip rfl rfl hc_33 rfl rfl ?_
      refine JL_op rfl (op_read rfl rfl (r_pick_f (v := .bool false) rfl hc_33 rfl) ?_)
      refine J_prune [(4, .int .i64 r_12.2), (6, v_30), (7, .int .i64 r_21.2.2), (40, .bool ((r_3.1 && !r_12.1) && decide (r_3.2 = 0)))] ⟨rfl, rfl, rfl, (by show Value.bool _ = Value.bool _; rw [hc_33]; rfl), trivial⟩ hk
    · refine JL_op rfl (op_read rfl rfl (r_move (v := .bool ((r_3.1 && !r_12.1) && decide (r_3.2 = 0))) rfl) ?_)
      refine J_forkL (e := ((r_3.1 && !r_12.1) && decide (r_3.2 = 0))) 3 [(6, v_30), (7, .int .i64 r_21.2.2), (44, .bool (((r_3.1 && !r_12.1) && decide (r_3.2 = 0)) && decide (r_12.2 = 0)))] (fun hc_34 hk => ?_) (fun hc_34 hk => ?_) (fun b => ?_)
      · refine JL_opg rfl rfl hc_34 (op_read rfl rfl (r_move (v := .int .i64 r_12.2) rfl) ?_)
        refine JL_opg rfl rfl hc_34 (op_read rfl rfl (r_eql rfl rfl) ?_)
        refine JL_op rfl (op_read rfl rfl (r_pick_t (v := .bool (decide (r_12.2 = 0))) rfl hc_34 rfl) ?_)
        refine J_prune [(6, v_30), (7, .int .i64 r_21.2.2), (44, .bool (((r_3.1 && !r_12.1) && decide (r_3.2 = 0)) && decide (r_12.2 = 0)))] ⟨rfl, rfl, (by show Value.bool _ = Value.bool _; rw [hc_34]; rfl), trivial⟩ hk
      · refine JL_skip rfl rfl hc_34 rfl rfl ?_
        refine JL_skip rfl rfl hc_34 rfl rfl ?_
        refine JL_op rfl (op_read rfl rfl (r_pick_f (v := .bool false) rfl hc_34 rfl) ?_)
        refine J_prune [(6, v_30), (7, .int .i64 r_21.2.2), (44, .bool (((r_3.1 && !r_12.1) && decide (r_3.2 = 0)) && decide (r_12.2 = 0)))] ⟨rfl, rfl, (by show Value.bool _ = Value.bool _; rw [hc_34]; rfl), trivial⟩ hk
      · refine JL_op rfl (op_read rfl rfl (r_move (v := .bool (((r_3.1 && !r_12.1) && decide (r_3.2 = 0)) && decide (r_12.2 = 0))) rfl) ?_)
        refine J_forkL (e := (((r_3.1 && !r_12.1) && decide (r_3.2 = 0)) && decide (r_12.2 = 0))) 3 [(6, v_30), (48, .bool ((((r_3.1 && !r_12.1) && decide (r_3.2 = 0)) && decide (r_12.2 = 0)) && decide (r_21.2.2 = 0)))] (fun hc_35 hk => ?_) (fun hc_35 hk => ?_) (fun b => ?_)
        · refine JL_opg rfl rfl hc_35 (op_read rfl rfl (r_move (v := .int .i64 r_21.2.2) rfl) ?_)
          refine JL_opg rfl rfl hc_35 (op_read rfl rfl (r_eql rfl rfl) ?_)
          refine JL_op rfl (op_read rfl rfl (r_pick_t (v := .bool (decide (r_21.2.2 = 0))) rfl hc_35 rfl) ?_)
          refine J_prune [(6, v_30), (48, .bool ((((r_3.1 && !r_12.1) && decide (r_3.2 = 0)) && decide (r_12.2 = 0)) && decide (r_21.2.2 = 0)))] ⟨rfl, (by show Value.bool _ = Value.bool _; rw [hc_35]; rfl), trivial⟩ hk
        · refine JL_skip rfl rfl hc_35 rfl rfl ?_
          refine JL_skip rfl rfl hc_35 rfl rfl ?_
          refine JL_op rfl (op_read rfl rfl (r_pick_f (v := .bool false) rfl hc_35 rfl) ?_)
          refine J_prune [(6, v_30), (48, .bool ((((r_3.1 && !r_12.1) && decide (r_3.2 = 0)) && decide (r_12.2 = 0)) && decide (r_21.2.2 = 0)))] ⟨rfl, (by show Value.bool _ = Value.bool _; rw [hc_35]; rfl), trivial⟩ hk
        · refine JL_op rfl (op_read rfl rfl (r_move (v := .bool ((((r_3.1 && !r_12.1) && decide (r_3.2 = 0)) && decide (r_12.2 = 0)) && decide (r_21.2.2 = 0))) rfl) ?_)
          refine J_forkL (e := ((((r_3.1 && !r_12.1) && decide (r_3.2 = 0)) && decide (r_12.2 = 0)) && decide (r_21.2.2 = 0))) 4 [(53, .bool (((((r_3.1 && !r_12.1) && decide (r_3.2 = 0)) && decide (r_12.2 = 0)) && decide (r_21.2.2 = 0)) && decide (r_21.2.1.len = 2)))] (fun hc_36 hk => ?_) (fun hc_36 hk => ?_) (fun b => ?_)
          · refine JL_opg rfl rfl hc_36 (op_read rfl rfl (r_move (v := v_30) rfl) ?_)
            refine JL_opg rfl rfl hc_36 (op_read rfl rfl (r_len_row (v := v_30) 1 Try.pu24 rfl rfl) ?_)
            refine JL_opg rfl rfl hc_36 (op_read rfl rfl (r_eql rfl rfl) ?_)
            refine JL_op rfl (op_read rfl rfl (r_pick_t (v := .bool (decide (r_21.2.1.len = 2))) rfl hc_36 rfl) ?_)
            refine J_prune [(53, .bool (((((r_3.1 && !r_12.1) && decide (r_3.2 = 0)) && decide (r_12.2 = 0)) && decide (r_21.2.2 = 0)) && decide (r_21.2.1.len = 2)))] ⟨(by show Value.bool _ = Value.bool _; rw [hc_36]; rfl), trivial⟩ hk
          · refine JL_skip rfl rfl hc_36 rfl rfl ?_
            refine JL_skip rfl rfl hc_36 rfl rfl ?_
            refine JL_skip rfl rfl hc_36 rfl rfl ?_
            refine JL_op rfl (op_read rfl rfl (r_pick_f (v := .bool false) rfl hc_36 rfl) ?_)
            refine J_prune [(53, .bool (((((r_3.1 && !r_12.1) && decide (r_3.2 = 0)) && decide (r_12.2 = 0)) && decide (r_21.2.2 = 0)) && decide (r_21.2.1.len = 2)))] ⟨(by show Value.bool _ = Value.bool _; rw [hc_36]; rfl), trivial⟩ hk
          · refine JL_op rfl (op_read rfl rfl (r_assign (v := .bool (((((r_3.1 && !r_12.1) && decide (r_3.2 = 0)) && decide (r_12.2 = 0)) && decide (r_21.2.2 = 0)) && decide (r_21.2.1.len = 2))) rfl) ?_)
            refine JL_nil ?_
            refine J_then ?_
            refine J_ret ?_
            refine J_select (PV' := []) [] (by decide) rfl ?_
            exact J_return1 rfl ⟨rfl, rfl⟩
def lychgateref04_Table_post (r : (Sl Int) × Bool) (σ : FS) (PV : List Priv) (v : Value) : Prop :=
  ∃ v0 : Value, v = .tuple #[v0, .bool r.2] ∧ PV = [.row Int (tInt .i64) 2 v0 r.1]
set_option maxRecDepth 100000 in
theorem lychgateref04_Table_ref (w : World) (σ : FS) (hs : σ.sub w) (n_1 : Int) (v_3 : Value) (facts_2 : Sl Glychgateref04_Leq) (h_4 : (tSl t_Glychgateref04_Leq).vrel σ v_3 facts_2) (r : (Sl Int) × Bool) (hr : lychgateref04_Table n_1 facts_2 = some r) : Does Try.prog 20 [.int .i64 n_1, v_3] w σ (lychgateref04_Table_post r) := by
  unfold lychgateref04_Table at hr
  refine does_of_J Try.func20 rfl (n := 151) rfl rfl hs hr ?_
  refine J_seq ?_
  refine J_region ?_
  refine JL_op rfl (op_read rfl rfl (r_assign (v := .slice none 0 0) rfl) ?_)
  refine JL_op rfl (op_read rfl rfl (r_assign (v := .bool false) rfl) ?_)
  refine JL_nil ?_
  refine J_then ?_
  refine J_seq ?_
  refine J_region ?_
  refine JL_op rfl (op_read rfl rfl (r_move (v := .int .i64 n_1) rfl) ?_)
  refine JL_op rfl (op_read rfl rfl (r_move (v := .int .i64 n_1) rfl) ?_)
  refine JL_op rfl (op_read rfl rfl (r_mul rfl rfl) ?_)
  refine JL_op rfl (op_make (T := (tInt .i64)) (q := 0) rfl Try.pu23 Try.pi2 rfl rfl rfl rfl rfl (fun σ => rfl) ?_)
  intro s_5 v_7 hm_6
  refine JL_op rfl (op_read rfl rfl (r_assign (v := v_7) rfl) ?_)
  refine JL_nil ?_
  refine J_then ?_
  refine J_seq ?_
  refine J_seq ?_
  refine J_region ?_
  refine JL_op rfl (op_read rfl rfl (r_assign (v := .int .i64 0) rfl) ?_)
  refine JL_nil ?_
  refine J_then ?_
  refine J_block ?_
  refine J_loop (fun (y : (Sl Int) × Int) L τ PV => ∃ (w0 : Value), σ.le τ ∧ L = [(0, .int .i64 n_1), (1, v_3), (6, w0), (7, .int .i64 y.2)] ∧ PV = [.row Int (tInt .i64) 2 w0 y.1]) (fun (y : (Sl Int)) e L τ PV => e = .exit 0 ∧ (∃ (w0 : Value), σ.le τ ∧ L = [(0, .int .i64 n_1), (1, v_3), (6, w0)] ∧ PV = [.row Int (tInt .i64) 2 w0 y])) _ ?_ ⟨v_7, (FS.le.refl _), rfl, rfl⟩ ?_ ?_
  · exact ⟨rfl, rfl, rfl, rfl, trivial⟩
  · rintro x_9 _ b s_10 _ ⟨v_12, hle_11, rfl, rfl⟩
    unfold lychgateref04_Table_L1
    refine J_seq ?_
    refine J_seq ?_
    refine J_region ?_
    refine JL_op rfl (op_read rfl rfl (r_move (v := .int .i64 x_9.2) rfl) ?_)
    refine JL_op rfl (op_read rfl rfl (r_move (v := .int .i64 n_1) rfl) ?_)
    refine JL_op rfl (op_read rfl rfl (r_move (v := .int .i64 n_1) rfl) ?_)
    refine JL_op rfl (op_read rfl rfl (r_mul rfl rfl) ?_)
    refine JL_op rfl (op_read rfl rfl (r_lss rfl rfl) ?_)
    refine JL_nil ?_
    refine J_then ?_
    refine J_cond rfl (fun hc_13 => ?_) (fun hc_13 => ?_)
    · refine J_skip ?_
      refine J_then ?_
      refine J_seq ?_
      refine J_cut (fun (y : (Sl Int)) e L τ PV => e = .normal ∧ (∃ (w0 : Value), s_10.le τ ∧ L = [(0, .int .i64 n_1), (1, v_3), (6, w0), (7, .int .i64 x_9.2)] ∧ PV = [.row Int (tInt .i64) 2 w0 y])) ?_ ?_
      · refine J_block ?_
        refine J_seq ?_
        refine J_region ?_
        refine JL_op rfl (op_read rfl rfl (r_move (v := v_12) rfl) ?_)
        refine JL_op rfl (op_read rfl rfl (r_move (v := .int .i64 x_9.2) rfl) ?_)
        refine J_bind fun x_14 hx_15 => ?_
        refine JL_op rfl (op_read rfl rfl (r_index_row (v := v_12) (T := (tInt .i64)) (q := x_14) 0 Try.pu23 Try.pi2 rfl rfl rfl rfl hx_15) ?_)
        refine JL_op rfl (op_store_row (v := v_12) (u := .int .i64 4611686018427387904) (T := (tInt .i64)) (q := 4611686018427387904) (i := x_9.2) 0 Try.pi2 rfl rfl rfl (tInt_v.2 rfl) rfl ?_)
        intro s_16 hs_17
        refine JL_nil ?_
        refine J_then ?_
        refine J_seq ?_
        refine J_region ?_
        refine JL_op rfl (op_read rfl rfl (r_move (v := .int .i64 x_9.2) rfl) ?_)
        refine JL_op rfl (op_read rfl rfl (r_move (v := .int .i64 n_1) rfl) ?_)
        refine JL_op rfl (op_read rfl rfl (r_add rfl rfl) ?_)
        refine J_bind fun q_18 hq_19 => ?_
        refine JL_op rfl (op_read rfl rfl (r_rem rfl rfl hq_19) ?_)
        refine JL_op rfl (op_read rfl rfl (r_eql rfl rfl) ?_)
        refine JL_nil ?_
        refine J_then ?_
        refine J_cut (fun (y : (Sl Int)) e L τ PV => e = .normal ∧ (∃ (w0 : Value), s_10.le τ ∧ L = [(0, .int .i64 n_1), (1, v_3), (6, w0), (7, .int .i64 x_9.2)] ∧ PV = [.row Int (tInt .i64) 2 w0 y])) ?_ ?_
        · refine J_cond rfl (fun hc_20 => ?_) (fun hc_20 => ?_)
          · refine J_region ?_
            refine JL_op rfl (op_read rfl rfl (r_move (v := v_12) rfl) ?_)
            refine JL_op rfl (op_read rfl rfl (r_move (v := .int .i64 x_9.2) rfl) ?_)
            refine J_bind fun x_21 hx_22 => ?_
            refine JL_op rfl (op_read rfl rfl (r_index_row (v := v_12) (T := (tInt .i64)) (q := x_21) 0 Try.pu23 Try.pi2 rfl rfl rfl rfl hx_22) ?_)
            refine JL_op rfl (op_store_row (v := v_12) (u := .int .i64 0) (T := (tInt .i64)) (q := 0) (i := x_9.2) 0 Try.pi2 rfl rfl rfl (tInt_v.2 rfl) rfl ?_)
            intro s_23 hs_24
            refine JL_nil ?_
            refine J_cut_end _ ?_ ⟨rfl, v_12, (FS.le.refl _), rfl, rfl⟩ trivial
            exact ⟨rfl, rfl, rfl, rfl, trivial⟩
          · refine J_skip ?_
            refine J_cut_end _ ?_ ⟨rfl, v_12, (FS.le.refl _), rfl, rfl⟩ trivial
            exact ⟨rfl, rfl, rfl, rfl, trivial⟩
        · rintro y_25 _ _ b s_26 _ ⟨rfl, ⟨v_28, hle_27, rfl, rfl⟩⟩
          refine J_in_normal ?_
          refine J_cut_end _ ?_ ⟨rfl, v_28, hle_27, rfl, rfl⟩ trivial
          exact ⟨rfl, rfl, rfl, rfl, trivial⟩
      · rintro y_29 _ _ b s_30 _ ⟨rfl, ⟨v_32, hle_31, rfl, rfl⟩⟩
        refine J_then ?_
        refine J_region ?_
        refine JL_op rfl (op_read rfl rfl (r_move (v := .int .i64 x_9.2) rfl) ?_)
        refine JL_op rfl (op_read rfl rfl (r_add rfl rfl) ?_)
        refine JL_op rfl (op_read rfl rfl (r_assign (v := .int .i64 (IntKind.i64.wrap (x_9.2 + 1))) rfl) ?_)
        refine JL_nil ?_
        refine J_next _ ?_ ⟨v_32, (FS.le.trans hle_11 hle_31), rfl, rfl⟩
        exact ⟨rfl, rfl, rfl, rfl, trivial⟩
    · refine J_exit ?_
      refine J_then_exit ?_
      refine J_done trivial _ ?_ ⟨rfl, v_12, hle_11, rfl, rfl⟩
      exact ⟨rfl, rfl, rfl, trivial⟩
  · rintro y_33 _ _ b s_34 _ ⟨rfl, ⟨v_36, hle_35, rfl, rfl⟩⟩
    refine J_in_exit ?_
    refine J_then ?_
    refine J_seq ?_
    refine J_seq ?_
    refine J_region ?_
    refine JL_op rfl (op_read rfl rfl (r_assign (v := .int .i64 0) rfl) ?_)
    refine JL_nil ?_
    refine J_then ?_
    refine J_block ?_
    refine J_loop (fun (y : (Sl Int) × Int) L τ PV => ∃ (w0 : Value), s_34.le τ ∧ L = [(0, .int .i64 n_1), (1, v_3), (6, w0), (8, .int .i64 y.2)] ∧ PV = [.row Int (tInt .i64) 2 w0 y.1]) (fun (y : (Sl Int)) e L τ PV => e = .exit 2 ∧ (∃ (w0 : Value), s_34.le τ ∧ L = [(0, .int .i64 n_1), (6, w0)] ∧ PV = [.row Int (tInt .i64) 2 w0 y])) _ ?_ ⟨v_36, (FS.le.refl _), rfl, rfl⟩ ?_ ?_
    · exact ⟨rfl, rfl, rfl, rfl, trivial⟩
    · rintro x_37 _ b s_38 _ ⟨v_40, hle_39, rfl, rfl⟩
      unfold lychgateref04_Table_L2
      refine J_seq ?_
      refine J_seq ?_
      refine J_region ?_
      refine JL_op rfl (op_read rfl rfl (r_move (v := .int .i64 x_37.2) rfl) ?_)
      refine JL_op rfl (op_read rfl rfl (r_move (v := v_3) rfl) ?_)
      refine JL_op rfl (op_read rfl rfl (r_len_frozen (v := v_3) Try.pu29 rfl (Ty.vmono _ (FS.le.trans hle_35 hle_39) h_4)) ?_)
      refine JL_op rfl (op_read rfl rfl (r_lss rfl rfl) ?_)
      refine JL_nil ?_
      refine J_then ?_
      refine J_cond rfl (fun hc_41 => ?_) (fun hc_41 => ?_)
      · refine J_skip ?_
        refine J_then ?_
        refine J_seq ?_
        refine J_cut (fun (y : (Sl Int)) e L τ PV => e = .normal ∧ (∃ (w0 : Value), s_38.le τ ∧ L = [(0, .int .i64 n_1), (1, v_3), (6, w0), (8, .int .i64 x_37.2)] ∧ PV = [.row Int (tInt .i64) 2 w0 y])) ?_ ?_
        · refine J_block ?_
          refine J_seq ?_
          refine J_region_any [.row Int (tInt .i64) 2 v_40 x_37.1] Try.mixed (by kernel_rfl) fun hns => ?_
          have hS_42 : HeldOK s_38 [.row Int (tInt .i64) 2 v_40 x_37.1] s_38 [.row Int (tInt .i64) 2 v_40 x_37.1] := HeldOK.same ⟨⟨0, rfl⟩, trivial⟩
          refine JA_take 0 rfl hns (by kernel_rfl) (by kernel_rfl) hS_42 rfl rfl rfl (r_move (v := v_3) rfl) ?_
          refine JA_take 1 rfl hns (by kernel_rfl) (by kernel_rfl) hS_42 rfl rfl rfl (r_move (v := .int .i64 x_37.2) rfl) ?_
          refine J_bind fun x_43 hx_44 => ?_
          refine JA_take 2 rfl hns (by kernel_rfl) (by kernel_rfl) hS_42 rfl rfl rfl (r_index_frozen (v := v_3) (T := t_Glychgateref04_Leq) (q := x_43) Try.pu29 Try.pi41 rfl rfl rfl (Ty.vmono _ (FS.le.trans hle_35 hle_39) h_4) hx_44) ?_
          refine JA_take 3 rfl hns (by kernel_rfl) (by kernel_rfl) hS_42 rfl rfl rfl (r_fieldAddr (r := elemAddr v_3 ((x_37.2).toNat * t_Glychgateref04_Leq.size + 0)) Try.pu41 (f := Try.pf41.getD 0 default) rfl Try.pi3 (by decide) rfl (elemAddr_add _ _ _)) ?_
          refine JA_takes 4 rfl hns (by kernel_rfl) (by kernel_rfl) hS_42 rfl rfl rfl (l_elem_frozen (v := v_3) (T := t_Glychgateref04_Leq) (Tf := (tInt .i64)) (q := x_43) (i := x_37.2) (off := 0) Try.pu3 Try.pi3 rfl rfl rfl (Ty.vmono _ (FS.le.trans hle_35 hle_39) h_4) hx_44 f_Glychgateref04_Leq_X (by decide)) ?_
          intro v_45 h_46
          obtain rfl := tInt_v.1 h_46
          refine JA_take 5 rfl hns (by kernel_rfl) (by kernel_rfl) hS_42 rfl rfl rfl (r_move (v := .int .i64 n_1) rfl) ?_
          refine JA_take 6 rfl hns (by kernel_rfl) (by kernel_rfl) hS_42 rfl rfl rfl (r_mul rfl rfl) ?_
          refine JA_take 7 rfl hns (by kernel_rfl) (by kernel_rfl) hS_42 rfl rfl rfl (r_move (v := v_3) rfl) ?_
          refine JA_take 8 rfl hns (by kernel_rfl) (by kernel_rfl) hS_42 rfl rfl rfl (r_move (v := .int .i64 x_37.2) rfl) ?_
          refine J_bind fun x_47 hx_48 => ?_
          refine JA_take 9 rfl hns (by kernel_rfl) (by kernel_rfl) hS_42 rfl rfl rfl (r_index_frozen (v := v_3) (T := t_Glychgateref04_Leq) (q := x_47) Try.pu29 Try.pi41 rfl rfl rfl (Ty.vmono _ (FS.le.trans hle_35 hle_39) h_4) hx_48) ?_
          refine JA_take 10 rfl hns (by kernel_rfl) (by kernel_rfl) hS_42 rfl rfl rfl (r_fieldAddr (r := elemAddr v_3 ((x_37.2).toNat * t_Glychgateref04_Leq.size + 1)) Try.pu41 (f := Try.pf41.getD 1 default) rfl Try.pi3 (by decide) rfl (elemAddr_add _ _ _)) ?_
          refine JA_takes 11 rfl hns (by kernel_rfl) (by kernel_rfl) hS_42 rfl rfl rfl (l_elem_frozen (v := v_3) (T := t_Glychgateref04_Leq) (Tf := (tInt .i64)) (q := x_47) (i := x_37.2) (off := 1) Try.pu3 Try.pi3 rfl rfl rfl (Ty.vmono _ (FS.le.trans hle_35 hle_39) h_4) hx_48 f_Glychgateref04_Leq_Y (by decide)) ?_
          intro v_49 h_50
          obtain rfl := tInt_v.1 h_50
          refine JA_take 12 rfl hns (by kernel_rfl) (by kernel_rfl) hS_42 rfl rfl rfl (r_add rfl rfl) ?_
          refine JA_take 13 rfl hns (by kernel_rfl) (by kernel_rfl) hS_42 rfl rfl rfl (r_assign (v := .int .i64 (IntKind.i64.wrap ((IntKind.i64.wrap (x_43.X * n_1)) + x_47.Y))) rfl) ?_
          refine JA_done (by kernel_rfl) ?_
          refine J_then ?_
          refine J_seq ?_
          refine J_region_any [.row Int (tInt .i64) 2 v_40 x_37.1] Try.mixed (by kernel_rfl) fun hns => ?_
          have hS_51 : HeldOK s_38 [.row Int (tInt .i64) 2 v_40 x_37.1] s_38 [.row Int (tInt .i64) 2 v_40 x_37.1] := HeldOK.same ⟨⟨0, rfl⟩, trivial⟩
          refine JA_take 0 rfl hns (by kernel_rfl) (by kernel_rfl) hS_51 rfl rfl rfl (r_move (v := v_3) rfl) ?_
          refine JA_take 1 rfl hns (by kernel_rfl) (by kernel_rfl) hS_51 rfl rfl rfl (r_move (v := .int .i64 x_37.2) rfl) ?_
          refine J_bind fun x_52 hx_53 => ?_
          refine JA_take 2 rfl hns (by kernel_rfl) (by kernel_rfl) hS_51 rfl rfl rfl (r_index_frozen (v := v_3) (T := t_Glychgateref04_Leq) (q := x_52) Try.pu29 Try.pi41 rfl rfl rfl (Ty.vmono _ (FS.le.trans hle_35 hle_39) h_4) hx_53) ?_
          refine JA_take 3 rfl hns (by kernel_rfl) (by kernel_rfl) hS_51 rfl rfl rfl (r_fieldAddr (r := elemAddr v_3 ((x_37.2).toNat * t_Glychgateref04_Leq.size + 2)) Try.pu41 (f := Try.pf41.getD 2 default) rfl Try.pi2 (by decide) rfl (elemAddr_add _ _ _)) ?_
          refine JA_takes 4 rfl hns (by kernel_rfl) (by kernel_rfl) hS_51 rfl rfl rfl (l_elem_frozen (v := v_3) (T := t_Glychgateref04_Leq) (Tf := (tInt .i64)) (q := x_52) (i := x_37.2) (off := 2) Try.pu2 Try.pi2 rfl rfl rfl (Ty.vmono _ (FS.le.trans hle_35 hle_39) h_4) hx_53 f_Glychgateref04_Leq_C (by decide)) ?_
          intro v_54 h_55
          obtain rfl := tInt_v.1 h_55
          refine JA_take 5 rfl hns (by kernel_rfl) (by kernel_rfl) hS_51 rfl rfl rfl (r_move (v := v_40) rfl) ?_
          refine JA_take 6 rfl hns (by kernel_rfl) (by kernel_rfl) hS_51 rfl rfl rfl (r_move (v := .int .i64 (IntKind.i64.wrap ((IntKind.i64.wrap (x_43.X * n_1)) + x_47.Y))) rfl) ?_
          refine J_bind fun x_56 hx_57 => ?_
          refine JA_take 7 rfl hns (by kernel_rfl) (by kernel_rfl) hS_51 rfl rfl rfl (r_index_row (v := v_40) (T := (tInt .i64)) (q := x_56) 0 Try.pu23 Try.pi2 rfl rfl rfl rfl hx_57) ?_
          refine JA_takes 8 rfl hns (by kernel_rfl) (by kernel_rfl) hS_51 rfl rfl rfl (l_elem_row (v := v_40) (T := (tInt .i64)) (Tf := (tInt .i64)) (q := x_56) (i := (IntKind.i64.wrap ((IntKind.i64.wrap (x_43.X * n_1)) + x_47.Y))) (off := 0) 0 Try.pu2 Try.pi2 rfl rfl rfl rfl hx_57 (FieldAt.self _) (by decide)) ?_
          intro v_58 h_59
          obtain rfl := tInt_v.1 h_59
          refine JA_take 9 rfl hns (by kernel_rfl) (by kernel_rfl) hS_51 rfl rfl rfl (r_lss rfl rfl) ?_
          refine JA_done (by kernel_rfl) ?_
          refine J_then ?_
          refine J_cut (fun (y : (Sl Int)) e L τ PV => e = .normal ∧ (∃ (w0 : Value), s_38.le τ ∧ L = [(0, .int .i64 n_1), (1, v_3), (6, w0), (8, .int .i64 x_37.2)] ∧ PV = [.row Int (tInt .i64) 2 w0 y])) ?_ ?_
          · refine J_cond rfl (fun hc_60 => ?_) (fun hc_60 => ?_)
            · refine J_region ?_
              refine JL_op rfl (op_read rfl rfl (r_move (v := v_40) rfl) ?_)
              refine JL_op rfl (op_read rfl rfl (r_move (v := .int .i64 (IntKind.i64.wrap ((IntKind.i64.wrap (x_43.X * n_1)) + x_47.Y))) rfl) ?_)
              refine JL_op rfl (op_read rfl rfl (r_move (v := v_3) rfl) ?_)
              refine JL_op rfl (op_read rfl rfl (r_move (v := .int .i64 x_37.2) rfl) ?_)
              refine J_bind fun x_61 hx_62 => ?_
              refine JL_op rfl (op_read rfl rfl (r_index_frozen (v := v_3) (T := t_Glychgateref04_Leq) (q := x_61) Try.pu29 Try.pi41 rfl rfl rfl (Ty.vmono _ (FS.le.trans hle_35 hle_39) h_4) hx_62) ?_)
              refine JL_op rfl (op_read rfl rfl (r_fieldAddr (r := elemAddr v_3 ((x_37.2).toNat * t_Glychgateref04_Leq.size + 2)) Try.pu41 (f := Try.pf41.getD 2 default) rfl Try.pi2 (by decide) rfl (elemAddr_add _ _ _)) ?_)
              refine JL_op rfl (op_reads rfl rfl (l_elem_frozen (v := v_3) (T := t_Glychgateref04_Leq) (Tf := (tInt .i64)) (q := x_61) (i := x_37.2) (off := 2) Try.pu2 Try.pi2 rfl rfl rfl (Ty.vmono _ (FS.le.trans hle_35 hle_39) h_4) hx_62 f_Glychgateref04_Leq_C (by decide)) ?_)
              intro v_63 h_64
              obtain rfl := tInt_v.1 h_64
              refine J_bind fun x_65 hx_66 => ?_
              refine JL_op rfl (op_read rfl rfl (r_index_row (v := v_40) (T := (tInt .i64)) (q := x_65) 0 Try.pu23 Try.pi2 rfl rfl rfl rfl hx_66) ?_)
              refine JL_op rfl (op_store_row (v := v_40) (u := .int .i64 x_61.C) (T := (tInt .i64)) (q := x_61.C) (i := (IntKind.i64.wrap ((IntKind.i64.wrap (x_43.X * n_1)) + x_47.Y))) 0 Try.pi2 rfl rfl rfl (tInt_v.2 rfl) rfl ?_)
              intro s_67 hs_68
              refine JL_nil ?_
              refine J_cut_end _ ?_ ⟨rfl, v_40, (FS.le.refl _), rfl, rfl⟩ trivial
              exact ⟨rfl, rfl, rfl, rfl, trivial⟩
            · refine J_skip ?_
              refine J_cut_end _ ?_ ⟨rfl, v_40, (FS.le.refl _), rfl, rfl⟩ trivial
              exact ⟨rfl, rfl, rfl, rfl, trivial⟩
          · rintro y_69 _ _ b s_70 _ ⟨rfl, ⟨v_72, hle_71, rfl, rfl⟩⟩
            refine J_in_normal ?_
            refine J_cut_end _ ?_ ⟨rfl, v_72, hle_71, rfl, rfl⟩ trivial
            exact ⟨rfl, rfl, rfl, rfl, trivial⟩
        · rintro y_73 _ _ b s_74 _ ⟨rfl, ⟨v_76, hle_75, rfl, rfl⟩⟩
          refine J_then ?_
          refine J_region ?_
          refine JL_op rfl (op_read rfl rfl (r_move (v := .int .i64 x_37.2) rfl) ?_)
          refine JL_op rfl (op_read rfl rfl (r_add rfl rfl) ?_)
          refine JL_op rfl (op_read rfl rfl (r_assign (v := .int .i64 (IntKind.i64.wrap (x_37.2 + 1))) rfl) ?_)
          refine JL_nil ?_
          refine J_next _ ?_ ⟨v_76, (FS.le.trans hle_39 hle_75), rfl, rfl⟩
          exact ⟨rfl, rfl, rfl, rfl, trivial⟩
      · refine J_exit ?_
        refine J_then_exit ?_
        refine J_done trivial _ ?_ ⟨rfl, v_40, hle_39, rfl, rfl⟩
        exact ⟨rfl, rfl, trivial⟩
    · rintro y_77 _ _ b s_78 _ ⟨rfl, ⟨v_80, hle_79, rfl, rfl⟩⟩
      refine J_in_exit ?_
      refine J_then ?_
      refine J_seq ?_
      refine J_seq ?_
      refine J_region ?_
      refine JL_op rfl (op_read rfl rfl (r_assign (v := .int .i64 0) rfl) ?_)
      refine JL_nil ?_
      refine J_then ?_
      refine J_block ?_
      refine J_loop (fun (y : (Sl Int) × Int) L τ PV => ∃ (w0 : Value), s_78.le τ ∧ L = [(0, .int .i64 n_1), (6, w0), (10, .int .i64 y.2)] ∧ PV = [.row Int (tInt .i64) 2 w0 y.1]) (fun (y : W2 ((Sl Int)) Unit) e L τ PV => match y, e with | .a y, e => e = .exit 4 ∧ (∃ (w0 : Value), s_78.le τ ∧ L = [(6, w0)] ∧ PV = [.row Int (tInt .i64) 2 w0 y]) | .b y, e => e = .ret ∧ (s_78.le τ ∧ L = [(4, .slice none 0 0), (5, .bool false)] ∧ PV = [])) _ ?_ ⟨v_80, (FS.le.refl _), rfl, rfl⟩ ?_ ?_
      · exact ⟨rfl, rfl, rfl, trivial⟩
      · rintro x_81 _ b s_82 _ ⟨v_84, hle_83, rfl, rfl⟩
        unfold lychgateref04_Table_L5
        refine J_seq ?_
        refine J_seq ?_
        refine J_region ?_
        refine JL_op rfl (op_read rfl rfl (r_move (v := .int .i64 x_81.2) rfl) ?_)
        refine JL_op rfl (op_read rfl rfl (r_move (v := .int .i64 n_1) rfl) ?_)
        refine JL_op rfl (op_read rfl rfl (r_lss rfl rfl) ?_)
        refine JL_nil ?_
        refine J_then ?_
        refine J_cond rfl (fun hc_85 => ?_) (fun hc_85 => ?_)
        · refine J_skip ?_
          refine J_then ?_
          refine J_seq ?_
          refine J_block ?_
          refine J_seq ?_
          refine J_region ?_
          refine JL_op rfl (op_read rfl rfl (r_assign (v := .int .i64 0) rfl) ?_)
          refine JL_nil ?_
          refine J_then ?_
          refine J_block ?_
          refine J_loop (fun (y : (Sl Int) × Int) L τ PV => ∃ (w0 : Value), s_82.le τ ∧ L = [(0, .int .i64 n_1), (6, w0), (10, .int .i64 x_81.2), (11, .int .i64 y.2)] ∧ PV = [.row Int (tInt .i64) 2 w0 y.1]) (fun (y : W2 ((Sl Int)) Unit) e L τ PV => match y, e with | .a y, e => e = .exit 6 ∧ (∃ (w0 : Value), s_82.le τ ∧ L = [(0, .int .i64 n_1), (6, w0), (10, .int .i64 x_81.2)] ∧ PV = [.row Int (tInt .i64) 2 w0 y]) | .b y, e => e = .ret ∧ (s_82.le τ ∧ L = [(4, .slice none 0 0), (5, .bool false)] ∧ PV = [])) _ ?_ ⟨v_84, (FS.le.refl _), rfl, rfl⟩ ?_ ?_
          · exact ⟨rfl, rfl, rfl, rfl, trivial⟩
          · rintro x_86 _ b s_87 _ ⟨v_89, hle_88, rfl, rfl⟩
            unfold lychgateref04_Table_L4
            refine J_seq ?_
            refine J_seq ?_
            refine J_region ?_
            refine JL_op rfl (op_read rfl rfl (r_move (v := .int .i64 x_86.2) rfl) ?_)
            refine JL_op rfl (op_read rfl rfl (r_move (v := .int .i64 n_1) rfl) ?_)
            refine JL_op rfl (op_read rfl rfl (r_lss rfl rfl) ?_)
            refine JL_nil ?_
            refine J_then ?_
            refine J_cond rfl (fun hc_90 => ?_) (fun hc_90 => ?_)
            · refine J_skip ?_
              refine J_then ?_
              refine J_seq ?_
              refine J_cut (fun (y : W2 ((Sl Int)) Unit) e L τ PV => match y, e with | .a y, e => e = .normal ∧ (∃ (w0 : Value), s_87.le τ ∧ L = [(0, .int .i64 n_1), (6, w0), (10, .int .i64 x_81.2), (11, .int .i64 x_86.2)] ∧ PV = [.row Int (tInt .i64) 2 w0 y]) | .b y, e => e = .ret ∧ (s_87.le τ ∧ L = [(4, .slice none 0 0), (5, .bool false)] ∧ PV = [])) ?_ ?_
              · refine J_block ?_
                refine J_seq ?_
                refine J_seq ?_
                refine J_region ?_
                refine JL_op rfl (op_read rfl rfl (r_move (v := v_89) rfl) ?_)
                refine JL_op rfl (op_read rfl rfl (r_move (v := .int .i64 x_86.2) rfl) ?_)
                refine JL_op rfl (op_read rfl rfl (r_move (v := .int .i64 n_1) rfl) ?_)
                refine JL_op rfl (op_read rfl rfl (r_mul rfl rfl) ?_)
                refine JL_op rfl (op_read rfl rfl (r_move (v := .int .i64 x_81.2) rfl) ?_)
                refine JL_op rfl (op_read rfl rfl (r_add rfl rfl) ?_)
                refine J_bind fun x_91 hx_92 => ?_
                refine JL_op rfl (op_read rfl rfl (r_index_row (v := v_89) (T := (tInt .i64)) (q := x_91) 0 Try.pu23 Try.pi2 rfl rfl rfl rfl hx_92) ?_)
                refine JL_op rfl (op_reads rfl rfl (l_elem_row (v := v_89) (T := (tInt .i64)) (Tf := (tInt .i64)) (q := x_91) (i := (IntKind.i64.wrap ((IntKind.i64.wrap (x_86.2 * n_1)) + x_81.2))) (off := 0) 0 Try.pu2 Try.pi2 rfl rfl rfl rfl hx_92 (FieldAt.self _) (by decide)) ?_)
                intro v_93 h_94
                obtain rfl := tInt_v.1 h_94
                refine JL_op rfl (op_read rfl rfl (r_eql rfl rfl) ?_)
                refine JL_nil ?_
                refine J_then ?_
                refine J_cond rfl (fun hc_95 => ?_) (fun hc_95 => ?_)
                · refine J_exit ?_
                  refine J_then_exit ?_
                  refine J_in_exit ?_
                  refine J_cut_end _ ?_ ⟨rfl, v_89, (FS.le.refl _), rfl, rfl⟩ trivial
                  exact ⟨rfl, rfl, rfl, rfl, trivial⟩
                · refine J_skip ?_
                  refine J_then ?_
                  refine J_seq ?_
                  refine J_seq ?_
                  refine J_region ?_
                  refine JL_op rfl (op_read rfl rfl (r_assign (v := .int .i64 0) rfl) ?_)
                  refine JL_nil ?_
                  refine J_then ?_
                  refine J_block ?_
                  refine J_loop (fun (y : (Sl Int) × Int) L τ PV => ∃ (w0 : Value), s_87.le τ ∧ L = [(0, .int .i64 n_1), (6, w0), (10, .int .i64 x_81.2), (11, .int .i64 x_86.2), (12, .int .i64 y.2)] ∧ PV = [.row Int (tInt .i64) 2 w0 y.1]) (fun (y : (Sl Int)) e L τ PV => e = .exit 8 ∧ (∃ (w0 : Value), s_87.le τ ∧ L = [(0, .int .i64 n_1), (6, w0), (10, .int .i64 x_81.2), (11, .int .i64 x_86.2)] ∧ PV = [.row Int (tInt .i64) 2 w0 y])) _ ?_ ⟨v_89, (FS.le.refl _), rfl, rfl⟩ ?_ ?_
                  · exact ⟨rfl, rfl, rfl, rfl, rfl, trivial⟩
                  · rintro x_96 _ b s_97 _ ⟨v_99, hle_98, rfl, rfl⟩
                    unfold lychgateref04_Table_L3
                    refine J_seq ?_
                    refine J_seq ?_
                    refine J_region ?_
                    refine JL_op rfl (op_read rfl rfl (r_move (v := .int .i64 x_96.2) rfl) ?_)
                    refine JL_op rfl (op_read rfl rfl (r_move (v := .int .i64 n_1) rfl) ?_)
                    refine JL_op rfl (op_read rfl rfl (r_lss rfl rfl) ?_)
                    refine JL_nil ?_
                    refine J_then ?_
                    refine J_cond rfl (fun hc_100 => ?_) (fun hc_100 => ?_)
                    · refine J_skip ?_
                      refine J_then ?_
                      refine J_seq ?_
                      refine J_cut (fun (y : (Sl Int)) e L τ PV => e = .normal ∧ (∃ (w0 : Value), s_97.le τ ∧ L = [(0, .int .i64 n_1), (6, w0), (10, .int .i64 x_81.2), (11, .int .i64 x_86.2), (12, .int .i64 x_96.2)] ∧ PV = [.row Int (tInt .i64) 2 w0 y])) ?_ ?_
                      · refine J_block ?_
                        refine J_seq ?_
                        refine J_seq ?_
                        refine J_region ?_
                        refine JL_op rfl (op_read rfl rfl (r_move (v := v_99) rfl) ?_)
                        refine JL_op rfl (op_read rfl rfl (r_move (v := .int .i64 x_81.2) rfl) ?_)
                        refine JL_op rfl (op_read rfl rfl (r_move (v := .int .i64 n_1) rfl) ?_)
                        refine JL_op rfl (op_read rfl rfl (r_mul rfl rfl) ?_)
                        refine JL_op rfl (op_read rfl rfl (r_move (v := .int .i64 x_96.2) rfl) ?_)
                        refine JL_op rfl (op_read rfl rfl (r_add rfl rfl) ?_)
                        refine J_bind fun x_101 hx_102 => ?_
                        refine JL_op rfl (op_read rfl rfl (r_index_row (v := v_99) (T := (tInt .i64)) (q := x_101) 0 Try.pu23 Try.pi2 rfl rfl rfl rfl hx_102) ?_)
                        refine JL_op rfl (op_reads rfl rfl (l_elem_row (v := v_99) (T := (tInt .i64)) (Tf := (tInt .i64)) (q := x_101) (i := (IntKind.i64.wrap ((IntKind.i64.wrap (x_81.2 * n_1)) + x_96.2))) (off := 0) 0 Try.pu2 Try.pi2 rfl rfl rfl rfl hx_102 (FieldAt.self _) (by decide)) ?_)
                        intro v_103 h_104
                        obtain rfl := tInt_v.1 h_104
                        refine JL_op rfl (op_read rfl rfl (r_eql rfl rfl) ?_)
                        refine JL_nil ?_
                        refine J_then ?_
                        refine J_cond rfl (fun hc_105 => ?_) (fun hc_105 => ?_)
                        · refine J_exit ?_
                          refine J_then_exit ?_
                          refine J_in_exit ?_
                          refine J_cut_end _ ?_ ⟨rfl, v_99, (FS.le.refl _), rfl, rfl⟩ trivial
                          exact ⟨rfl, rfl, rfl, rfl, rfl, trivial⟩
                        · refine J_skip ?_
                          refine J_then ?_
                          refine J_seq ?_
                          refine J_region_any [.row Int (tInt .i64) 2 v_99 x_96.1] Try.mixed (by kernel_rfl) fun hns => ?_
                          have hS_106 : HeldOK s_97 [.row Int (tInt .i64) 2 v_99 x_96.1] s_97 [.row Int (tInt .i64) 2 v_99 x_96.1] := HeldOK.same ⟨⟨0, rfl⟩, trivial⟩
                          refine JA_take 0 rfl hns (by kernel_rfl) (by kernel_rfl) hS_106 rfl rfl rfl (r_move (v := v_99) rfl) ?_
                          refine JA_take 1 rfl hns (by kernel_rfl) (by kernel_rfl) hS_106 rfl rfl rfl (r_move (v := .int .i64 x_86.2) rfl) ?_
                          refine JA_take 2 rfl hns (by kernel_rfl) (by kernel_rfl) hS_106 rfl rfl rfl (r_move (v := .int .i64 n_1) rfl) ?_
                          refine JA_take 3 rfl hns (by kernel_rfl) (by kernel_rfl) hS_106 rfl rfl rfl (r_mul rfl rfl) ?_
                          refine JA_take 4 rfl hns (by kernel_rfl) (by kernel_rfl) hS_106 rfl rfl rfl (r_move (v := .int .i64 x_81.2) rfl) ?_
                          refine JA_take 5 rfl hns (by kernel_rfl) (by kernel_rfl) hS_106 rfl rfl rfl (r_add rfl rfl) ?_
                          refine J_bind fun x_107 hx_108 => ?_
                          refine JA_take 6 rfl hns (by kernel_rfl) (by kernel_rfl) hS_106 rfl rfl rfl (r_index_row (v := v_99) (T := (tInt .i64)) (q := x_107) 0 Try.pu23 Try.pi2 rfl rfl rfl rfl hx_108) ?_
                          refine JA_takes 7 rfl hns (by kernel_rfl) (by kernel_rfl) hS_106 rfl rfl rfl (l_elem_row (v := v_99) (T := (tInt .i64)) (Tf := (tInt .i64)) (q := x_107) (i := (IntKind.i64.wrap ((IntKind.i64.wrap (x_86.2 * n_1)) + x_81.2))) (off := 0) 0 Try.pu2 Try.pi2 rfl rfl rfl rfl hx_108 (FieldAt.self _) (by decide)) ?_
                          intro v_109 h_110
                          obtain rfl := tInt_v.1 h_110
                          refine JA_take 8 rfl hns (by kernel_rfl) (by kernel_rfl) hS_106 rfl rfl rfl (r_move (v := v_99) rfl) ?_
                          refine JA_take 9 rfl hns (by kernel_rfl) (by kernel_rfl) hS_106 rfl rfl rfl (r_move (v := .int .i64 x_81.2) rfl) ?_
                          refine JA_take 10 rfl hns (by kernel_rfl) (by kernel_rfl) hS_106 rfl rfl rfl (r_move (v := .int .i64 n_1) rfl) ?_
                          refine JA_take 11 rfl hns (by kernel_rfl) (by kernel_rfl) hS_106 rfl rfl rfl (r_mul rfl rfl) ?_
                          refine JA_take 12 rfl hns (by kernel_rfl) (by kernel_rfl) hS_106 rfl rfl rfl (r_move (v := .int .i64 x_96.2) rfl) ?_
                          refine JA_take 13 rfl hns (by kernel_rfl) (by kernel_rfl) hS_106 rfl rfl rfl (r_add rfl rfl) ?_
                          refine J_bind fun x_111 hx_112 => ?_
                          refine JA_take 14 rfl hns (by kernel_rfl) (by kernel_rfl) hS_106 rfl rfl rfl (r_index_row (v := v_99) (T := (tInt .i64)) (q := x_111) 0 Try.pu23 Try.pi2 rfl rfl rfl rfl hx_112) ?_
                          refine JA_takes 15 rfl hns (by kernel_rfl) (by kernel_rfl) hS_106 rfl rfl rfl (l_elem_row (v := v_99) (T := (tInt .i64)) (Tf := (tInt .i64)) (q := x_111) (i := (IntKind.i64.wrap ((IntKind.i64.wrap (x_81.2 * n_1)) + x_96.2))) (off := 0) 0 Try.pu2 Try.pi2 rfl rfl rfl rfl hx_112 (FieldAt.self _) (by decide)) ?_
                          intro v_113 h_114
                          obtain rfl := tInt_v.1 h_114
                          refine JA_take 16 rfl hns (by kernel_rfl) (by kernel_rfl) hS_106 rfl rfl rfl (r_add rfl rfl) ?_
                          refine JA_take 17 rfl hns (by kernel_rfl) (by kernel_rfl) hS_106 rfl rfl rfl (r_assign (v := .int .i64 (IntKind.i64.wrap (x_107 + x_111))) rfl) ?_
                          refine JA_done (by kernel_rfl) ?_
                          refine J_then ?_
                          refine J_seq ?_
                          refine J_region ?_
                          refine JL_op rfl (op_read rfl rfl (r_move (v := .int .i64 (IntKind.i64.wrap (x_107 + x_111))) rfl) ?_)
                          refine JL_op rfl (op_read rfl rfl (r_move (v := v_99) rfl) ?_)
                          refine JL_op rfl (op_read rfl rfl (r_move (v := .int .i64 x_86.2) rfl) ?_)
                          refine JL_op rfl (op_read rfl rfl (r_move (v := .int .i64 n_1) rfl) ?_)
                          refine JL_op rfl (op_read rfl rfl (r_mul rfl rfl) ?_)
                          refine JL_op rfl (op_read rfl rfl (r_move (v := .int .i64 x_96.2) rfl) ?_)
                          refine JL_op rfl (op_read rfl rfl (r_add rfl rfl) ?_)
                          refine J_bind fun x_115 hx_116 => ?_
                          refine JL_op rfl (op_read rfl rfl (r_index_row (v := v_99) (T := (tInt .i64)) (q := x_115) 0 Try.pu23 Try.pi2 rfl rfl rfl rfl hx_116) ?_)
                          refine JL_op rfl (op_reads rfl rfl (l_elem_row (v := v_99) (T := (tInt .i64)) (Tf := (tInt .i64)) (q := x_115) (i := (IntKind.i64.wrap ((IntKind.i64.wrap (x_86.2 * n_1)) + x_96.2))) (off := 0) 0 Try.pu2 Try.pi2 rfl rfl rfl rfl hx_116 (FieldAt.self _) (by decide)) ?_)
                          intro v_117 h_118
                          obtain rfl := tInt_v.1 h_118
                          refine JL_op rfl (op_read rfl rfl (r_lss rfl rfl) ?_)
                          refine JL_nil ?_
                          refine J_then ?_
                          refine J_cut (fun (y : (Sl Int)) e L τ PV => e = .normal ∧ (∃ (w0 : Value), s_97.le τ ∧ L = [(0, .int .i64 n_1), (6, w0), (10, .int .i64 x_81.2), (11, .int .i64 x_86.2), (12, .int .i64 x_96.2)] ∧ PV = [.row Int (tInt .i64) 2 w0 y])) ?_ ?_
                          · refine J_cond rfl (fun hc_119 => ?_) (fun hc_119 => ?_)
                            · refine J_region ?_
                              refine JL_op rfl (op_read rfl rfl (r_move (v := v_99) rfl) ?_)
                              refine JL_op rfl (op_read rfl rfl (r_move (v := .int .i64 x_86.2) rfl) ?_)
                              refine JL_op rfl (op_read rfl rfl (r_move (v := .int .i64 n_1) rfl) ?_)
                              refine JL_op rfl (op_read rfl rfl (r_mul rfl rfl) ?_)
                              refine JL_op rfl (op_read rfl rfl (r_move (v := .int .i64 x_96.2) rfl) ?_)
                              refine JL_op rfl (op_read rfl rfl (r_add rfl rfl) ?_)
                              refine JL_op rfl (op_read rfl rfl (r_move (v := .int .i64 (IntKind.i64.wrap (x_107 + x_111))) rfl) ?_)
                              refine J_bind fun x_120 hx_121 => ?_
                              refine JL_op rfl (op_read rfl rfl (r_index_row (v := v_99) (T := (tInt .i64)) (q := x_120) 0 Try.pu23 Try.pi2 rfl rfl rfl rfl hx_121) ?_)
                              refine JL_op rfl (op_store_row (v := v_99) (u := .int .i64 (IntKind.i64.wrap (x_107 + x_111))) (T := (tInt .i64)) (q := (IntKind.i64.wrap (x_107 + x_111))) (i := (IntKind.i64.wrap ((IntKind.i64.wrap (x_86.2 * n_1)) + x_96.2))) 0 Try.pi2 rfl rfl rfl (tInt_v.2 rfl) rfl ?_)
                              intro s_122 hs_123
                              refine JL_nil ?_
                              refine J_cut_end _ ?_ ⟨rfl, v_99, (FS.le.refl _), rfl, rfl⟩ trivial
                              exact ⟨rfl, rfl, rfl, rfl, rfl, trivial⟩
                            · refine J_skip ?_
                              refine J_cut_end _ ?_ ⟨rfl, v_99, (FS.le.refl _), rfl, rfl⟩ trivial
                              exact ⟨rfl, rfl, rfl, rfl, rfl, trivial⟩
                          · rintro y_124 _ _ b s_125 _ ⟨rfl, ⟨v_127, hle_126, rfl, rfl⟩⟩
                            refine J_in_normal ?_
                            refine J_cut_end _ ?_ ⟨rfl, v_127, hle_126, rfl, rfl⟩ trivial
                            exact ⟨rfl, rfl, rfl, rfl, rfl, trivial⟩
                      · rintro y_128 _ _ b s_129 _ ⟨rfl, ⟨v_131, hle_130, rfl, rfl⟩⟩
                        refine J_then ?_
                        refine J_region ?_
                        refine JL_op rfl (op_read rfl rfl (r_move (v := .int .i64 x_96.2) rfl) ?_)
                        refine JL_op rfl (op_read rfl rfl (r_add rfl rfl) ?_)
                        refine JL_op rfl (op_read rfl rfl (r_assign (v := .int .i64 (IntKind.i64.wrap (x_96.2 + 1))) rfl) ?_)
                        refine JL_nil ?_
                        refine J_next _ ?_ ⟨v_131, (FS.le.trans hle_98 hle_130), rfl, rfl⟩
                        exact ⟨rfl, rfl, rfl, rfl, rfl, trivial⟩
                    · refine J_exit ?_
                      refine J_then_exit ?_
                      refine J_done trivial _ ?_ ⟨rfl, v_99, hle_98, rfl, rfl⟩
                      exact ⟨rfl, rfl, rfl, rfl, trivial⟩
                  · rintro y_132 _ _ b s_133 _ ⟨rfl, ⟨v_135, hle_134, rfl, rfl⟩⟩
                    refine J_in_exit ?_
                    refine J_then ?_
                    refine J_seq ?_
                    refine J_region ?_
                    refine JL_op rfl (op_read rfl rfl (r_move (v := v_135) rfl) ?_)
                    refine JL_op rfl (op_read rfl rfl (r_move (v := .int .i64 x_86.2) rfl) ?_)
                    refine JL_op rfl (op_read rfl rfl (r_move (v := .int .i64 n_1) rfl) ?_)
                    refine JL_op rfl (op_read rfl rfl (r_mul rfl rfl) ?_)
                    refine JL_op rfl (op_read rfl rfl (r_move (v := .int .i64 x_86.2) rfl) ?_)
                    refine JL_op rfl (op_read rfl rfl (r_add rfl rfl) ?_)
                    refine J_bind fun x_136 hx_137 => ?_
                    refine JL_op rfl (op_read rfl rfl (r_index_row (v := v_135) (T := (tInt .i64)) (q := x_136) 0 Try.pu23 Try.pi2 rfl rfl rfl rfl hx_137) ?_)
                    refine JL_op rfl (op_reads rfl rfl (l_elem_row (v := v_135) (T := (tInt .i64)) (Tf := (tInt .i64)) (q := x_136) (i := (IntKind.i64.wrap ((IntKind.i64.wrap (x_86.2 * n_1)) + x_86.2))) (off := 0) 0 Try.pu2 Try.pi2 rfl rfl rfl rfl hx_137 (FieldAt.self _) (by decide)) ?_)
                    intro v_138 h_139
                    obtain rfl := tInt_v.1 h_139
                    refine JL_op rfl (op_read rfl rfl (r_lss rfl rfl) ?_)
                    refine JL_nil ?_
                    refine J_then ?_
                    refine J_cond rfl (fun hc_140 => ?_) (fun hc_140 => ?_)
                    · refine J_seq ?_
                      refine J_region ?_
                      refine JL_op rfl (op_read rfl rfl (r_assign (v := .slice none 0 0) rfl) ?_)
                      refine JL_op rfl (op_read rfl rfl (r_assign (v := .bool false) rfl) ?_)
                      refine JL_nil ?_
                      refine J_then ?_
                      refine J_ret ?_
                      refine J_in_ret ?_
                      refine J_select (PV' := []) [] (by decide) rfl ?_
                      refine J_cut_end _ ?_ ⟨rfl, hle_134, rfl, rfl⟩ trivial
                      exact ⟨rfl, rfl, trivial⟩
                    · refine J_skip ?_
                      refine J_in_normal ?_
                      refine J_cut_end _ ?_ ⟨rfl, v_135, hle_134, rfl, rfl⟩ trivial
                      exact ⟨rfl, rfl, rfl, rfl, trivial⟩
              · rintro (y_142 | y_146) e L b τ PV ht
                · obtain ⟨rfl, ht⟩ := ht
                  revert ht; revert PV; revert τ; revert b; revert L
                  rintro _ b s_143 _ ⟨v_145, hle_144, rfl, rfl⟩
                  refine J_then ?_
                  refine J_region ?_
                  refine JL_op rfl (op_read rfl rfl (r_move (v := .int .i64 x_86.2) rfl) ?_)
                  refine JL_op rfl (op_read rfl rfl (r_add rfl rfl) ?_)
                  refine JL_op rfl (op_read rfl rfl (r_assign (v := .int .i64 (IntKind.i64.wrap (x_86.2 + 1))) rfl) ?_)
                  refine JL_nil ?_
                  refine J_next _ ?_ ⟨v_145, (FS.le.trans hle_88 hle_144), rfl, rfl⟩
                  exact ⟨rfl, rfl, rfl, rfl, trivial⟩
                · obtain ⟨rfl, ht⟩ := ht
                  revert ht; revert PV; revert τ; revert b; revert L
                  rintro _ b s_147 _ ⟨hle_148, rfl, rfl⟩
                  refine J_then_ret ?_
                  refine J_done trivial _ ?_ ⟨rfl, (FS.le.trans hle_88 hle_148), rfl, rfl⟩
                  exact ⟨rfl, rfl, trivial⟩
            · refine J_exit ?_
              refine J_then_exit ?_
              refine J_done trivial _ ?_ ⟨rfl, v_89, hle_88, rfl, rfl⟩
              exact ⟨rfl, rfl, rfl, trivial⟩
          · rintro (y_150 | y_154) e L b τ PV ht
            · obtain ⟨rfl, ht⟩ := ht
              revert ht; revert PV; revert τ; revert b; revert L
              rintro _ b s_151 _ ⟨v_153, hle_152, rfl, rfl⟩
              refine J_in_exit ?_
              refine J_in_normal ?_
              refine J_then ?_
              refine J_region ?_
              refine JL_op rfl (op_read rfl rfl (r_move (v := .int .i64 x_81.2) rfl) ?_)
              refine JL_op rfl (op_read rfl rfl (r_add rfl rfl) ?_)
              refine JL_op rfl (op_read rfl rfl (r_assign (v := .int .i64 (IntKind.i64.wrap (x_81.2 + 1))) rfl) ?_)
              refine JL_nil ?_
              refine J_next _ ?_ ⟨v_153, (FS.le.trans hle_83 hle_152), rfl, rfl⟩
              exact ⟨rfl, rfl, rfl, trivial⟩
            · obtain ⟨rfl, ht⟩ := ht
              revert ht; revert PV; revert τ; revert b; revert L
              rintro _ b s_155 _ ⟨hle_156, rfl, rfl⟩
              refine J_in_ret ?_
              refine J_in_ret ?_
              refine J_then_ret ?_
              refine J_done trivial _ ?_ ⟨rfl, (FS.le.trans hle_83 hle_156), rfl, rfl⟩
              exact ⟨rfl, rfl, trivial⟩
        · refine J_exit ?_
          refine J_then_exit ?_
          refine J_done trivial _ ?_ ⟨rfl, v_84, hle_83, rfl, rfl⟩
          exact ⟨rfl, trivial⟩
      · rintro (y_158 | y_162) e L b τ PV ht
        · obtain ⟨rfl, ht⟩ := ht
          revert ht; revert PV; revert τ; revert b; revert L
          rintro _ b s_159 _ ⟨v_161, hle_160, rfl, rfl⟩
          refine J_in_exit ?_
          refine J_then ?_
          refine J_seq ?_
          refine J_region ?_
          refine JL_op rfl (op_read rfl rfl (r_move (v := v_161) rfl) ?_)
          refine JL_op rfl (op_read rfl rfl (r_assign (v := v_161) rfl) ?_)
          refine JL_op rfl (op_read rfl rfl (r_assign (v := .bool true) rfl) ?_)
          refine JL_nil ?_
          refine J_then ?_
          refine J_ret ?_
          exact J_return2 rfl ⟨_, rfl, rfl⟩
        · obtain ⟨rfl, ht⟩ := ht
          revert ht; revert PV; revert τ; revert b; revert L
          rintro _ b s_163 _ ⟨hle_164, rfl, rfl⟩
          refine J_in_ret ?_
          refine J_then_ret ?_
          refine J_nil_row (tInt .i64) 2 ?_
          exact J_return2 rfl ⟨_, rfl, rfl⟩
def lychgateref04_Plain_post (r : (Sl Int) × Bool) (σ : FS) (PV : List Priv) (v : Value) : Prop :=
  ∃ v0 : Value, v = .tuple #[v0, .bool r.2] ∧ PV = [.row Int (tInt .i64) 2 v0 r.1]
set_option maxRecDepth 100000 in
theorem lychgateref04_Plain_ref (w : World) (σ : FS) (hs : σ.sub w) (n_1 : Int) (v_3 : Value) (facts_2 : Sl Glychgateref04_Leq) (h_4 : (tSl t_Glychgateref04_Leq).vrel σ v_3 facts_2) (r : (Sl Int) × Bool) (hr : lychgateref04_Plain n_1 facts_2 = some r) : Does Try.prog 14 [.int .i64 n_1, v_3] w σ (lychgateref04_Plain_post r) := by
  unfold lychgateref04_Plain at hr
  refine does_of_J Try.func14 rfl (n := 75) rfl rfl hs hr ?_
  refine J_seq ?_
  refine J_region ?_
  refine JL_op rfl (op_read rfl rfl (r_assign (v := .slice none 0 0) rfl) ?_)
  refine JL_op rfl (op_read rfl rfl (r_assign (v := .bool false) rfl) ?_)
  refine JL_nil ?_
  refine J_then ?_
  refine J_seq ?_
  refine J_region ?_
  refine JL_op rfl (op_read rfl rfl (r_move (v := .int .i64 n_1) rfl) ?_)
  refine JL_op rfl (op_read rfl rfl (r_move (v := v_3) rfl) ?_)
  refine JL_op rfl (op_call (f := 20) (fn := Try.f20) (args := [.int .i64 n_1, v_3]) (post := lychgateref04_Table_post) rfl rfl rfl Try.func20 Try.pn20 rfl rfl (fun y w hy hs => lychgateref04_Table_ref w _ hs n_1 v_3 facts_2 h_4 y hy) ?_)
  intro r_5 v_7 s_8 PV_10 hy_6 hle_9 hp_11
  obtain ⟨v_12, rfl, rfl⟩ := hp_11
  refine JL_op rfl (op_read rfl rfl (r_move (v := .tuple #[v_12, .bool r_5.2]) rfl) ?_)
  refine JL_op rfl (op_read rfl rfl (r_extract (v := v_12) rfl rfl) ?_)
  refine JL_op rfl (op_read rfl rfl (r_extract (v := .bool r_5.2) rfl rfl) ?_)
  refine JL_op rfl (op_read rfl rfl (r_assign (v := v_12) rfl) ?_)
  refine JL_op rfl (op_read rfl rfl (r_assign (v := .bool r_5.2) rfl) ?_)
  refine JL_nil ?_
  refine J_then ?_
  refine J_seq ?_
  refine J_seq ?_
  refine J_region ?_
  refine JL_op rfl (op_read rfl rfl (r_move (v := .bool r_5.2) rfl) ?_)
  refine JL_op rfl (op_read rfl rfl (r_not rfl) ?_)
  refine JL_nil ?_
  refine J_then ?_
  refine J_cond rfl (fun hc_14 => ?_) (fun hc_14 => ?_)
  · refine J_seq ?_
    refine J_region ?_
    refine JL_op rfl (op_read rfl rfl (r_assign (v := .slice none 0 0) rfl) ?_)
    refine JL_op rfl (op_read rfl rfl (r_assign (v := .bool false) rfl) ?_)
    refine JL_nil ?_
    refine J_then ?_
    refine J_ret ?_
    refine J_then_ret ?_
    refine J_nil_row (tInt .i64) 2 ?_
    refine J_select (PV' := [.row Int (tInt .i64) 2 (.slice none 0 0) (⟨[], false⟩ : Sl Int)]) [0] (by decide) rfl ?_
    exact J_return2 rfl ⟨_, rfl, rfl⟩
  · refine J_skip ?_
    refine J_then ?_
    refine J_seq ?_
    refine J_region ?_
    refine JL_op rfl (op_read rfl rfl (r_move (v := .int .i64 n_1) rfl) ?_)
    refine JL_op rfl (op_make (T := (tInt .i64)) (q := 0) rfl Try.pu23 Try.pi2 rfl rfl rfl rfl rfl (fun σ => rfl) ?_)
    intro s_16 v_18 hm_17
    refine JL_op rfl (op_read rfl rfl (r_assign (v := v_18) rfl) ?_)
    refine JL_nil ?_
    refine J_then ?_
    refine J_seq ?_
    refine J_seq ?_
    refine J_region ?_
    refine JL_op rfl (op_read rfl rfl (r_assign (v := .int .i64 0) rfl) ?_)
    refine JL_nil ?_
    refine J_then ?_
    refine J_block ?_
    refine J_loop (fun (y : (Sl Int) × Int) L τ PV => ∃ (w0 : Value), s_8.le τ ∧ L = [(0, .int .i64 n_1), (6, v_12), (8, w0), (9, .int .i64 y.2)] ∧ PV = [.row Int (tInt .i64) 2 w0 y.1, .row Int (tInt .i64) 2 v_12 r_5.1]) (fun (y : (Sl Int)) e L τ PV => e = .exit 0 ∧ (∃ (w0 : Value), s_8.le τ ∧ L = [(0, .int .i64 n_1), (8, w0)] ∧ PV = [.row Int (tInt .i64) 2 w0 y])) _ ?_ ⟨v_18, (FS.le.refl _), rfl, rfl⟩ ?_ ?_
    · exact ⟨rfl, rfl, rfl, rfl, trivial⟩
    · rintro x_20 _ b s_21 _ ⟨v_23, hle_22, rfl, rfl⟩
      unfold lychgateref04_Plain_L2
      refine J_seq ?_
      refine J_seq ?_
      refine J_region ?_
      refine JL_op rfl (op_read rfl rfl (r_move (v := .int .i64 x_20.2) rfl) ?_)
      refine JL_op rfl (op_read rfl rfl (r_move (v := .int .i64 n_1) rfl) ?_)
      refine JL_op rfl (op_read rfl rfl (r_lss rfl rfl) ?_)
      refine JL_nil ?_
      refine J_then ?_
      refine J_cond rfl (fun hc_24 => ?_) (fun hc_24 => ?_)
      · refine J_skip ?_
        refine J_then ?_
        refine J_seq ?_
        refine J_block ?_
        refine J_seq ?_
        refine J_region ?_
        refine JL_op rfl (op_read rfl rfl (r_assign (v := .int .i64 0) rfl) ?_)
        refine JL_nil ?_
        refine J_then ?_
        refine J_block ?_
        refine J_loop (fun (y : (Sl Int) × Int) L τ PV => ∃ (w0 : Value), s_21.le τ ∧ L = [(0, .int .i64 n_1), (6, v_12), (8, w0), (9, .int .i64 x_20.2), (10, .int .i64 y.2)] ∧ PV = [.row Int (tInt .i64) 2 w0 y.1, .row Int (tInt .i64) 2 v_12 r_5.1]) (fun (y : (Sl Int)) e L τ PV => e = .exit 2 ∧ (∃ (w0 : Value), s_21.le τ ∧ L = [(0, .int .i64 n_1), (6, v_12), (8, w0), (9, .int .i64 x_20.2)] ∧ PV = [.row Int (tInt .i64) 2 w0 y, .row Int (tInt .i64) 2 v_12 r_5.1])) _ ?_ ⟨v_23, (FS.le.refl _), rfl, rfl⟩ ?_ ?_
        · exact ⟨rfl, rfl, rfl, rfl, rfl, trivial⟩
        · rintro x_25 _ b s_26 _ ⟨v_28, hle_27, rfl, rfl⟩
          unfold lychgateref04_Plain_L1
          refine J_seq ?_
          refine J_seq ?_
          refine J_region ?_
          refine JL_op rfl (op_read rfl rfl (r_move (v := .int .i64 x_25.2) rfl) ?_)
          refine JL_op rfl (op_read rfl rfl (r_move (v := .int .i64 n_1) rfl) ?_)
          refine JL_op rfl (op_read rfl rfl (r_lss rfl rfl) ?_)
          refine JL_nil ?_
          refine J_then ?_
          refine J_cond rfl (fun hc_29 => ?_) (fun hc_29 => ?_)
          · refine J_skip ?_
            refine J_then ?_
            refine J_seq ?_
            refine J_cut (fun (y : (Sl Int)) e L τ PV => e = .normal ∧ (∃ (w0 : Value), s_26.le τ ∧ L = [(0, .int .i64 n_1), (6, v_12), (8, w0), (9, .int .i64 x_20.2), (10, .int .i64 x_25.2)] ∧ PV = [.row Int (tInt .i64) 2 w0 y, .row Int (tInt .i64) 2 v_12 r_5.1])) ?_ ?_
            · refine J_block ?_
              refine J_seq ?_
              refine J_region_any [.row Int (tInt .i64) 2 v_28 x_25.1, .row Int (tInt .i64) 2 v_12 r_5.1] Try.mixed (by kernel_rfl) fun hns => ?_
              have hS_30 : HeldOK s_26 [.row Int (tInt .i64) 2 v_28 x_25.1, .row Int (tInt .i64) 2 v_12 r_5.1] s_26 [.row Int (tInt .i64) 2 v_28 x_25.1, .row Int (tInt .i64) 2 v_12 r_5.1] := HeldOK.same ⟨⟨0, rfl⟩, ⟨1, rfl⟩, trivial⟩
              refine JA_take 0 rfl hns (by kernel_rfl) (by kernel_rfl) hS_30 rfl rfl rfl (r_move (v := v_12) rfl) ?_
              refine JA_take 1 rfl hns (by kernel_rfl) (by kernel_rfl) hS_30 rfl rfl rfl (r_move (v := .int .i64 x_20.2) rfl) ?_
              refine JA_take 2 rfl hns (by kernel_rfl) (by kernel_rfl) hS_30 rfl rfl rfl (r_move (v := .int .i64 n_1) rfl) ?_
              refine JA_take 3 rfl hns (by kernel_rfl) (by kernel_rfl) hS_30 rfl rfl rfl (r_mul rfl rfl) ?_
              refine JA_take 4 rfl hns (by kernel_rfl) (by kernel_rfl) hS_30 rfl rfl rfl (r_move (v := .int .i64 x_25.2) rfl) ?_
              refine JA_take 5 rfl hns (by kernel_rfl) (by kernel_rfl) hS_30 rfl rfl rfl (r_add rfl rfl) ?_
              refine J_bind fun x_31 hx_32 => ?_
              refine JA_take 6 rfl hns (by kernel_rfl) (by kernel_rfl) hS_30 rfl rfl rfl (r_index_row (v := v_12) (T := (tInt .i64)) (q := x_31) 1 Try.pu23 Try.pi2 rfl rfl rfl rfl hx_32) ?_
              refine JA_takes 7 rfl hns (by kernel_rfl) (by kernel_rfl) hS_30 rfl rfl rfl (l_elem_row (v := v_12) (T := (tInt .i64)) (Tf := (tInt .i64)) (q := x_31) (i := (IntKind.i64.wrap ((IntKind.i64.wrap (x_20.2 * n_1)) + x_25.2))) (off := 0) 1 Try.pu2 Try.pi2 rfl rfl rfl rfl hx_32 (FieldAt.self _) (by decide)) ?_
              intro v_33 h_34
              obtain rfl := tInt_v.1 h_34
              refine JA_take 8 rfl hns (by kernel_rfl) (by kernel_rfl) hS_30 rfl rfl rfl (r_move (v := v_28) rfl) ?_
              refine JA_take 9 rfl hns (by kernel_rfl) (by kernel_rfl) hS_30 rfl rfl rfl (r_move (v := .int .i64 x_20.2) rfl) ?_
              refine J_bind fun x_35 hx_36 => ?_
              refine JA_take 10 rfl hns (by kernel_rfl) (by kernel_rfl) hS_30 rfl rfl rfl (r_index_row (v := v_28) (T := (tInt .i64)) (q := x_35) 0 Try.pu23 Try.pi2 rfl rfl rfl rfl hx_36) ?_
              refine JA_takes 11 rfl hns (by kernel_rfl) (by kernel_rfl) hS_30 rfl rfl rfl (l_elem_row (v := v_28) (T := (tInt .i64)) (Tf := (tInt .i64)) (q := x_35) (i := x_20.2) (off := 0) 0 Try.pu2 Try.pi2 rfl rfl rfl rfl hx_36 (FieldAt.self _) (by decide)) ?_
              intro v_37 h_38
              obtain rfl := tInt_v.1 h_38
              refine JA_take 12 rfl hns (by kernel_rfl) (by kernel_rfl) hS_30 rfl rfl rfl (r_lss rfl rfl) ?_
              refine JA_done (by kernel_rfl) ?_
              refine J_then ?_
              refine J_cut (fun (y : (Sl Int)) e L τ PV => e = .normal ∧ (∃ (w0 : Value), s_26.le τ ∧ L = [(0, .int .i64 n_1), (6, v_12), (8, w0), (9, .int .i64 x_20.2), (10, .int .i64 x_25.2)] ∧ PV = [.row Int (tInt .i64) 2 w0 y, .row Int (tInt .i64) 2 v_12 r_5.1])) ?_ ?_
              · refine J_cond rfl (fun hc_39 => ?_) (fun hc_39 => ?_)
                · refine J_region ?_
                  refine JL_op rfl (op_read rfl rfl (r_move (v := v_28) rfl) ?_)
                  refine JL_op rfl (op_read rfl rfl (r_move (v := .int .i64 x_20.2) rfl) ?_)
                  refine JL_op rfl (op_read rfl rfl (r_move (v := v_12) rfl) ?_)
                  refine JL_op rfl (op_read rfl rfl (r_move (v := .int .i64 x_20.2) rfl) ?_)
                  refine JL_op rfl (op_read rfl rfl (r_move (v := .int .i64 n_1) rfl) ?_)
                  refine JL_op rfl (op_read rfl rfl (r_mul rfl rfl) ?_)
                  refine JL_op rfl (op_read rfl rfl (r_move (v := .int .i64 x_25.2) rfl) ?_)
                  refine JL_op rfl (op_read rfl rfl (r_add rfl rfl) ?_)
                  refine J_bind fun x_40 hx_41 => ?_
                  refine JL_op rfl (op_read rfl rfl (r_index_row (v := v_12) (T := (tInt .i64)) (q := x_40) 1 Try.pu23 Try.pi2 rfl rfl rfl rfl hx_41) ?_)
                  refine JL_op rfl (op_reads rfl rfl (l_elem_row (v := v_12) (T := (tInt .i64)) (Tf := (tInt .i64)) (q := x_40) (i := (IntKind.i64.wrap ((IntKind.i64.wrap (x_20.2 * n_1)) + x_25.2))) (off := 0) 1 Try.pu2 Try.pi2 rfl rfl rfl rfl hx_41 (FieldAt.self _) (by decide)) ?_)
                  intro v_42 h_43
                  obtain rfl := tInt_v.1 h_43
                  refine J_bind fun x_44 hx_45 => ?_
                  refine JL_op rfl (op_read rfl rfl (r_index_row (v := v_28) (T := (tInt .i64)) (q := x_44) 0 Try.pu23 Try.pi2 rfl rfl rfl rfl hx_45) ?_)
                  refine JL_op rfl (op_store_row (v := v_28) (u := .int .i64 x_40) (T := (tInt .i64)) (q := x_40) (i := x_20.2) 0 Try.pi2 rfl rfl rfl (tInt_v.2 rfl) rfl ?_)
                  intro s_46 hs_47
                  refine JL_nil ?_
                  refine J_cut_end _ ?_ ⟨rfl, v_28, (FS.le.refl _), rfl, rfl⟩ trivial
                  exact ⟨rfl, rfl, rfl, rfl, rfl, trivial⟩
                · refine J_skip ?_
                  refine J_cut_end _ ?_ ⟨rfl, v_28, (FS.le.refl _), rfl, rfl⟩ trivial
                  exact ⟨rfl, rfl, rfl, rfl, rfl, trivial⟩
              · rintro y_48 _ _ b s_49 _ ⟨rfl, ⟨v_51, hle_50, rfl, rfl⟩⟩
                refine J_in_normal ?_
                refine J_cut_end _ ?_ ⟨rfl, v_51, hle_50, rfl, rfl⟩ trivial
                exact ⟨rfl, rfl, rfl, rfl, rfl, trivial⟩
            · rintro y_52 _ _ b s_53 _ ⟨rfl, ⟨v_55, hle_54, rfl, rfl⟩⟩
              refine J_then ?_
              refine J_region ?_
              refine JL_op rfl (op_read rfl rfl (r_move (v := .int .i64 x_25.2) rfl) ?_)
              refine JL_op rfl (op_read rfl rfl (r_add rfl rfl) ?_)
              refine JL_op rfl (op_read rfl rfl (r_assign (v := .int .i64 (IntKind.i64.wrap (x_25.2 + 1))) rfl) ?_)
              refine JL_nil ?_
              refine J_next _ ?_ ⟨v_55, (FS.le.trans hle_27 hle_54), rfl, rfl⟩
              exact ⟨rfl, rfl, rfl, rfl, rfl, trivial⟩
          · refine J_exit ?_
            refine J_then_exit ?_
            refine J_done trivial _ ?_ ⟨rfl, v_28, hle_27, rfl, rfl⟩
            exact ⟨rfl, rfl, rfl, rfl, trivial⟩
        · rintro y_56 _ _ b s_57 _ ⟨rfl, ⟨v_59, hle_58, rfl, rfl⟩⟩
          refine J_in_exit ?_
          refine J_in_normal ?_
          refine J_then ?_
          refine J_region ?_
          refine JL_op rfl (op_read rfl rfl (r_move (v := .int .i64 x_20.2) rfl) ?_)
          refine JL_op rfl (op_read rfl rfl (r_add rfl rfl) ?_)
          refine JL_op rfl (op_read rfl rfl (r_assign (v := .int .i64 (IntKind.i64.wrap (x_20.2 + 1))) rfl) ?_)
          refine JL_nil ?_
          refine J_next _ ?_ ⟨v_59, (FS.le.trans hle_22 hle_58), rfl, rfl⟩
          exact ⟨rfl, rfl, rfl, rfl, trivial⟩
      · refine J_exit ?_
        refine J_then_exit ?_
        refine J_select (PV' := [.row Int (tInt .i64) 2 v_23 x_20.1]) [0] (by decide) rfl ?_
        refine J_done trivial _ ?_ ⟨rfl, v_23, hle_22, rfl, rfl⟩
        exact ⟨rfl, rfl, trivial⟩
    · rintro y_60 _ _ b s_61 _ ⟨rfl, ⟨v_63, hle_62, rfl, rfl⟩⟩
      refine J_in_exit ?_
      refine J_then ?_
      refine J_seq ?_
      refine J_region ?_
      refine JL_op rfl (op_read rfl rfl (r_move (v := v_63) rfl) ?_)
      refine J_bind fun x_64 hx_65 => ?_
      refine JL_op rfl (op_read rfl rfl (r_index_row (v := v_63) (T := (tInt .i64)) (q := x_64) 0 Try.pu23 Try.pi2 rfl rfl rfl rfl hx_65) ?_)
      refine JL_op rfl (op_reads rfl rfl (l_elem_row (v := v_63) (T := (tInt .i64)) (Tf := (tInt .i64)) (q := x_64) (i := 0) (off := 0) 0 Try.pu2 Try.pi2 rfl rfl rfl rfl hx_65 (FieldAt.self _) (by decide)) ?_)
      intro v_66 h_67
      obtain rfl := tInt_v.1 h_67
      refine JL_op rfl (op_read rfl rfl (r_assign (v := .int .i64 x_64) rfl) ?_)
      refine JL_nil ?_
      refine J_then ?_
      refine J_seq ?_
      refine J_seq ?_
      refine J_region ?_
      refine JL_op rfl (op_read rfl rfl (r_assign (v := .int .i64 0) rfl) ?_)
      refine JL_nil ?_
      refine J_then ?_
      refine J_block ?_
      refine J_loop (fun (y : (Sl Int) × Int) L τ PV => ∃ (w0 : Value), s_61.le τ ∧ L = [(0, .int .i64 n_1), (8, w0), (11, .int .i64 x_64), (12, .int .i64 y.2)] ∧ PV = [.row Int (tInt .i64) 2 w0 y.1]) (fun (y : (Sl Int)) e L τ PV => e = .exit 4 ∧ (∃ (w0 : Value), s_61.le τ ∧ L = [(8, w0)] ∧ PV = [.row Int (tInt .i64) 2 w0 y])) _ ?_ ⟨v_63, (FS.le.refl _), rfl, rfl⟩ ?_ ?_
      · exact ⟨rfl, rfl, rfl, rfl, trivial⟩
      · rintro x_68 _ b s_69 _ ⟨v_71, hle_70, rfl, rfl⟩
        unfold lychgateref04_Plain_L3
        refine J_seq ?_
        refine J_seq ?_
        refine J_region ?_
        refine JL_op rfl (op_read rfl rfl (r_move (v := .int .i64 x_68.2) rfl) ?_)
        refine JL_op rfl (op_read rfl rfl (r_move (v := .int .i64 n_1) rfl) ?_)
        refine JL_op rfl (op_read rfl rfl (r_lss rfl rfl) ?_)
        refine JL_nil ?_
        refine J_then ?_
        refine J_cond rfl (fun hc_72 => ?_) (fun hc_72 => ?_)
        · refine J_skip ?_
          refine J_then ?_
          refine J_seq ?_
          refine J_block ?_
          refine J_region ?_
          refine JL_op rfl (op_read rfl rfl (r_move (v := v_71) rfl) ?_)
          refine JL_op rfl (op_read rfl rfl (r_move (v := .int .i64 x_68.2) rfl) ?_)
          refine JL_op rfl (op_read rfl rfl (r_move (v := v_71) rfl) ?_)
          refine JL_op rfl (op_read rfl rfl (r_move (v := .int .i64 x_68.2) rfl) ?_)
          refine J_bind fun x_73 hx_74 => ?_
          refine JL_op rfl (op_read rfl rfl (r_index_row (v := v_71) (T := (tInt .i64)) (q := x_73) 0 Try.pu23 Try.pi2 rfl rfl rfl rfl hx_74) ?_)
          refine JL_op rfl (op_reads rfl rfl (l_elem_row (v := v_71) (T := (tInt .i64)) (Tf := (tInt .i64)) (q := x_73) (i := x_68.2) (off := 0) 0 Try.pu2 Try.pi2 rfl rfl rfl rfl hx_74 (FieldAt.self _) (by decide)) ?_)
          intro v_75 h_76
          obtain rfl := tInt_v.1 h_76
          refine JL_op rfl (op_read rfl rfl (r_move (v := .int .i64 x_64) rfl) ?_)
          refine JL_op rfl (op_read rfl rfl (r_sub rfl rfl) ?_)
          refine J_bind fun x_77 hx_78 => ?_
          refine JL_op rfl (op_read rfl rfl (r_index_row (v := v_71) (T := (tInt .i64)) (q := x_77) 0 Try.pu23 Try.pi2 rfl rfl rfl rfl hx_78) ?_)
          refine JL_op rfl (op_store_row (v := v_71) (u := .int .i64 (IntKind.i64.wrap (x_73 - x_64))) (T := (tInt .i64)) (q := (IntKind.i64.wrap (x_73 - x_64))) (i := x_68.2) 0 Try.pi2 rfl rfl rfl (tInt_v.2 rfl) rfl ?_)
          intro s_79 hs_80
          refine JL_nil ?_
          refine J_in_normal ?_
          refine J_then ?_
          refine J_region ?_
          refine JL_op rfl (op_read rfl rfl (r_move (v := .int .i64 x_68.2) rfl) ?_)
          refine JL_op rfl (op_read rfl rfl (r_add rfl rfl) ?_)
          refine JL_op rfl (op_read rfl rfl (r_assign (v := .int .i64 (IntKind.i64.wrap (x_68.2 + 1))) rfl) ?_)
          refine JL_nil ?_
          refine J_next _ ?_ ⟨v_71, hle_70, rfl, rfl⟩
          exact ⟨rfl, rfl, rfl, rfl, trivial⟩
        · refine J_exit ?_
          refine J_then_exit ?_
          refine J_done trivial _ ?_ ⟨rfl, v_71, hle_70, rfl, rfl⟩
          exact ⟨rfl, trivial⟩
      · rintro y_81 _ _ b s_82 _ ⟨rfl, ⟨v_84, hle_83, rfl, rfl⟩⟩
        refine J_in_exit ?_
        refine J_then ?_
        refine J_seq ?_
        refine J_region ?_
        refine JL_op rfl (op_read rfl rfl (r_move (v := v_84) rfl) ?_)
        refine JL_op rfl (op_read rfl rfl (r_assign (v := v_84) rfl) ?_)
        refine JL_op rfl (op_read rfl rfl (r_assign (v := .bool true) rfl) ?_)
        refine JL_nil ?_
        refine J_then ?_
        refine J_ret ?_
        exact J_return2 rfl ⟨_, rfl, rfl⟩
def lychgatelaw04_circle_post (r : Bool) (σ : FS) (PV : List Priv) (v : Value) : Prop :=
  v = .bool r ∧ PV = []
set_option maxRecDepth 100000 in
theorem lychgatelaw04_circle_ref (w : World) (σ : FS) (hs : σ.sub w) (v_2 : Value) (facts_1 : Sl Gdiff_Leq) (h_3 : (tSl t_Gdiff_Leq).vrel σ v_2 facts_1) (v_5 : Value) (cycle_4 : Sl Int) (h_6 : (tSl (tInt .i64)).vrel σ v_5 cycle_4) (r : Bool) (hr : lychgatelaw04_circle facts_1 cycle_4 = some r) : Does Try.prog 15 [v_2, v_5] w σ (lychgatelaw04_circle_post r) := by
  unfold lychgatelaw04_circle at hr
  refine does_of_J Try.func15 rfl (n := 68) rfl rfl hs hr ?_
  refine J_seq ?_
  refine J_region ?_
  refine JL_op rfl (op_read rfl rfl (r_assign (v := .bool false) rfl) ?_)
  refine JL_nil ?_
  refine J_then ?_
  refine J_seq ?_
  refine J_region ?_
  refine JL_op rfl (op_read rfl rfl (r_assign (v := .int .i64 0) rfl) ?_)
  refine JL_nil ?_
  refine J_then ?_
  refine J_seq ?_
  refine J_seq ?_
  refine J_region ?_
  refine JL_op rfl (op_read rfl rfl (r_move (v := v_5) rfl) ?_)
  refine JL_op rfl (op_read rfl rfl (r_len_frozen (v := v_5) Try.pu24 rfl h_6) ?_)
  refine JL_op rfl (op_read rfl rfl (r_move (v := .int .i64 0) rfl) ?_)
  refine JL_nil ?_
  refine J_then ?_
  refine J_block ?_
  refine J_loop (fun (y : Int × Int) L τ PV => σ.le τ ∧ L = [(0, v_2), (1, v_5), (5, .int .i64 y.1), (9, v_5), (10, .int .i64 cycle_4.len), (11, .int .i64 y.2)] ∧ PV = []) (fun (y : W2 Int Unit) e L τ PV => match y, e with | .a y, e => e = .exit 0 ∧ (σ.le τ ∧ L = [(1, v_5), (5, .int .i64 y)] ∧ PV = []) | .b y, e => e = .ret ∧ (σ.le τ ∧ L = [(4, .bool false)] ∧ PV = [])) _ ?_ ⟨(FS.le.refl _), rfl, rfl⟩ ?_ ?_
  · exact ⟨rfl, rfl, rfl, rfl, rfl, rfl, trivial⟩
  · rintro x_7 _ b s_8 _ ⟨hle_9, rfl, rfl⟩
    unfold lychgatelaw04_circle_L1
    refine J_seq ?_
    refine J_region ?_
    refine JL_op rfl (op_read rfl rfl (r_lss rfl rfl) ?_)
    refine JL_nil ?_
    refine J_then ?_
    refine J_seq ?_
    refine J_cond rfl (fun hc_10 => ?_) (fun hc_10 => ?_)
    · refine J_skip ?_
      refine J_then ?_
      refine J_seq ?_
      refine J_block ?_
      refine J_seq ?_
      refine J_region ?_
      refine JL_op rfl (op_read rfl rfl (r_move (v := .int .i64 x_7.2) rfl) ?_)
      refine J_bind fun x_11 hx_12 => ?_
      refine JL_op rfl (op_read rfl rfl (r_index_frozen (v := v_5) (T := (tInt .i64)) (q := x_11) Try.pu24 Try.pi3 rfl rfl rfl (Ty.vmono _ hle_9 h_6) hx_12) ?_)
      refine JL_op rfl (op_reads rfl rfl (l_elem_frozen (v := v_5) (T := (tInt .i64)) (Tf := (tInt .i64)) (q := x_11) (i := x_7.2) (off := 0) Try.pu3 Try.pi3 rfl rfl rfl (Ty.vmono _ hle_9 h_6) hx_12 (FieldAt.self _) (by decide)) ?_)
      intro v_13 h_14
      obtain rfl := tInt_v.1 h_14
      refine JL_op rfl (op_read rfl rfl (r_assign (v := .int .i64 x_7.2) rfl) ?_)
      refine JL_op rfl (op_read rfl rfl (r_assign (v := .int .i64 x_11) rfl) ?_)
      refine JL_nil ?_
      refine J_then ?_
      refine J_seq ?_
      refine J_seq ?_
      refine J_region ?_
      refine JL_op rfl (op_read rfl rfl (r_move (v := .int .i64 x_11) rfl) ?_)
      refine JL_op rfl (op_read rfl rfl (r_lss rfl rfl) ?_)
      refine JL_op rfl (op_read rfl rfl (r_move (v := .bool (decide (x_11 < 0))) rfl) ?_)
      refine J_forkL (e := (decide (x_11 < 0))) 5 [(0, v_2), (1, v_5), (5, .int .i64 x_7.1), (6, .int .i64 x_7.2), (7, .int .i64 x_11), (9, v_5), (10, .int .i64 cycle_4.len), (11, .int .i64 x_7.2), (23, .bool (decide (x_11 < 0) || decide (facts_1.len ≤ x_11)))] (fun hc_15 hk => ?_) (fun hc_15 hk => ?_) (fun b => ?_)
      · refine JL_skip rfl rfl hc_15 rfl rfl ?_
        refine JL_skip rfl rfl hc_15 rfl rfl ?_
        refine JL_skip rfl rfl hc_15 rfl rfl ?_
        refine JL_skip rfl rfl hc_15 rfl rfl ?_
        refine JL_op rfl (op_read rfl rfl (r_pick_t (v := .bool true) rfl hc_15 rfl) ?_)
        refine J_prune [(0, v_2), (1, v_5), (5, .int .i64 x_7.1), (6, .int .i64 x_7.2), (7, .int .i64 x_11), (9, v_5), (10, .int .i64 cycle_4.len), (11, .int .i64 x_7.2), (23, .bool (decide (x_11 < 0) || decide (facts_1.len ≤ x_11)))] ⟨rfl, rfl, rfl, rfl, rfl, rfl, rfl, rfl, (by show Value.bool _ = Value.bool _; rw [hc_15]; rfl), trivial⟩ hk
      · refine JL_opg rfl rfl hc_15 (op_read rfl rfl (r_move (v := .int .i64 x_11) rfl) ?_)
        refine JL_opg rfl rfl hc_15 (op_read rfl rfl (r_move (v := v_2) rfl) ?_)
        refine JL_opg rfl rfl hc_15 (op_read rfl rfl (r_len_frozen (v := v_2) Try.pu22 rfl (Ty.vmono _ hle_9 h_3)) ?_)
        refine JL_opg rfl rfl hc_15 (op_read rfl rfl (r_geq rfl rfl) ?_)
        refine JL_op rfl (op_read rfl rfl (r_pick_f (v := .bool (decide (facts_1.len ≤ x_11))) rfl hc_15 rfl) ?_)
        refine J_prune [(0, v_2), (1, v_5), (5, .int .i64 x_7.1), (6, .int .i64 x_7.2), (7, .int .i64 x_11), (9, v_5), (10, .int .i64 cycle_4.len), (11, .int .i64 x_7.2), (23, .bool (decide (x_11 < 0) || decide (facts_1.len ≤ x_11)))] ⟨rfl, rfl, rfl, rfl, rfl, rfl, rfl, rfl, (by show Value.bool _ = Value.bool _; rw [hc_15]; rfl), trivial⟩ hk
      · refine JL_nil ?_
        refine J_then ?_
        refine J_cond rfl (fun hc_16 => ?_) (fun hc_16 => ?_)
        · refine J_seq ?_
          refine J_region ?_
          refine JL_op rfl (op_read rfl rfl (r_assign (v := .bool false) rfl) ?_)
          refine JL_nil ?_
          refine J_then ?_
          refine J_ret ?_
          refine J_then_ret ?_
          refine J_in_ret ?_
          refine J_then_ret ?_
          refine J_done trivial _ ?_ ⟨rfl, hle_9, rfl, rfl⟩
          exact ⟨rfl, trivial⟩
        · refine J_skip ?_
          refine J_then ?_
          refine J_seq ?_
          refine J_region ?_
          refine JL_op rfl (op_read rfl rfl (r_move (v := v_5) rfl) ?_)
          refine JL_op rfl (op_read rfl rfl (r_move (v := .int .i64 x_7.2) rfl) ?_)
          refine JL_op rfl (op_read rfl rfl (r_add rfl rfl) ?_)
          refine JL_op rfl (op_read rfl rfl (r_move (v := v_5) rfl) ?_)
          refine JL_op rfl (op_read rfl rfl (r_len_frozen (v := v_5) Try.pu24 rfl (Ty.vmono _ hle_9 h_6)) ?_)
          refine J_bind fun q_17 hq_18 => ?_
          refine JL_op rfl (op_read rfl rfl (r_rem rfl rfl hq_18) ?_)
          refine J_bind fun x_19 hx_20 => ?_
          refine JL_op rfl (op_read rfl rfl (r_index_frozen (v := v_5) (T := (tInt .i64)) (q := x_19) Try.pu24 Try.pi3 rfl rfl rfl (Ty.vmono _ hle_9 h_6) hx_20) ?_)
          refine JL_op rfl (op_reads rfl rfl (l_elem_frozen (v := v_5) (T := (tInt .i64)) (Tf := (tInt .i64)) (q := x_19) (i := q_17) (off := 0) Try.pu3 Try.pi3 rfl rfl rfl (Ty.vmono _ hle_9 h_6) hx_20 (FieldAt.self _) (by decide)) ?_)
          intro v_21 h_22
          obtain rfl := tInt_v.1 h_22
          refine JL_op rfl (op_read rfl rfl (r_assign (v := .int .i64 x_19) rfl) ?_)
          refine JL_nil ?_
          refine J_then ?_
          refine J_seq ?_
          refine J_seq ?_
          refine J_region_any [] Try.mixed (by kernel_rfl) fun hns => ?_
          have hS_23 : HeldOK s_8 [] s_8 [] := HeldOK.same trivial
          refine JA_take 0 rfl hns (by kernel_rfl) (by kernel_rfl) hS_23 rfl rfl rfl (r_move (v := .int .i64 x_19) rfl) ?_
          refine JA_take 1 rfl hns (by kernel_rfl) (by kernel_rfl) hS_23 rfl rfl rfl (r_lss rfl rfl) ?_
          refine JA_take 2 rfl hns (by kernel_rfl) (by kernel_rfl) hS_23 rfl rfl rfl (r_move (v := .bool (decide (x_19 < 0))) rfl) ?_
          refine J_forkA (e := (decide (x_19 < 0))) 13 #[true, true, true, true, true, true, true, true, false, false, false, false, false, false, false, false, false, false, false, false, false] [(0, v_2), (1, v_5), (5, .int .i64 x_7.1), (7, .int .i64 x_11), (8, .int .i64 x_19), (9, v_5), (10, .int .i64 cycle_4.len), (11, .int .i64 x_7.2), (39, .bool (decide (x_19 < 0) || decide (facts_1.len ≤ x_19)))] (fun hc_24 hk => ?_) (fun hc_24 hk => ?_) (fun b => ?_)
          · refine JA_skip (y := some (decide (x_19 < 0))) 3 rfl hns (by kernel_rfl) (by kernel_rfl) hS_23 rfl rfl (by rw [hc_24]; decide) rfl rfl ?_
            refine JA_skip (y := some (decide (x_19 < 0))) 4 rfl hns (by kernel_rfl) (by kernel_rfl) hS_23 rfl rfl (by rw [hc_24]; decide) rfl rfl ?_
            refine JA_skip (y := some (decide (x_19 < 0))) 5 rfl hns (by kernel_rfl) (by kernel_rfl) hS_23 rfl rfl (by rw [hc_24]; decide) rfl rfl ?_
            refine JA_skip (y := some (decide (x_19 < 0))) 6 rfl hns (by kernel_rfl) (by kernel_rfl) hS_23 rfl rfl (by rw [hc_24]; decide) rfl rfl ?_
            refine JA_take 7 rfl hns (by kernel_rfl) (by kernel_rfl) hS_23 rfl rfl rfl (r_pick_t (v := .bool true) rfl hc_24 rfl) ?_
            refine J_prune [(0, v_2), (1, v_5), (5, .int .i64 x_7.1), (7, .int .i64 x_11), (8, .int .i64 x_19), (9, v_5), (10, .int .i64 cycle_4.len), (11, .int .i64 x_7.2), (39, .bool (decide (x_19 < 0) || decide (facts_1.len ≤ x_19)))] ⟨rfl, rfl, rfl, rfl, rfl, rfl, rfl, rfl, (by show Value.bool _ = Value.bool _; rw [hc_24]; rfl), trivial⟩ hk
          · refine JA_takeg 3 rfl hns (by kernel_rfl) (by kernel_rfl) hS_23 rfl rfl hc_24 rfl rfl (r_move (v := .int .i64 x_19) rfl) ?_
            refine JA_takeg 4 rfl hns (by kernel_rfl) (by kernel_rfl) hS_23 rfl rfl hc_24 rfl rfl (r_move (v := v_2) rfl) ?_
            refine JA_takeg 5 rfl hns (by kernel_rfl) (by kernel_rfl) hS_23 rfl rfl hc_24 rfl rfl (r_len_frozen (v := v_2) Try.pu22 rfl (Ty.vmono _ hle_9 h_3)) ?_
            refine JA_takeg 6 rfl hns (by kernel_rfl) (by kernel_rfl) hS_23 rfl rfl hc_24 rfl rfl (r_geq rfl rfl) ?_
            refine JA_take 7 rfl hns (by kernel_rfl) (by kernel_rfl) hS_23 rfl rfl rfl (r_pick_f (v := .bool (decide (facts_1.len ≤ x_19))) rfl hc_24 rfl) ?_
            refine J_prune [(0, v_2), (1, v_5), (5, .int .i64 x_7.1), (7, .int .i64 x_11), (8, .int .i64 x_19), (9, v_5), (10, .int .i64 cycle_4.len), (11, .int .i64 x_7.2), (39, .bool (decide (x_19 < 0) || decide (facts_1.len ≤ x_19)))] ⟨rfl, rfl, rfl, rfl, rfl, rfl, rfl, rfl, (by show Value.bool _ = Value.bool _; rw [hc_24]; rfl), trivial⟩ hk
          · refine JA_take 8 rfl hns (by kernel_rfl) (by kernel_rfl) hS_23 rfl rfl rfl (r_move (v := .bool (decide (x_19 < 0) || decide (facts_1.len ≤ x_19))) rfl) ?_
            refine J_forkAB (e := (decide (x_19 < 0) || decide (facts_1.len ≤ x_19))) 0 #[true, true, true, true, true, true, true, true, true, true, true, true, true, true, true, true, true, true, true, true, true] (fun (b_26 : Bool) L τ PV => s_8.le τ ∧ L = [(0, v_2), (1, v_5), (5, .int .i64 x_7.1), (7, .int .i64 x_11), (9, v_5), (10, .int .i64 cycle_4.len), (11, .int .i64 x_7.2), (52, .bool b_26)] ∧ PV = []) (fun hc_25 hk => ?_) (fun hc_25 hk => ?_) ?_
            · refine JA_skip (y := some (decide (x_19 < 0) || decide (facts_1.len ≤ x_19))) 9 rfl hns (by kernel_rfl) (by kernel_rfl) hS_23 rfl rfl (by rw [hc_25]; decide) rfl rfl ?_
              refine JA_skip (y := some (decide (x_19 < 0) || decide (facts_1.len ≤ x_19))) 10 rfl hns (by kernel_rfl) (by kernel_rfl) hS_23 rfl rfl (by rw [hc_25]; decide) rfl rfl ?_
              refine JA_skip (y := some (decide (x_19 < 0) || decide (facts_1.len ≤ x_19))) 11 rfl hns (by kernel_rfl) (by kernel_rfl) hS_23 rfl rfl (by rw [hc_25]; decide) rfl rfl ?_
              refine JA_skip (y := some (decide (x_19 < 0) || decide (facts_1.len ≤ x_19))) 12 rfl hns (by kernel_rfl) (by kernel_rfl) hS_23 rfl rfl (by rw [hc_25]; decide) rfl rfl ?_
              refine JA_skip (y := some (decide (x_19 < 0) || decide (facts_1.len ≤ x_19))) 13 rfl hns (by kernel_rfl) (by kernel_rfl) hS_23 rfl rfl (by rw [hc_25]; decide) rfl rfl ?_
              refine JA_skip (y := some (decide (x_19 < 0) || decide (facts_1.len ≤ x_19))) 14 rfl hns (by kernel_rfl) (by kernel_rfl) hS_23 rfl rfl (by rw [hc_25]; decide) rfl rfl ?_
              refine JA_skip (y := some (decide (x_19 < 0) || decide (facts_1.len ≤ x_19))) 15 rfl hns (by kernel_rfl) (by kernel_rfl) hS_23 rfl rfl (by rw [hc_25]; decide) rfl rfl ?_
              refine JA_skip (y := some (decide (x_19 < 0) || decide (facts_1.len ≤ x_19))) 16 rfl hns (by kernel_rfl) (by kernel_rfl) hS_23 rfl rfl (by rw [hc_25]; decide) rfl rfl ?_
              refine JA_skip (y := some (decide (x_19 < 0) || decide (facts_1.len ≤ x_19))) 17 rfl hns (by kernel_rfl) (by kernel_rfl) hS_23 rfl rfl (by rw [hc_25]; decide) rfl rfl ?_
              refine JA_skip (y := some (decide (x_19 < 0) || decide (facts_1.len ≤ x_19))) 18 rfl hns (by kernel_rfl) (by kernel_rfl) hS_23 rfl rfl (by rw [hc_25]; decide) rfl rfl ?_
              refine JA_skip (y := some (decide (x_19 < 0) || decide (facts_1.len ≤ x_19))) 19 rfl hns (by kernel_rfl) (by kernel_rfl) hS_23 rfl rfl (by rw [hc_25]; decide) rfl rfl ?_
              refine JA_take 20 rfl hns (by kernel_rfl) (by kernel_rfl) hS_23 rfl rfl rfl (r_pick_t (v := .bool true) rfl hc_25 rfl) ?_
              refine J_prune _ ?_ fun b => hk true _ b _ _ ⟨(FS.le.refl _), rfl, rfl⟩
              exact ⟨rfl, rfl, rfl, rfl, rfl, rfl, rfl, rfl, trivial⟩
            · refine JA_takeg 9 rfl hns (by kernel_rfl) (by kernel_rfl) hS_23 rfl rfl hc_25 rfl rfl (r_move (v := v_2) rfl) ?_
              refine JA_takeg 10 rfl hns (by kernel_rfl) (by kernel_rfl) hS_23 rfl rfl hc_25 rfl rfl (r_move (v := .int .i64 x_11) rfl) ?_
              refine J_assoc ?_
              refine J_bind fun x_27 hx_28 => ?_
              refine JA_takeg 11 rfl hns (by kernel_rfl) (by kernel_rfl) hS_23 rfl rfl hc_25 rfl rfl (r_index_frozen (v := v_2) (T := t_Gdiff_Leq) (q := x_27) Try.pu22 Try.pi37 rfl rfl rfl (Ty.vmono _ hle_9 h_3) hx_28) ?_
              refine JA_takeg 12 rfl hns (by kernel_rfl) (by kernel_rfl) hS_23 rfl rfl hc_25 rfl rfl (r_fieldAddr (r := elemAddr v_2 ((x_11).toNat * t_Gdiff_Leq.size + 1)) Try.pu37 (f := Try.pf37.getD 1 default) rfl Try.pi3 (by decide) rfl (elemAddr_add _ _ _)) ?_
              refine JA_takesg 13 rfl hns (by kernel_rfl) (by kernel_rfl) hS_23 rfl rfl hc_25 rfl rfl (l_elem_frozen (v := v_2) (T := t_Gdiff_Leq) (Tf := (tInt .i64)) (q := x_27) (i := x_11) (off := 1) Try.pu3 Try.pi3 rfl rfl rfl (Ty.vmono _ hle_9 h_3) hx_28 f_Gdiff_Leq_Y (by decide)) ?_
              intro v_29 h_30
              obtain rfl := tInt_v.1 h_30
              refine JA_takeg 14 rfl hns (by kernel_rfl) (by kernel_rfl) hS_23 rfl rfl hc_25 rfl rfl (r_move (v := v_2) rfl) ?_
              refine JA_takeg 15 rfl hns (by kernel_rfl) (by kernel_rfl) hS_23 rfl rfl hc_25 rfl rfl (r_move (v := .int .i64 x_19) rfl) ?_
              refine J_assoc ?_
              refine J_bind fun x_31 hx_32 => ?_
              refine JA_takeg 16 rfl hns (by kernel_rfl) (by kernel_rfl) hS_23 rfl rfl hc_25 rfl rfl (r_index_frozen (v := v_2) (T := t_Gdiff_Leq) (q := x_31) Try.pu22 Try.pi37 rfl rfl rfl (Ty.vmono _ hle_9 h_3) hx_32) ?_
              refine JA_takeg 17 rfl hns (by kernel_rfl) (by kernel_rfl) hS_23 rfl rfl hc_25 rfl rfl (r_fieldAddr (r := elemAddr v_2 ((x_19).toNat * t_Gdiff_Leq.size + 0)) Try.pu37 (f := Try.pf37.getD 0 default) rfl Try.pi3 (by decide) rfl (elemAddr_add _ _ _)) ?_
              refine JA_takesg 18 rfl hns (by kernel_rfl) (by kernel_rfl) hS_23 rfl rfl hc_25 rfl rfl (l_elem_frozen (v := v_2) (T := t_Gdiff_Leq) (Tf := (tInt .i64)) (q := x_31) (i := x_19) (off := 0) Try.pu3 Try.pi3 rfl rfl rfl (Ty.vmono _ hle_9 h_3) hx_32 f_Gdiff_Leq_X (by decide)) ?_
              intro v_33 h_34
              obtain rfl := tInt_v.1 h_34
              refine JA_takeg 19 rfl hns (by kernel_rfl) (by kernel_rfl) hS_23 rfl rfl hc_25 rfl rfl (r_neq rfl rfl) ?_
              refine JA_take 20 rfl hns (by kernel_rfl) (by kernel_rfl) hS_23 rfl rfl rfl (r_pick_f (v := .bool (decide (x_27.Y ≠ x_31.X))) rfl hc_25 rfl) ?_
              refine J_prune _ ?_ fun b => hk (decide (x_27.Y ≠ x_31.X)) _ b _ _ ⟨(FS.le.refl _), rfl, rfl⟩
              exact ⟨rfl, rfl, rfl, rfl, rfl, rfl, rfl, rfl, trivial⟩
            · rintro b_26 _ b s_35 _ ⟨hle_36, rfl, rfl⟩
              have hS_37 : HeldOK s_8 [] s_35 [] := HeldOK.plain hle_36 trivial trivial
              refine JA_done (by kernel_rfl) ?_
              refine J_then ?_
              refine J_cond rfl (fun hc_38 => ?_) (fun hc_38 => ?_)
              · refine J_seq ?_
                refine J_region ?_
                refine JL_op rfl (op_read rfl rfl (r_assign (v := .bool false) rfl) ?_)
                refine JL_nil ?_
                refine J_then ?_
                refine J_ret ?_
                refine J_then_ret ?_
                refine J_in_ret ?_
                refine J_then_ret ?_
                refine J_done trivial _ ?_ ⟨rfl, (FS.le.trans hle_9 hle_36), rfl, rfl⟩
                exact ⟨rfl, trivial⟩
              · refine J_skip ?_
                refine J_then ?_
                refine J_region ?_
                refine JL_op rfl (op_read rfl rfl (r_move (v := .int .i64 x_7.1) rfl) ?_)
                refine JL_op rfl (op_read rfl rfl (r_move (v := v_2) rfl) ?_)
                refine JL_op rfl (op_read rfl rfl (r_move (v := .int .i64 x_11) rfl) ?_)
                refine J_bind fun x_39 hx_40 => ?_
                refine JL_op rfl (op_read rfl rfl (r_index_frozen (v := v_2) (T := t_Gdiff_Leq) (q := x_39) Try.pu22 Try.pi37 rfl rfl rfl (Ty.vmono _ (FS.le.trans hle_9 hle_36) h_3) hx_40) ?_)
                refine JL_op rfl (op_read rfl rfl (r_fieldAddr (r := elemAddr v_2 ((x_11).toNat * t_Gdiff_Leq.size + 2)) Try.pu37 (f := Try.pf37.getD 2 default) rfl Try.pi2 (by decide) rfl (elemAddr_add _ _ _)) ?_)
                refine JL_op rfl (op_reads rfl rfl (l_elem_frozen (v := v_2) (T := t_Gdiff_Leq) (Tf := (tInt .i64)) (q := x_39) (i := x_11) (off := 2) Try.pu2 Try.pi2 rfl rfl rfl (Ty.vmono _ (FS.le.trans hle_9 hle_36) h_3) hx_40 f_Gdiff_Leq_C (by decide)) ?_)
                intro v_41 h_42
                obtain rfl := tInt_v.1 h_42
                refine JL_op rfl (op_read rfl rfl (r_add rfl rfl) ?_)
                refine JL_op rfl (op_read rfl rfl (r_assign (v := .int .i64 (IntKind.i64.wrap (x_7.1 + x_39.C))) rfl) ?_)
                refine JL_nil ?_
                refine J_in_normal ?_
                refine J_then ?_
                refine J_region ?_
                refine JL_op rfl (op_read rfl rfl (r_add rfl rfl) ?_)
                refine JL_op rfl (op_read rfl rfl (r_move (v := .int .i64 (IntKind.i64.wrap (x_7.2 + 1))) rfl) ?_)
                refine JL_nil ?_
                refine J_next _ ?_ ⟨(FS.le.trans hle_9 hle_36), rfl, rfl⟩
                exact ⟨rfl, rfl, rfl, rfl, rfl, rfl, trivial⟩
    · refine J_exit ?_
      refine J_then_exit ?_
      refine J_done trivial _ ?_ ⟨rfl, hle_9, rfl, rfl⟩
      exact ⟨rfl, rfl, trivial⟩
  · rintro (y_44 | y_48) e L b τ PV ht
    · obtain ⟨rfl, ht⟩ := ht
      revert ht; revert PV; revert τ; revert b; revert L
      rintro _ b s_45 _ ⟨hle_46, rfl, rfl⟩
      refine J_in_exit ?_
      refine J_then ?_
      refine J_seq ?_
      refine J_region ?_
      refine JL_op rfl (op_read rfl rfl (r_move (v := v_5) rfl) ?_)
      refine JL_op rfl (op_read rfl rfl (r_len_frozen (v := v_5) Try.pu24 rfl (Ty.vmono _ hle_46 h_6)) ?_)
      refine JL_op rfl (op_read rfl rfl (r_gtr rfl rfl) ?_)
      refine JL_op rfl (op_read rfl rfl (r_move (v := .bool (decide (0 < cycle_4.len))) rfl) ?_)
      refine J_forkL (e := (decide (0 < cycle_4.len))) 3 [(67, .bool (decide (0 < cycle_4.len) && decide (y_44 < 0)))] (fun hc_47 hk => ?_) (fun hc_47 hk => ?_) (fun b => ?_)
      · refine JL_opg rfl rfl hc_47 (op_read rfl rfl (r_move (v := .int .i64 y_44) rfl) ?_)
        refine JL_opg rfl rfl hc_47 (op_read rfl rfl (r_lss rfl rfl) ?_)
        refine JL_op rfl (op_read rfl rfl (r_pick_t (v := .bool (decide (y_44 < 0))) rfl hc_47 rfl) ?_)
        refine J_prune [(67, .bool (decide (0 < cycle_4.len) && decide (y_44 < 0)))] ⟨(by show Value.bool _ = Value.bool _; rw [hc_47]; rfl), trivial⟩ hk
      · refine JL_skip rfl rfl hc_47 rfl rfl ?_
        refine JL_skip rfl rfl hc_47 rfl rfl ?_
        refine JL_op rfl (op_read rfl rfl (r_pick_f (v := .bool false) rfl hc_47 rfl) ?_)
        refine J_prune [(67, .bool (decide (0 < cycle_4.len) && decide (y_44 < 0)))] ⟨(by show Value.bool _ = Value.bool _; rw [hc_47]; rfl), trivial⟩ hk
      · refine JL_op rfl (op_read rfl rfl (r_assign (v := .bool (decide (0 < cycle_4.len) && decide (y_44 < 0))) rfl) ?_)
        refine JL_nil ?_
        refine J_then ?_
        refine J_ret ?_
        exact J_return1 rfl ⟨rfl, rfl⟩
    · obtain ⟨rfl, ht⟩ := ht
      revert ht; revert PV; revert τ; revert b; revert L
      rintro _ b s_49 _ ⟨hle_50, rfl, rfl⟩
      refine J_in_ret ?_
      refine J_then_ret ?_
      exact J_return1 rfl ⟨rfl, rfl⟩
end Go.Px
