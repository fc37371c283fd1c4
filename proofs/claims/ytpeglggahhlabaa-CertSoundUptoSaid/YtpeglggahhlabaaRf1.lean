/- The calls do what the models say, part 1. -/
import Derived.Test.YtpeglggahhlabaaMd
namespace Go.Px
open Go.Proofs
set_option linter.unusedVariables false
def slices_Clone_post (r : Sl Gdiff_Leq) (σ : FS) (PV : List Priv) (v : Value) : Prop :=
  ∃ v0 : Value, v = v0 ∧ PV = [.row Gdiff_Leq t_Gdiff_Leq 37 v0 r]
set_option maxRecDepth 100000 in
theorem slices_Clone_ref (w : World) (σ : FS) (hs : σ.sub w) (v_2 : Value) (s_1 : Sl Gdiff_Leq) (h_3 : (tSl t_Gdiff_Leq).vrel σ v_2 s_1) (r : Sl Gdiff_Leq) (hr : slices_Clone s_1 = some r) : Does Try.prog 24 [v_2] w σ (slices_Clone_post r) := by
  unfold slices_Clone at hr
  refine does_of_J Try.func24 rfl (n := 8) rfl rfl hs hr ?_
  refine J_seq ?_
  refine J_region ?_
  refine JL_op rfl (op_read rfl rfl (r_assign (v := .slice none 0 0) rfl) ?_)
  refine JL_nil ?_
  refine J_then ?_
  refine J_seq ?_
  refine J_seq ?_
  refine J_region ?_
  refine JL_op rfl (op_read rfl rfl (r_move (v := v_2) rfl) ?_)
  refine JL_op rfl (op_read rfl rfl (r_eqnil_frozen (v := v_2) Try.pu23 rfl rfl h_3) ?_)
  refine JL_nil ?_
  refine J_then ?_
  refine J_cond rfl (fun hc_4 => ?_) (fun hc_4 => ?_)
  · refine J_seq ?_
    refine J_region ?_
    refine JL_op rfl (op_read rfl rfl (r_assign (v := .slice none 0 0) rfl) ?_)
    refine JL_nil ?_
    refine J_then ?_
    refine J_ret ?_
    refine J_then_ret ?_
    refine J_nil_row t_Gdiff_Leq 37 ?_
    exact J_return1 rfl ⟨_, rfl, rfl⟩
  · refine J_skip ?_
    refine J_then ?_
    refine J_seq ?_
    refine J_region ?_
    refine JL_op rfl (op_buildSlice (T := t_Gdiff_Leq) (vs := []) (xs := []) rfl Try.pu23 Try.pi37 rfl rfl rfl rfl rfl rfl trivial ?_)
    intro v_6
    refine JL_op rfl (op_read rfl rfl (r_move (v := v_2) rfl) ?_)
    refine JL_op rfl (op_append (v := v_6) (u := v_2) (T := t_Gdiff_Leq) (ts := s_1.xs) 0 rfl Try.pu23 Try.pi37 rfl rfl rfl rfl rfl rfl rfl (source_frozen h_3) ?_)
    intro s_8 v_10 ha_9
    refine JL_op rfl (op_read rfl rfl (r_assign (v := v_10) rfl) ?_)
    refine JL_nil ?_
    refine J_then ?_
    refine J_ret ?_
    exact J_return1 rfl ⟨_, rfl, rfl⟩
def diff_fit_1_post (r : Bool) (σ : FS) (PV : List Priv) (v : Value) : Prop :=
  v = .bool r ∧ PV = []
set_option maxRecDepth 100000 in
theorem diff_fit_1_ref (w : World) (σ : FS) (hs : σ.sub w) (v_2 : Value) (f_1 : Gdiff_Leq) (h_3 : t_Gdiff_Leq.vrel σ v_2 f_1) (c_5 : Nat)  (a_4 : Int) (hf_6 : ∀ (j : Nat) (u : Value), [.int .i64 a_4][j]? = some u → σ.cell ((⟨c_5, 0, none⟩ : Addr).add j) = some u)  (r : Bool) (hr : diff_fit_1 f_1 a_4 = some r) : Does Try.prog 32 [v_2, .pointer (some ⟨c_5, 0, none⟩)] w σ (diff_fit_1_post r) := by
  unfold diff_fit_1 at hr
  obtain rfl := t_Gdiff_Leq_v.1 h_3
  refine does_of_J Try.func32 rfl (n := 34) rfl rfl hs hr ?_
  refine J_seq ?_
  refine J_region ?_
  refine JL_op rfl (op_box (cs := [.int .i64 f_1.X, .int .i64 f_1.Y, .int .i64 f_1.C]) rfl rfl ?_)
  intro c_7
  refine JL_op rfl (op_read rfl rfl (r_assign (v := .bool false) rfl) ?_)
  refine JL_nil ?_
  refine J_then ?_
  refine J_seq ?_
  refine J_region ?_
  refine JL_op rfl (op_read rfl rfl (r_fieldAddr (r := ⟨c_7, 0, none⟩) Try.pu37 (f := Try.pf37.getD 0 default) rfl Try.pi3 (by decide) rfl rfl) ?_)
  refine JL_op rfl (op_read rfl rfl (r_load_priv (cs' := [.int .i64 f_1.X]) (v := .int .i64 f_1.X) 0 Try.pu3 Try.pi3 rfl rfl rfl rfl (by decide) rfl) ?_)
  refine JL_op rfl (op_read rfl rfl (r_lss rfl rfl) ?_)
  refine JL_op rfl (op_read rfl rfl (r_move (v := .bool (decide (f_1.X < 0))) rfl) ?_)
  refine J_forkL (e := (decide (f_1.X < 0))) 5 [(1, .pointer (some ⟨c_5, 0, none⟩)), (2, .pointer (some ⟨c_7, 0, none⟩)), (12, .bool (decide (f_1.X < 0) || decide (a_4 ≤ f_1.X)))] (fun hc_9 hk => ?_) (fun hc_9 hk => ?_) (fun b => ?_)
  · refine JL_skip rfl rfl hc_9 rfl rfl ?_
    refine JL_skip rfl rfl hc_9 rfl rfl ?_
    refine JL_skip rfl rfl hc_9 rfl rfl ?_
    refine JL_skip rfl rfl hc_9 rfl rfl ?_
    refine JL_op rfl (op_read rfl rfl (r_pick_t (v := .bool true) rfl hc_9 rfl) ?_)
    refine J_prune [(1, .pointer (some ⟨c_5, 0, none⟩)), (2, .pointer (some ⟨c_7, 0, none⟩)), (12, .bool (decide (f_1.X < 0) || decide (a_4 ≤ f_1.X)))] ⟨rfl, rfl, (by show Value.bool _ = Value.bool _; rw [hc_9]; rfl), trivial⟩ hk
  · refine JL_opg rfl rfl hc_9 (op_read rfl rfl (r_fieldAddr (r := ⟨c_7, 0, none⟩) Try.pu37 (f := Try.pf37.getD 0 default) rfl Try.pi3 (by decide) rfl rfl) ?_)
    refine JL_opg rfl rfl hc_9 (op_read rfl rfl (r_load_priv (cs' := [.int .i64 f_1.X]) (v := .int .i64 f_1.X) 0 Try.pu3 Try.pi3 rfl rfl rfl rfl (by decide) rfl) ?_)
    refine JL_opg rfl rfl hc_9 (op_read rfl rfl (r_load_fast (cs' := [.int .i64 a_4]) (v := .int .i64 a_4) Try.pu3 Try.pi3 rfl (fun j u hj => FS.le.cell (FS.le.refl _) (hf_6 j u hj)) rfl rfl (by decide) rfl) ?_)
    refine JL_opg rfl rfl hc_9 (op_read rfl rfl (r_geq rfl rfl) ?_)
    refine JL_op rfl (op_read rfl rfl (r_pick_f (v := .bool (decide (a_4 ≤ f_1.X))) rfl hc_9 rfl) ?_)
    refine J_prune [(1, .pointer (some ⟨c_5, 0, none⟩)), (2, .pointer (some ⟨c_7, 0, none⟩)), (12, .bool (decide (f_1.X < 0) || decide (a_4 ≤ f_1.X)))] ⟨rfl, rfl, (by show Value.bool _ = Value.bool _; rw [hc_9]; rfl), trivial⟩ hk
  · refine JL_op rfl (op_read rfl rfl (r_move (v := .bool (decide (f_1.X < 0) || decide (a_4 ≤ f_1.X))) rfl) ?_)
    refine J_forkL (e := (decide (f_1.X < 0) || decide (a_4 ≤ f_1.X))) 4 [(1, .pointer (some ⟨c_5, 0, none⟩)), (2, .pointer (some ⟨c_7, 0, none⟩)), (17, .bool ((decide (f_1.X < 0) || decide (a_4 ≤ f_1.X)) || decide (f_1.Y < 0)))] (fun hc_10 hk => ?_) (fun hc_10 hk => ?_) (fun b => ?_)
    · refine JL_skip rfl rfl hc_10 rfl rfl ?_
      refine JL_skip rfl rfl hc_10 rfl rfl ?_
      refine JL_skip rfl rfl hc_10 rfl rfl ?_
      refine JL_op rfl (op_read rfl rfl (r_pick_t (v := .bool true) rfl hc_10 rfl) ?_)
      refine J_prune [(1, .pointer (some ⟨c_5, 0, none⟩)), (2, .pointer (some ⟨c_7, 0, none⟩)), (17, .bool ((decide (f_1.X < 0) || decide (a_4 ≤ f_1.X)) || decide (f_1.Y < 0)))] ⟨rfl, rfl, (by show Value.bool _ = Value.bool _; rw [hc_10]; rfl), trivial⟩ hk
    · refine JL_opg rfl rfl hc_10 (op_read rfl rfl (r_fieldAddr (r := ⟨c_7, 1, none⟩) Try.pu37 (f := Try.pf37.getD 1 default) rfl Try.pi3 (by decide) rfl rfl) ?_)
      refine JL_opg rfl rfl hc_10 (op_read rfl rfl (r_load_priv (cs' := [.int .i64 f_1.Y]) (v := .int .i64 f_1.Y) 0 Try.pu3 Try.pi3 rfl rfl rfl rfl (by decide) rfl) ?_)
      refine JL_opg rfl rfl hc_10 (op_read rfl rfl (r_lss rfl rfl) ?_)
      refine JL_op rfl (op_read rfl rfl (r_pick_f (v := .bool (decide (f_1.Y < 0))) rfl hc_10 rfl) ?_)
      refine J_prune [(1, .pointer (some ⟨c_5, 0, none⟩)), (2, .pointer (some ⟨c_7, 0, none⟩)), (17, .bool ((decide (f_1.X < 0) || decide (a_4 ≤ f_1.X)) || decide (f_1.Y < 0)))] ⟨rfl, rfl, (by show Value.bool _ = Value.bool _; rw [hc_10]; rfl), trivial⟩ hk
    · refine JL_op rfl (op_read rfl rfl (r_move (v := .bool ((decide (f_1.X < 0) || decide (a_4 ≤ f_1.X)) || decide (f_1.Y < 0))) rfl) ?_)
      refine J_forkL (e := ((decide (f_1.X < 0) || decide (a_4 ≤ f_1.X)) || decide (f_1.Y < 0))) 5 [(2, .pointer (some ⟨c_7, 0, none⟩)), (23, .bool (((decide (f_1.X < 0) || decide (a_4 ≤ f_1.X)) || decide (f_1.Y < 0)) || decide (a_4 ≤ f_1.Y)))] (fun hc_11 hk => ?_) (fun hc_11 hk => ?_) (fun b => ?_)
      · refine JL_skip rfl rfl hc_11 rfl rfl ?_
        refine JL_skip rfl rfl hc_11 rfl rfl ?_
        refine JL_skip rfl rfl hc_11 rfl rfl ?_
        refine JL_skip rfl rfl hc_11 rfl rfl ?_
        refine JL_op rfl (op_read rfl rfl (r_pick_t (v := .bool true) rfl hc_11 rfl) ?_)
        refine J_prune [(2, .pointer (some ⟨c_7, 0, none⟩)), (23, .bool (((decide (f_1.X < 0) || decide (a_4 ≤ f_1.X)) || decide (f_1.Y < 0)) || decide (a_4 ≤ f_1.Y)))] ⟨rfl, (by show Value.bool _ = Value.bool _; rw [hc_11]; rfl), trivial⟩ hk
      · refine JL_opg rfl rfl hc_11 (op_read rfl rfl (r_fieldAddr (r := ⟨c_7, 1, none⟩) Try.pu37 (f := Try.pf37.getD 1 default) rfl Try.pi3 (by decide) rfl rfl) ?_)
        refine JL_opg rfl rfl hc_11 (op_read rfl rfl (r_load_priv (cs' := [.int .i64 f_1.Y]) (v := .int .i64 f_1.Y) 0 Try.pu3 Try.pi3 rfl rfl rfl rfl (by decide) rfl) ?_)
        refine JL_opg rfl rfl hc_11 (op_read rfl rfl (r_load_fast (cs' := [.int .i64 a_4]) (v := .int .i64 a_4) Try.pu3 Try.pi3 rfl (fun j u hj => FS.le.cell (FS.le.refl _) (hf_6 j u hj)) rfl rfl (by decide) rfl) ?_)
        refine JL_opg rfl rfl hc_11 (op_read rfl rfl (r_geq rfl rfl) ?_)
        refine JL_op rfl (op_read rfl rfl (r_pick_f (v := .bool (decide (a_4 ≤ f_1.Y))) rfl hc_11 rfl) ?_)
        refine J_prune [(2, .pointer (some ⟨c_7, 0, none⟩)), (23, .bool (((decide (f_1.X < 0) || decide (a_4 ≤ f_1.X)) || decide (f_1.Y < 0)) || decide (a_4 ≤ f_1.Y)))] ⟨rfl, (by show Value.bool _ = Value.bool _; rw [hc_11]; rfl), trivial⟩ hk
      · refine JL_op rfl (op_read rfl rfl (r_move (v := .bool (((decide (f_1.X < 0) || decide (a_4 ≤ f_1.X)) || decide (f_1.Y < 0)) || decide (a_4 ≤ f_1.Y))) rfl) ?_)
        refine J_forkL (e := (((decide (f_1.X < 0) || decide (a_4 ≤ f_1.X)) || decide (f_1.Y < 0)) || decide (a_4 ≤ f_1.Y))) 4 [(2, .pointer (some ⟨c_7, 0, none⟩)), (28, .bool ((((decide (f_1.X < 0) || decide (a_4 ≤ f_1.X)) || decide (f_1.Y < 0)) || decide (a_4 ≤ f_1.Y)) || decide (8796093022208 < f_1.C)))] (fun hc_12 hk => ?_) (fun hc_12 hk => ?_) (fun b => ?_)
        · refine JL_skip rfl rfl hc_12 rfl rfl ?_
          refine JL_skip rfl rfl hc_12 rfl rfl ?_
          refine JL_skip rfl rfl hc_12 rfl rfl ?_
          refine JL_op rfl (op_read rfl rfl (r_pick_t (v := .bool true) rfl hc_12 rfl) ?_)
          refine J_prune [(2, .pointer (some ⟨c_7, 0, none⟩)), (28, .bool ((((decide (f_1.X < 0) || decide (a_4 ≤ f_1.X)) || decide (f_1.Y < 0)) || decide (a_4 ≤ f_1.Y)) || decide (8796093022208 < f_1.C)))] ⟨rfl, (by show Value.bool _ = Value.bool _; rw [hc_12]; rfl), trivial⟩ hk
        · refine JL_opg rfl rfl hc_12 (op_read rfl rfl (r_fieldAddr (r := ⟨c_7, 2, none⟩) Try.pu37 (f := Try.pf37.getD 2 default) rfl Try.pi2 (by decide) rfl rfl) ?_)
          refine JL_opg rfl rfl hc_12 (op_read rfl rfl (r_load_priv (cs' := [.int .i64 f_1.C]) (v := .int .i64 f_1.C) 0 Try.pu2 Try.pi2 rfl rfl rfl rfl (by decide) rfl) ?_)
          refine JL_opg rfl rfl hc_12 (op_read rfl rfl (r_gtr rfl rfl) ?_)
          refine JL_op rfl (op_read rfl rfl (r_pick_f (v := .bool (decide (8796093022208 < f_1.C))) rfl hc_12 rfl) ?_)
          refine J_prune [(2, .pointer (some ⟨c_7, 0, none⟩)), (28, .bool ((((decide (f_1.X < 0) || decide (a_4 ≤ f_1.X)) || decide (f_1.Y < 0)) || decide (a_4 ≤ f_1.Y)) || decide (8796093022208 < f_1.C)))] ⟨rfl, (by show Value.bool _ = Value.bool _; rw [hc_12]; rfl), trivial⟩ hk
        · refine JL_op rfl (op_read rfl rfl (r_move (v := .bool ((((decide (f_1.X < 0) || decide (a_4 ≤ f_1.X)) || decide (f_1.Y < 0)) || decide (a_4 ≤ f_1.Y)) || decide (8796093022208 < f_1.C))) rfl) ?_)
          refine J_forkL (e := ((((decide (f_1.X < 0) || decide (a_4 ≤ f_1.X)) || decide (f_1.Y < 0)) || decide (a_4 ≤ f_1.Y)) || decide (8796093022208 < f_1.C))) 4 [(33, .bool (((((decide (f_1.X < 0) || decide (a_4 ≤ f_1.X)) || decide (f_1.Y < 0)) || decide (a_4 ≤ f_1.Y)) || decide (8796093022208 < f_1.C)) || decide (f_1.C < (-8796093022208))))] (fun hc_13 hk => ?_) (fun hc_13 hk => ?_) (fun b => ?_)
          · refine JL_skip rfl rfl hc_13 rfl rfl ?_
            refine JL_skip rfl rfl hc_13 rfl rfl ?_
            refine JL_skip rfl rfl hc_13 rfl rfl ?_
            refine JL_op rfl (op_read rfl rfl (r_pick_t (v := .bool true) rfl hc_13 rfl) ?_)
            refine J_prune [(33, .bool (((((decide (f_1.X < 0) || decide (a_4 ≤ f_1.X)) || decide (f_1.Y < 0)) || decide (a_4 ≤ f_1.Y)) || decide (8796093022208 < f_1.C)) || decide (f_1.C < (-8796093022208))))] ⟨(by show Value.bool _ = Value.bool _; rw [hc_13]; rfl), trivial⟩ hk
          · refine JL_opg rfl rfl hc_13 (op_read rfl rfl (r_fieldAddr (r := ⟨c_7, 2, none⟩) Try.pu37 (f := Try.pf37.getD 2 default) rfl Try.pi2 (by decide) rfl rfl) ?_)
            refine JL_opg rfl rfl hc_13 (op_read rfl rfl (r_load_priv (cs' := [.int .i64 f_1.C]) (v := .int .i64 f_1.C) 0 Try.pu2 Try.pi2 rfl rfl rfl rfl (by decide) rfl) ?_)
            refine JL_opg rfl rfl hc_13 (op_read rfl rfl (r_lss rfl rfl) ?_)
            refine JL_op rfl (op_read rfl rfl (r_pick_f (v := .bool (decide (f_1.C < (-8796093022208)))) rfl hc_13 rfl) ?_)
            refine J_prune [(33, .bool (((((decide (f_1.X < 0) || decide (a_4 ≤ f_1.X)) || decide (f_1.Y < 0)) || decide (a_4 ≤ f_1.Y)) || decide (8796093022208 < f_1.C)) || decide (f_1.C < (-8796093022208))))] ⟨(by show Value.bool _ = Value.bool _; rw [hc_13]; rfl), trivial⟩ hk
          · refine JL_op rfl (op_read rfl rfl (r_assign (v := .bool (((((decide (f_1.X < 0) || decide (a_4 ≤ f_1.X)) || decide (f_1.Y < 0)) || decide (a_4 ≤ f_1.Y)) || decide (8796093022208 < f_1.C)) || decide (f_1.C < (-8796093022208)))) rfl) ?_)
            refine JL_nil ?_
            refine J_then ?_
            refine J_ret ?_
            refine J_select (PV' := []) [] (by decide) rfl ?_
            exact J_return1 rfl ⟨rfl, rfl⟩
def slices_IndexFunc_post (r : Int) (σ : FS) (PV : List Priv) (v : Value) : Prop :=
  v = .int .i64 r ∧ PV = []
set_option maxRecDepth 100000 in
theorem slices_IndexFunc_ref (w : World) (σ : FS) (hs : σ.sub w) (v_2 : Value) (s_1 : Sl Gdiff_Leq) (h_3 : (tSl t_Gdiff_Leq).vrel σ v_2 s_1) (v_5 : Value) (f_4 : Gdiff_Leq → Option Bool) (hf_6 : Fnc_T56 Try.prog σ v_5 f_4) (r : Int) (hr : slices_IndexFunc s_1 f_4 = some r) : Does Try.prog 31 [v_2, v_5] w σ (slices_IndexFunc_post r) := by
  unfold slices_IndexFunc at hr
  have hf_62 := hf_6
  obtain ⟨fi_7, fn_8, ca_9, rfl, k_10, k_11, k_12, k_13⟩ := hf_62
  refine does_of_J Try.func31 rfl (n := 19) rfl rfl hs hr ?_
  refine J_seq ?_
  refine J_region ?_
  refine JL_op rfl (op_read rfl rfl (r_assign (v := .int .i64 0) rfl) ?_)
  refine JL_nil ?_
  refine J_then ?_
  refine J_seq ?_
  refine J_seq ?_
  refine J_region ?_
  refine JL_op rfl (op_read rfl rfl (r_move (v := v_2) rfl) ?_)
  refine JL_op rfl (op_read rfl rfl (r_len_frozen (v := v_2) Try.pu23 rfl h_3) ?_)
  refine JL_op rfl (op_read rfl rfl (r_move (v := .int .i64 0) rfl) ?_)
  refine JL_nil ?_
  refine J_then ?_
  refine J_block ?_
  refine J_loop (fun (y : Int) L τ PV => σ.le τ ∧ L = [(0, v_2), (1, (.func (.func fi_7) #[] ca_9.toArray)), (7, .int .i64 s_1.len), (8, .int .i64 y)] ∧ PV = []) (fun (y : W2 Unit Int) e L τ PV => match y, e with | .a y, e => e = .exit 0 ∧ (σ.le τ ∧ L = [] ∧ PV = []) | .b y, e => e = .ret ∧ (σ.le τ ∧ L = [(4, .int .i64 y)] ∧ PV = [])) _ ?_ ⟨(FS.le.refl _), rfl, rfl⟩ ?_ ?_
  · exact ⟨rfl, rfl, rfl, rfl, trivial⟩
  · rintro x_14 _ b s_15 _ ⟨hle_16, rfl, rfl⟩
    unfold slices_IndexFunc_L1
    refine J_seq ?_
    refine J_region ?_
    refine JL_op rfl (op_read rfl rfl (r_lss rfl rfl) ?_)
    refine JL_nil ?_
    refine J_then ?_
    refine J_seq ?_
    refine J_cond rfl (fun hc_17 => ?_) (fun hc_17 => ?_)
    · refine J_skip ?_
      refine J_then ?_
      refine J_seq ?_
      refine J_block ?_
      refine J_seq ?_
      refine J_region ?_
      refine JL_op rfl (op_read rfl rfl (r_move (v := .int .i64 x_14) rfl) ?_)
      refine JL_op rfl (op_read rfl rfl (r_assign (v := .int .i64 x_14) rfl) ?_)
      refine JL_nil ?_
      refine J_then ?_
      refine J_seq ?_
      refine J_region ?_
      refine JL_op rfl (op_read rfl rfl (r_move (v := (.func (.func fi_7) #[] ca_9.toArray)) rfl) ?_)
      refine JL_op rfl (op_read rfl rfl (r_move (v := v_2) rfl) ?_)
      refine JL_op rfl (op_read rfl rfl (r_move (v := .int .i64 x_14) rfl) ?_)
      refine J_bind fun x_18 hx_19 => ?_
      refine JL_op rfl (op_read rfl rfl (r_index_frozen (v := v_2) (T := t_Gdiff_Leq) (q := x_18) Try.pu23 Try.pi37 rfl rfl rfl (Ty.vmono _ hle_16 h_3) hx_19) ?_)
      refine JL_op rfl (op_reads rfl rfl (l_elem_frozen (v := v_2) (T := t_Gdiff_Leq) (Tf := t_Gdiff_Leq) (q := x_18) (i := x_14) (off := 0) Try.pu37 Try.pi37 rfl rfl rfl (Ty.vmono _ hle_16 h_3) hx_19 (FieldAt.self _) (by decide)) ?_)
      intro v_20 h_21
      obtain rfl := t_Gdiff_Leq_v.1 h_21
      refine JL_op rfl (op_call (f := fi_7) (fn := fn_8) (args := .agg #[.int .i64 x_18.X, .int .i64 x_18.Y, .int .i64 x_18.C] :: ca_9) (post := fun r _ PV v => v = .bool r ∧ PV = []) rfl rfl rfl k_10 k_11 k_12 rfl (fun y w hy hs => k_13 _ w hle_16 hs (.agg #[.int .i64 x_18.X, .int .i64 x_18.Y, .int .i64 x_18.C]) x_18 (t_Gdiff_Leq_v.2 rfl) y hy) ?_)
      intro r_22 v_24 s_25 PV_27 hy_23 hle_26 hp_28
      obtain ⟨rfl, rfl⟩ := hp_28
      refine JL_nil ?_
      refine J_then ?_
      refine J_cond rfl (fun hc_29 => ?_) (fun hc_29 => ?_)
      · refine J_seq ?_
        refine J_region ?_
        refine JL_op rfl (op_read rfl rfl (r_move (v := .int .i64 x_14) rfl) ?_)
        refine JL_op rfl (op_read rfl rfl (r_assign (v := .int .i64 x_14) rfl) ?_)
        refine JL_nil ?_
        refine J_then ?_
        refine J_ret ?_
        refine J_in_ret ?_
        refine J_then_ret ?_
        refine J_done trivial _ ?_ ⟨rfl, (FS.le.trans hle_16 hle_26), rfl, rfl⟩
        exact ⟨rfl, trivial⟩
      · refine J_skip ?_
        refine J_in_normal ?_
        refine J_then ?_
        refine J_region ?_
        refine JL_op rfl (op_read rfl rfl (r_add rfl rfl) ?_)
        refine JL_op rfl (op_read rfl rfl (r_move (v := .int .i64 (IntKind.i64.wrap (x_14 + 1))) rfl) ?_)
        refine JL_nil ?_
        refine J_next _ ?_ ⟨(FS.le.trans hle_16 hle_26), rfl, rfl⟩
        exact ⟨rfl, rfl, rfl, rfl, trivial⟩
    · refine J_exit ?_
      refine J_then_exit ?_
      refine J_done trivial _ ?_ ⟨rfl, hle_16, rfl, rfl⟩
      exact trivial
  · rintro (y_31 | y_34) e L b τ PV ht
    · obtain ⟨rfl, ht⟩ := ht
      revert ht; revert PV; revert τ; revert b; revert L
      rintro _ b s_32 _ ⟨hle_33, rfl, rfl⟩
      refine J_in_exit ?_
      refine J_then ?_
      refine J_seq ?_
      refine J_region ?_
      refine JL_op rfl (op_read rfl rfl (r_assign (v := .int .i64 (-1)) rfl) ?_)
      refine JL_nil ?_
      refine J_then ?_
      refine J_ret ?_
      exact J_return1 rfl ⟨rfl, rfl⟩
    · obtain ⟨rfl, ht⟩ := ht
      revert ht; revert PV; revert τ; revert b; revert L
      rintro _ b s_35 _ ⟨hle_36, rfl, rfl⟩
      refine J_in_ret ?_
      refine J_then_ret ?_
      exact J_return1 rfl ⟨rfl, rfl⟩
def slices_ContainsFunc_post (r : Bool) (σ : FS) (PV : List Priv) (v : Value) : Prop :=
  v = .bool r ∧ PV = []
set_option maxRecDepth 100000 in
theorem slices_ContainsFunc_ref (w : World) (σ : FS) (hs : σ.sub w) (v_2 : Value) (s_1 : Sl Gdiff_Leq) (h_3 : (tSl t_Gdiff_Leq).vrel σ v_2 s_1) (v_5 : Value) (f_4 : Gdiff_Leq → Option Bool) (hf_6 : Fnc_T56 Try.prog σ v_5 f_4) (r : Bool) (hr : slices_ContainsFunc s_1 f_4 = some r) : Does Try.prog 22 [v_2, v_5] w σ (slices_ContainsFunc_post r) := by
  unfold slices_ContainsFunc at hr
  have hf_62 := hf_6
  obtain ⟨fi_7, fn_8, ca_9, rfl, k_10, k_11, k_12, k_13⟩ := hf_62
  refine does_of_J Try.func22 rfl (n := 9) rfl rfl hs hr ?_
  refine J_seq ?_
  refine J_region ?_
  refine JL_op rfl (op_read rfl rfl (r_assign (v := .bool false) rfl) ?_)
  refine JL_nil ?_
  refine J_then ?_
  refine J_seq ?_
  refine J_region ?_
  refine JL_op rfl (op_read rfl rfl (r_move (v := v_2) rfl) ?_)
  refine JL_op rfl (op_read rfl rfl (r_move (v := (.func (.func fi_7) #[] ca_9.toArray)) rfl) ?_)
  refine JL_op rfl (op_call (f := 31) (fn := Try.f31) (args := [v_2, (.func (.func fi_7) #[] ca_9.toArray)]) (post := slices_IndexFunc_post) rfl rfl rfl Try.func31 Try.pn31 rfl rfl (fun y w hy hs => slices_IndexFunc_ref w _ hs v_2 s_1 h_3 (.func (.func fi_7) #[] ca_9.toArray) f_4 hf_6 y hy) ?_)
  intro r_14 v_16 s_17 PV_19 hy_15 hle_18 hp_20
  obtain ⟨rfl, rfl⟩ := hp_20
  refine JL_op rfl (op_read rfl rfl (r_geq rfl rfl) ?_)
  refine JL_op rfl (op_read rfl rfl (r_assign (v := .bool (decide (0 ≤ r_14))) rfl) ?_)
  refine JL_nil ?_
  refine J_then ?_
  refine J_ret ?_
  exact J_return1 rfl ⟨rfl, rfl⟩
def diff_fit_post (r : Int) (σ : FS) (PV : List Priv) (v : Value) : Prop :=
  v = .int .i64 r ∧ PV = []
set_option maxRecDepth 100000 in
theorem diff_fit_ref (w : World) (σ : FS) (hs : σ.sub w) (n_1 : Int) (v_3 : Value) (facts_2 : Sl Gdiff_Leq) (h_4 : (tSl t_Gdiff_Leq).vrel σ v_3 facts_2) (r : Int) (hr : diff_fit n_1 facts_2 = some r) : Does Try.prog 28 [.int .i64 n_1, v_3] w σ (diff_fit_post r) := by
  unfold diff_fit at hr
  refine does_of_J Try.func28 rfl (n := 19) rfl rfl hs hr ?_
  refine J_seq ?_
  refine J_region ?_
  refine JL_op rfl (op_box (cs := [.int .i64 n_1]) rfl rfl ?_)
  intro c_5
  refine JL_op rfl (op_read rfl rfl (r_assign (v := .int .i64 0) rfl) ?_)
  refine JL_nil ?_
  refine J_then ?_
  refine J_seq ?_
  refine J_seq ?_
  refine J_region ?_
  refine JL_op rfl (op_read rfl rfl (r_move (v := v_3) rfl) ?_)
  refine JL_op rfl (op_read rfl rfl (r_len_frozen (v := v_3) Try.pu23 rfl h_4) ?_)
  refine JL_op rfl (op_read rfl rfl (r_gtr rfl rfl) ?_)
  refine JL_nil ?_
  refine J_then ?_
  refine J_cond rfl (fun hc_7 => ?_) (fun hc_7 => ?_)
  · refine J_seq ?_
    refine J_region ?_
    refine JL_op rfl (op_read rfl rfl (r_assign (v := .int .i64 22) rfl) ?_)
    refine JL_nil ?_
    refine J_then ?_
    refine J_ret ?_
    refine J_then_ret ?_
    refine J_select (PV' := []) [] (by decide) rfl ?_
    exact J_return1 rfl ⟨rfl, rfl⟩
  · refine J_skip ?_
    refine J_then ?_
    refine J_seq ?_
    refine J_seq ?_
    refine J_region ?_
    refine JL_op rfl (op_read rfl rfl (r_load_priv (cs' := [.int .i64 n_1]) (v := .int .i64 n_1) 0 Try.pu3 Try.pi3 rfl rfl rfl rfl (by decide) rfl) ?_)
    refine JL_op rfl (op_read rfl rfl (r_lss rfl rfl) ?_)
    refine JL_op rfl (op_read rfl rfl (r_move (v := .bool (decide (n_1 < 1))) rfl) ?_)
    refine J_forkL (e := (decide (n_1 < 1))) 3 [(1, v_3), (2, .pointer (some ⟨c_5, 0, none⟩)), (14, .bool (decide (n_1 < 1) || decide (96 < n_1)))] (fun hc_8 hk => ?_) (fun hc_8 hk => ?_) (fun b => ?_)
    · refine JL_skip rfl rfl hc_8 rfl rfl ?_
      refine JL_skip rfl rfl hc_8 rfl rfl ?_
      refine JL_op rfl (op_read rfl rfl (r_pick_t (v := .bool true) rfl hc_8 rfl) ?_)
      refine J_prune [(1, v_3), (2, .pointer (some ⟨c_5, 0, none⟩)), (14, .bool (decide (n_1 < 1) || decide (96 < n_1)))] ⟨rfl, rfl, (by show Value.bool _ = Value.bool _; rw [hc_8]; rfl), trivial⟩ hk
    · refine JL_opg rfl rfl hc_8 (op_read rfl rfl (r_load_priv (cs' := [.int .i64 n_1]) (v := .int .i64 n_1) 0 Try.pu3 Try.pi3 rfl rfl rfl rfl (by decide) rfl) ?_)
      refine JL_opg rfl rfl hc_8 (op_read rfl rfl (r_gtr rfl rfl) ?_)
      refine JL_op rfl (op_read rfl rfl (r_pick_f (v := .bool (decide (96 < n_1))) rfl hc_8 rfl) ?_)
      refine J_prune [(1, v_3), (2, .pointer (some ⟨c_5, 0, none⟩)), (14, .bool (decide (n_1 < 1) || decide (96 < n_1)))] ⟨rfl, rfl, (by show Value.bool _ = Value.bool _; rw [hc_8]; rfl), trivial⟩ hk
    · refine JL_nil ?_
      refine J_then ?_
      refine J_cond rfl (fun hc_9 => ?_) (fun hc_9 => ?_)
      · refine J_seq ?_
        refine J_region ?_
        refine JL_op rfl (op_read rfl rfl (r_assign (v := .int .i64 2) rfl) ?_)
        refine JL_nil ?_
        refine J_then ?_
        refine J_ret ?_
        refine J_then_ret ?_
        refine J_select (PV' := []) [] (by decide) rfl ?_
        exact J_return1 rfl ⟨rfl, rfl⟩
      · refine J_skip ?_
        refine J_then ?_
        refine J_seq ?_
        refine J_region ?_
        refine J_freeze_cell (PV' := []) 0 rfl rfl fun s_10 hle_11 hf_12 => ?_
        refine JL_op rfl (op_read rfl rfl (r_makeFunc (fs := []) (cs := [.pointer (some ⟨c_5, 0, none⟩)]) rfl rfl) ?_)
        refine JL_op rfl (op_read rfl rfl (r_assign (v := .func (.func 32) #[] #[.pointer (some ⟨c_5, 0, none⟩)]) rfl) ?_)
        refine JL_nil ?_
        refine J_then ?_
        refine J_seq ?_
        refine J_seq ?_
        refine J_region ?_
        refine JL_op rfl (op_read rfl rfl (r_move (v := v_3) rfl) ?_)
        refine JL_op rfl (op_read rfl rfl (r_move (v := .func (.func 32) #[] #[.pointer (some ⟨c_5, 0, none⟩)]) rfl) ?_)
        refine JL_op rfl (op_call (f := 22) (fn := Try.f22) (args := [v_3, .func (.func 32) #[] #[.pointer (some ⟨c_5, 0, none⟩)]]) (post := slices_ContainsFunc_post) rfl rfl rfl Try.func22 Try.pn22 rfl rfl (fun y w hy hs => slices_ContainsFunc_ref w _ hs v_3 facts_2 (Ty.vmono _ hle_11 h_4) (.func (.func 32) #[] #[.pointer (some ⟨c_5, 0, none⟩)]) (fun x0 => diff_fit_1 x0 n_1) ⟨32, Try.f32, [.pointer (some ⟨c_5, 0, none⟩)], rfl, Try.func32, Try.pn32, rfl, fun τ w hle2 hs v0 x0 h0 r hr => diff_fit_1_ref w τ hs v0 x0 h0 c_5 n_1 (fun j u hj => FS.le.cell (FS.le.trans (FS.le.refl _) hle2) (hf_12 j u hj)) r hr⟩ y hy) ?_)
        intro r_13 v_15 s_16 PV_18 hy_14 hle_17 hp_19
        obtain ⟨rfl, rfl⟩ := hp_19
        refine JL_nil ?_
        refine J_then ?_
        refine J_cond rfl (fun hc_20 => ?_) (fun hc_20 => ?_)
        · refine J_seq ?_
          refine J_region ?_
          refine JL_op rfl (op_read rfl rfl (r_assign (v := .int .i64 2) rfl) ?_)
          refine JL_nil ?_
          refine J_then ?_
          refine J_ret ?_
          refine J_then_ret ?_
          exact J_return1 rfl ⟨rfl, rfl⟩
        · refine J_skip ?_
          refine J_then ?_
          refine J_seq ?_
          refine J_region ?_
          refine JL_op rfl (op_read rfl rfl (r_assign (v := .int .i64 0) rfl) ?_)
          refine JL_nil ?_
          refine J_then ?_
          refine J_ret ?_
          exact J_return1 rfl ⟨rfl, rfl⟩
def diff_solve_post (r : (Sl Int) × (Sl Int)) (σ : FS) (PV : List Priv) (v : Value) : Prop :=
  ∃ v0 v1 : Value, v = .tuple #[v0, v1] ∧ PV = [.row Int (tInt .i64) 2 v0 r.1, .row Int (tInt .i64) 3 v1 r.2]
set_option maxRecDepth 100000 in
theorem diff_solve_ref (w : World) (σ : FS) (hs : σ.sub w) (n_1 : Int) (v_3 : Value) (facts_2 : Sl Gdiff_Leq) (h_4 : (tSl t_Gdiff_Leq).vrel σ v_3 facts_2) (r : (Sl Int) × (Sl Int)) (hr : diff_solve n_1 facts_2 = some r) : Does Try.prog 29 [.int .i64 n_1, v_3] w σ (diff_solve_post r) := by
  unfold diff_solve at hr
  refine does_of_J Try.func29 rfl (n := 96) rfl rfl hs hr ?_
  refine J_seq ?_
  refine J_region ?_
  refine JL_op rfl (op_read rfl rfl (r_assign (v := .slice none 0 0) rfl) ?_)
  refine JL_op rfl (op_read rfl rfl (r_assign (v := .slice none 0 0) rfl) ?_)
  refine JL_nil ?_
  refine J_then ?_
  refine J_seq ?_
  refine J_region ?_
  refine JL_op rfl (op_read rfl rfl (r_move (v := .int .i64 n_1) rfl) ?_)
  refine JL_op rfl (op_make (T := (tInt .i64)) (q := 0) rfl Try.pu30 Try.pi2 rfl rfl rfl rfl rfl (fun σ => rfl) ?_)
  intro s_5 v_7 hm_6
  refine JL_op rfl (op_read rfl rfl (r_assign (v := v_7) rfl) ?_)
  refine JL_nil ?_
  refine J_then ?_
  refine J_seq ?_
  refine J_region ?_
  refine JL_op rfl (op_read rfl rfl (r_move (v := .int .i64 n_1) rfl) ?_)
  refine JL_op rfl (op_make (T := (tInt .i64)) (q := 0) rfl Try.pu22 Try.pi3 rfl rfl rfl rfl rfl (fun σ => rfl) ?_)
  intro s_9 v_11 hm_10
  refine JL_op rfl (op_read rfl rfl (r_assign (v := v_11) rfl) ?_)
  refine JL_nil ?_
  refine J_then ?_
  refine J_seq ?_
  refine J_region ?_
  refine JL_op rfl (op_read rfl rfl (r_assign (v := .int .i64 (-1)) rfl) ?_)
  refine JL_nil ?_
  refine J_then ?_
  refine J_seq ?_
  refine J_seq ?_
  refine J_region ?_
  refine JL_op rfl (op_read rfl rfl (r_move (v := .int .i64 n_1) rfl) ?_)
  refine JL_op rfl (op_read rfl rfl (r_move (v := .int .i64 0) rfl) ?_)
  refine JL_nil ?_
  refine J_then ?_
  refine J_block ?_
  refine J_loop (fun (y : (Sl Int) × (Sl Int) × Int × Int) L τ PV => ∃ (w0 : Value) (w1 : Value), σ.le τ ∧ L = [(0, .int .i64 n_1), (1, v_3), (6, w1), (7, w0), (8, .int .i64 y.2.2.1), (20, .int .i64 n_1), (21, .int .i64 y.2.2.2)] ∧ PV = [.row Int (tInt .i64) 3 w0 y.1, .row Int (tInt .i64) 2 w1 y.2.1]) (fun (y : W2 ((Sl Int) × Int) ((Sl Int))) e L τ PV => match y, e with | .a y, e => e = .exit 0 ∧ (∃ (w0 : Value), σ.le τ ∧ L = [(0, .int .i64 n_1), (1, v_3), (7, w0), (8, .int .i64 y.2)] ∧ PV = [.row Int (tInt .i64) 3 w0 y.1]) | .b y, e => e = .ret ∧ (∃ (w0 : Value), σ.le τ ∧ L = [(4, w0), (5, .slice none 0 0)] ∧ PV = [.row Int (tInt .i64) 2 w0 y])) _ ?_ ⟨v_11, v_7, (FS.le.refl _), rfl, rfl⟩ ?_ ?_
  · exact ⟨rfl, rfl, rfl, rfl, rfl, rfl, rfl, trivial⟩
  · rintro x_13 _ b s_14 _ ⟨v_16, v_17, hle_15, rfl, rfl⟩
    unfold diff_solve_L2
    refine J_seq ?_
    refine J_region ?_
    refine JL_op rfl (op_read rfl rfl (r_lss rfl rfl) ?_)
    refine JL_nil ?_
    refine J_then ?_
    refine J_seq ?_
    refine J_cond rfl (fun hc_18 => ?_) (fun hc_18 => ?_)
    · refine J_skip ?_
      refine J_then ?_
      refine J_seq ?_
      refine J_block ?_
      refine J_seq ?_
      refine J_region ?_
      refine JL_op rfl (op_read rfl rfl (r_assign (v := .int .i64 (-1)) rfl) ?_)
      refine JL_nil ?_
      refine J_then ?_
      refine J_seq ?_
      refine J_seq ?_
      refine J_region ?_
      refine JL_op rfl (op_read rfl rfl (r_move (v := v_3) rfl) ?_)
      refine JL_op rfl (op_read rfl rfl (r_len_frozen (v := v_3) Try.pu23 rfl (Ty.vmono _ hle_15 h_4)) ?_)
      refine JL_op rfl (op_read rfl rfl (r_move (v := .int .i64 0) rfl) ?_)
      refine JL_nil ?_
      refine J_then ?_
      refine J_block ?_
      refine J_loop (fun (y : (Sl Int) × (Sl Int) × Int × Int) L τ PV => ∃ (w0 : Value) (w1 : Value), s_14.le τ ∧ L = [(0, .int .i64 n_1), (1, v_3), (6, w1), (7, w0), (8, .int .i64 y.2.2.1), (20, .int .i64 n_1), (21, .int .i64 x_13.2.2.2), (23, v_3), (24, .int .i64 facts_2.len), (25, .int .i64 y.2.2.2)] ∧ PV = [.row Int (tInt .i64) 3 w0 y.1, .row Int (tInt .i64) 2 w1 y.2.1]) (fun (y : (Sl Int) × (Sl Int) × Int) e L τ PV => e = .exit 2 ∧ (∃ (w0 : Value) (w1 : Value), s_14.le τ ∧ L = [(0, .int .i64 n_1), (1, v_3), (6, w1), (7, w0), (8, .int .i64 y.2.2), (20, .int .i64 n_1), (21, .int .i64 x_13.2.2.2)] ∧ PV = [.row Int (tInt .i64) 3 w0 y.1, .row Int (tInt .i64) 2 w1 y.2.1])) _ ?_ ⟨v_16, v_17, (FS.le.refl _), rfl, rfl⟩ ?_ ?_
      · exact ⟨rfl, rfl, rfl, rfl, rfl, rfl, rfl, rfl, rfl, rfl, trivial⟩
      · rintro x_19 _ b s_20 _ ⟨v_22, v_23, hle_21, rfl, rfl⟩
        unfold diff_solve_L1
        refine J_seq ?_
        refine J_region ?_
        refine JL_op rfl (op_read rfl rfl (r_lss rfl rfl) ?_)
        refine JL_nil ?_
        refine J_then ?_
        refine J_seq ?_
        refine J_cond rfl (fun hc_24 => ?_) (fun hc_24 => ?_)
        · refine J_skip ?_
          refine J_then ?_
          refine J_seq ?_
          refine J_cut (fun (y : (Sl Int) × (Sl Int) × Int) e L τ PV => e = .normal ∧ (∃ (w0 : Value) (w1 : Value), s_20.le τ ∧ L = [(0, .int .i64 n_1), (1, v_3), (6, w1), (7, w0), (8, .int .i64 y.2.2), (20, .int .i64 n_1), (21, .int .i64 x_13.2.2.2), (23, v_3), (24, .int .i64 facts_2.len), (25, .int .i64 x_19.2.2.2)] ∧ PV = [.row Int (tInt .i64) 3 w0 y.1, .row Int (tInt .i64) 2 w1 y.2.1])) ?_ ?_
          · refine J_block ?_
            refine J_seq ?_
            refine J_region ?_
            refine JL_op rfl (op_read rfl rfl (r_move (v := .int .i64 x_19.2.2.2) rfl) ?_)
            refine J_bind fun x_25 hx_26 => ?_
            refine JL_op rfl (op_read rfl rfl (r_index_frozen (v := v_3) (T := t_Gdiff_Leq) (q := x_25) Try.pu23 Try.pi37 rfl rfl rfl (Ty.vmono _ (FS.le.trans hle_15 hle_21) h_4) hx_26) ?_)
            refine JL_op rfl (op_reads rfl rfl (l_elem_frozen (v := v_3) (T := t_Gdiff_Leq) (Tf := t_Gdiff_Leq) (q := x_25) (i := x_19.2.2.2) (off := 0) Try.pu37 Try.pi37 rfl rfl rfl (Ty.vmono _ (FS.le.trans hle_15 hle_21) h_4) hx_26 (FieldAt.self _) (by decide)) ?_)
            intro v_27 h_28
            obtain rfl := t_Gdiff_Leq_v.1 h_28
            refine JL_op rfl (op_alloc (cs := [.int .i64 0, .int .i64 0, .int .i64 0]) rfl Try.pi37 rfl rfl ?_)
            intro c_29
            refine JL_op rfl (op_read rfl rfl (r_assign (v := .int .i64 x_19.2.2.2) rfl) ?_)
            refine JL_op rfl (op_store_priv (vs := [.int .i64 x_25.X, .int .i64 x_25.Y, .int .i64 x_25.C]) (cs' := [.int .i64 x_25.X, .int .i64 x_25.Y, .int .i64 x_25.C]) (PV' := [.cell c_29 [.int .i64 x_25.X, .int .i64 x_25.Y, .int .i64 x_25.C] 37, .row Int (tInt .i64) 3 v_22 x_19.1, .row Int (tInt .i64) 2 v_23 x_19.2.1]) 0 Try.pi37 rfl rfl rfl ⟨rfl, rfl, rfl, trivial⟩ rfl rfl rfl rfl ?_)
            refine JL_nil ?_
            refine J_then ?_
            refine J_seq ?_
            refine J_region_any [.cell c_29 [.int .i64 x_25.X, .int .i64 x_25.Y, .int .i64 x_25.C] 37, .row Int (tInt .i64) 3 v_22 x_19.1, .row Int (tInt .i64) 2 v_23 x_19.2.1] Try.mixed (by kernel_rfl) fun hns => ?_
            have hS_31 : HeldOK s_20 [.cell c_29 [.int .i64 x_25.X, .int .i64 x_25.Y, .int .i64 x_25.C] 37, .row Int (tInt .i64) 3 v_22 x_19.1, .row Int (tInt .i64) 2 v_23 x_19.2.1] s_20 [.cell c_29 [.int .i64 x_25.X, .int .i64 x_25.Y, .int .i64 x_25.C] 37, .row Int (tInt .i64) 3 v_22 x_19.1, .row Int (tInt .i64) 2 v_23 x_19.2.1] := HeldOK.same ⟨⟨0, rfl⟩, ⟨1, rfl⟩, ⟨2, rfl⟩, trivial⟩
            refine JA_take 0 rfl hns (by kernel_rfl) (by kernel_rfl) hS_31 rfl rfl rfl (r_move (v := v_23) rfl) ?_
            refine JA_take 1 rfl hns (by kernel_rfl) (by kernel_rfl) hS_31 rfl rfl rfl (r_fieldAddr (r := ⟨c_29, 1, none⟩) Try.pu37 (f := Try.pf37.getD 1 default) rfl Try.pi3 (by decide) rfl rfl) ?_
            refine JA_take 2 rfl hns (by kernel_rfl) (by kernel_rfl) hS_31 rfl rfl rfl (r_load_priv (cs' := [.int .i64 x_25.Y]) (v := .int .i64 x_25.Y) 0 Try.pu3 Try.pi3 rfl rfl rfl rfl (by decide) rfl) ?_
            refine J_bind fun x_32 hx_33 => ?_
            refine JA_take 3 rfl hns (by kernel_rfl) (by kernel_rfl) hS_31 rfl rfl rfl (r_index_row (v := v_23) (T := (tInt .i64)) (q := x_32) 2 Try.pu30 Try.pi2 rfl rfl rfl rfl hx_33) ?_
            refine JA_takes 4 rfl hns (by kernel_rfl) (by kernel_rfl) hS_31 rfl rfl rfl (l_elem_row (v := v_23) (T := (tInt .i64)) (Tf := (tInt .i64)) (q := x_32) (i := x_25.Y) (off := 0) 2 Try.pu2 Try.pi2 rfl rfl rfl rfl hx_33 (FieldAt.self _) (by decide)) ?_
            intro v_34 h_35
            obtain rfl := tInt_v.1 h_35
            refine JA_take 5 rfl hns (by kernel_rfl) (by kernel_rfl) hS_31 rfl rfl rfl (r_fieldAddr (r := ⟨c_29, 2, none⟩) Try.pu37 (f := Try.pf37.getD 2 default) rfl Try.pi2 (by decide) rfl rfl) ?_
            refine JA_take 6 rfl hns (by kernel_rfl) (by kernel_rfl) hS_31 rfl rfl rfl (r_load_priv (cs' := [.int .i64 x_25.C]) (v := .int .i64 x_25.C) 0 Try.pu2 Try.pi2 rfl rfl rfl rfl (by decide) rfl) ?_
            refine JA_take 7 rfl hns (by kernel_rfl) (by kernel_rfl) hS_31 rfl rfl rfl (r_add rfl rfl) ?_
            refine JA_take 8 rfl hns (by kernel_rfl) (by kernel_rfl) hS_31 rfl rfl rfl (r_assign (v := .int .i64 (IntKind.i64.wrap (x_32 + x_25.C))) rfl) ?_
            refine JA_done (by kernel_rfl) ?_
            refine J_then ?_
            refine J_seq ?_
            refine J_region ?_
            refine JL_op rfl (op_read rfl rfl (r_move (v := .int .i64 (IntKind.i64.wrap (x_32 + x_25.C))) rfl) ?_)
            refine JL_op rfl (op_read rfl rfl (r_move (v := v_23) rfl) ?_)
            refine JL_op rfl (op_read rfl rfl (r_fieldAddr (r := ⟨c_29, 0, none⟩) Try.pu37 (f := Try.pf37.getD 0 default) rfl Try.pi3 (by decide) rfl rfl) ?_)
            refine JL_op rfl (op_read rfl rfl (r_load_priv (cs' := [.int .i64 x_25.X]) (v := .int .i64 x_25.X) 0 Try.pu3 Try.pi3 rfl rfl rfl rfl (by decide) rfl) ?_)
            refine J_bind fun x_36 hx_37 => ?_
            refine JL_op rfl (op_read rfl rfl (r_index_row (v := v_23) (T := (tInt .i64)) (q := x_36) 2 Try.pu30 Try.pi2 rfl rfl rfl rfl hx_37) ?_)
            refine JL_op rfl (op_reads rfl rfl (l_elem_row (v := v_23) (T := (tInt .i64)) (Tf := (tInt .i64)) (q := x_36) (i := x_25.X) (off := 0) 2 Try.pu2 Try.pi2 rfl rfl rfl rfl hx_37 (FieldAt.self _) (by decide)) ?_)
            intro v_38 h_39
            obtain rfl := tInt_v.1 h_39
            refine JL_op rfl (op_read rfl rfl (r_lss rfl rfl) ?_)
            refine JL_nil ?_
            refine J_then ?_
            refine J_cut (fun (y : (Sl Int) × (Sl Int) × Int) e L τ PV => e = .normal ∧ (∃ (w0 : Value) (w1 : Value), s_20.le τ ∧ L = [(0, .int .i64 n_1), (1, v_3), (6, w1), (7, w0), (8, .int .i64 y.2.2), (20, .int .i64 n_1), (21, .int .i64 x_13.2.2.2), (23, v_3), (24, .int .i64 facts_2.len), (25, .int .i64 x_19.2.2.2)] ∧ PV = [.row Int (tInt .i64) 3 w0 y.1, .row Int (tInt .i64) 2 w1 y.2.1])) ?_ ?_
            · refine J_cond rfl (fun hc_40 => ?_) (fun hc_40 => ?_)
              · refine J_region_any [.cell c_29 [.int .i64 x_25.X, .int .i64 x_25.Y, .int .i64 x_25.C] 37] Try.mixed (by kernel_rfl) fun hns => ?_
                have hS_41 : HeldOK s_20 [.cell c_29 [.int .i64 x_25.X, .int .i64 x_25.Y, .int .i64 x_25.C] 37] s_20 [.cell c_29 [.int .i64 x_25.X, .int .i64 x_25.Y, .int .i64 x_25.C] 37, .row Int (tInt .i64) 3 v_22 x_19.1, .row Int (tInt .i64) 2 v_23 x_19.2.1] := HeldOK.same ⟨⟨0, rfl⟩, trivial⟩
                refine JA_take 0 rfl hns (by kernel_rfl) (by kernel_rfl) hS_41 rfl rfl rfl (r_move (v := v_23) rfl) ?_
                refine JA_take 1 rfl hns (by kernel_rfl) (by kernel_rfl) hS_41 rfl rfl rfl (r_fieldAddr (r := ⟨c_29, 0, none⟩) Try.pu37 (f := Try.pf37.getD 0 default) rfl Try.pi3 (by decide) rfl rfl) ?_
                refine JA_take 2 rfl hns (by kernel_rfl) (by kernel_rfl) hS_41 rfl rfl rfl (r_load_priv (cs' := [.int .i64 x_25.X]) (v := .int .i64 x_25.X) 0 Try.pu3 Try.pi3 rfl rfl rfl rfl (by decide) rfl) ?_
                refine JA_take 3 rfl hns (by kernel_rfl) (by kernel_rfl) hS_41 rfl rfl rfl (r_move (v := v_22) rfl) ?_
                refine JA_take 4 rfl hns (by kernel_rfl) (by kernel_rfl) hS_41 rfl rfl rfl (r_fieldAddr (r := ⟨c_29, 0, none⟩) Try.pu37 (f := Try.pf37.getD 0 default) rfl Try.pi3 (by decide) rfl rfl) ?_
                refine JA_take 5 rfl hns (by kernel_rfl) (by kernel_rfl) hS_41 rfl rfl rfl (r_load_priv (cs' := [.int .i64 x_25.X]) (v := .int .i64 x_25.X) 0 Try.pu3 Try.pi3 rfl rfl rfl rfl (by decide) rfl) ?_
                refine JA_take 6 rfl hns (by kernel_rfl) (by kernel_rfl) hS_41 rfl rfl rfl (r_move (v := .int .i64 (IntKind.i64.wrap (x_32 + x_25.C))) rfl) ?_
                refine JA_take 7 rfl hns (by kernel_rfl) (by kernel_rfl) hS_41 rfl rfl rfl (r_move (v := .int .i64 x_19.2.2.2) rfl) ?_
                refine JA_take 8 rfl hns (by kernel_rfl) (by kernel_rfl) hS_41 rfl rfl rfl (r_move (v := .int .i64 x_19.2.2.2) rfl) ?_
                refine J_bind fun x_42 hx_43 => ?_
                refine JA_op (i := 9) (by kernel_rfl) rfl rfl (op_read rfl rfl (r_index_row (v := v_23) (T := (tInt .i64)) (q := x_42) 2 Try.pu30 Try.pi2 rfl rfl rfl rfl hx_43) ?_)
                have hS_44 : HeldOK s_20 [.cell c_29 [.int .i64 x_25.X, .int .i64 x_25.Y, .int .i64 x_25.C] 37] s_20 [.cell c_29 [.int .i64 x_25.X, .int .i64 x_25.Y, .int .i64 x_25.C] 37, .row Int (tInt .i64) 3 v_22 x_19.1, .row Int (tInt .i64) 2 v_23 x_19.2.1] := HeldOK.same ⟨⟨0, rfl⟩, trivial⟩
                refine ⟨hS_44, ?_⟩
                refine JA_op (i := 10) (by kernel_rfl) rfl rfl (op_store_row (v := v_23) (u := .int .i64 (IntKind.i64.wrap (x_32 + x_25.C))) (T := (tInt .i64)) (q := (IntKind.i64.wrap (x_32 + x_25.C))) (i := x_25.X) 2 Try.pi2 rfl rfl rfl (tInt_v.2 rfl) rfl ?_)
                intro s_45 hs_46
                have hS_47 : HeldOK s_20 [.cell c_29 [.int .i64 x_25.X, .int .i64 x_25.Y, .int .i64 x_25.C] 37] s_20 [.cell c_29 [.int .i64 x_25.X, .int .i64 x_25.Y, .int .i64 x_25.C] 37, .row Int (tInt .i64) 3 v_22 x_19.1, .row Int (tInt .i64) 2 v_23 s_45] := HeldOK.same ⟨⟨0, rfl⟩, trivial⟩
                refine ⟨hS_47, ?_⟩
                refine J_bind fun x_48 hx_49 => ?_
                refine JA_op (i := 11) (by kernel_rfl) rfl rfl (op_read rfl rfl (r_index_row (v := v_22) (T := (tInt .i64)) (q := x_48) 1 Try.pu22 Try.pi3 rfl rfl rfl rfl hx_49) ?_)
                have hS_50 : HeldOK s_20 [.cell c_29 [.int .i64 x_25.X, .int .i64 x_25.Y, .int .i64 x_25.C] 37] s_20 [.cell c_29 [.int .i64 x_25.X, .int .i64 x_25.Y, .int .i64 x_25.C] 37, .row Int (tInt .i64) 3 v_22 x_19.1, .row Int (tInt .i64) 2 v_23 s_45] := HeldOK.same ⟨⟨0, rfl⟩, trivial⟩
                refine ⟨hS_50, ?_⟩
                refine JA_op (i := 12) (by kernel_rfl) rfl rfl (op_store_row (v := v_22) (u := .int .i64 x_19.2.2.2) (T := (tInt .i64)) (q := x_19.2.2.2) (i := x_25.X) 1 Try.pi3 rfl rfl rfl (tInt_v.2 rfl) rfl ?_)
                intro s_51 hs_52
                have hS_53 : HeldOK s_20 [.cell c_29 [.int .i64 x_25.X, .int .i64 x_25.Y, .int .i64 x_25.C] 37] s_20 [.cell c_29 [.int .i64 x_25.X, .int .i64 x_25.Y, .int .i64 x_25.C] 37, .row Int (tInt .i64) 3 v_22 s_51, .row Int (tInt .i64) 2 v_23 s_45] := HeldOK.same ⟨⟨0, rfl⟩, trivial⟩
                refine ⟨hS_53, ?_⟩
                refine JA_take 13 rfl hns (by kernel_rfl) (by kernel_rfl) hS_53 rfl rfl rfl (r_assign (v := .int .i64 x_19.2.2.2) rfl) ?_
                refine JA_done (by kernel_rfl) ?_
                refine J_select (PV' := [.row Int (tInt .i64) 3 v_22 s_51, .row Int (tInt .i64) 2 v_23 s_45]) [1, 2] (by decide) rfl ?_
                refine J_cut_end _ ?_ ⟨rfl, v_22, v_23, (FS.le.refl _), rfl, rfl⟩ trivial
                exact ⟨rfl, rfl, rfl, rfl, rfl, rfl, rfl, rfl, rfl, rfl, trivial⟩
              · refine J_skip ?_
                refine J_select (PV' := [.row Int (tInt .i64) 3 v_22 x_19.1, .row Int (tInt .i64) 2 v_23 x_19.2.1]) [1, 2] (by decide) rfl ?_
                refine J_cut_end _ ?_ ⟨rfl, v_22, v_23, (FS.le.refl _), rfl, rfl⟩ trivial
                exact ⟨rfl, rfl, rfl, rfl, rfl, rfl, rfl, rfl, rfl, rfl, trivial⟩
            · rintro y_54 _ _ b s_55 _ ⟨rfl, ⟨v_57, v_58, hle_56, rfl, rfl⟩⟩
              refine J_in_normal ?_
              refine J_cut_end _ ?_ ⟨rfl, v_57, v_58, hle_56, rfl, rfl⟩ trivial
              exact ⟨rfl, rfl, rfl, rfl, rfl, rfl, rfl, rfl, rfl, rfl, trivial⟩
          · rintro y_59 _ _ b s_60 _ ⟨rfl, ⟨v_62, v_63, hle_61, rfl, rfl⟩⟩
            refine J_then ?_
            refine J_region ?_
            refine JL_op rfl (op_read rfl rfl (r_add rfl rfl) ?_)
            refine JL_op rfl (op_read rfl rfl (r_move (v := .int .i64 (IntKind.i64.wrap (x_19.2.2.2 + 1))) rfl) ?_)
            refine JL_nil ?_
            refine J_next _ ?_ ⟨v_62, v_63, (FS.le.trans hle_21 hle_61), rfl, rfl⟩
            exact ⟨rfl, rfl, rfl, rfl, rfl, rfl, rfl, rfl, rfl, rfl, trivial⟩
        · refine J_exit ?_
          refine J_then_exit ?_
          refine J_done trivial _ ?_ ⟨rfl, v_22, v_23, hle_21, rfl, rfl⟩
          exact ⟨rfl, rfl, rfl, rfl, rfl, rfl, rfl, trivial⟩
      · rintro y_64 _ _ b s_65 _ ⟨rfl, ⟨v_67, v_68, hle_66, rfl, rfl⟩⟩
        refine J_in_exit ?_
        refine J_then ?_
        refine J_seq ?_
        refine J_region ?_
        refine JL_op rfl (op_read rfl rfl (r_move (v := .int .i64 y_64.2.2) rfl) ?_)
        refine JL_op rfl (op_read rfl rfl (r_lss rfl rfl) ?_)
        refine JL_nil ?_
        refine J_then ?_
        refine J_cond rfl (fun hc_69 => ?_) (fun hc_69 => ?_)
        · refine J_seq ?_
          refine J_region ?_
          refine JL_op rfl (op_read rfl rfl (r_move (v := v_68) rfl) ?_)
          refine JL_op rfl (op_read rfl rfl (r_assign (v := v_68) rfl) ?_)
          refine JL_op rfl (op_read rfl rfl (r_assign (v := .slice none 0 0) rfl) ?_)
          refine JL_nil ?_
          refine J_then ?_
          refine J_ret ?_
          refine J_in_ret ?_
          refine J_then_ret ?_
          refine J_select (PV' := [.row Int (tInt .i64) 2 v_68 y_64.2.1]) [1] (by decide) rfl ?_
          refine J_done trivial _ ?_ ⟨rfl, v_68, (FS.le.trans hle_15 hle_66), rfl, rfl⟩
          exact ⟨rfl, rfl, trivial⟩
        · refine J_skip ?_
          refine J_in_normal ?_
          refine J_then ?_
          refine J_region ?_
          refine JL_op rfl (op_read rfl rfl (r_add rfl rfl) ?_)
          refine JL_op rfl (op_read rfl rfl (r_move (v := .int .i64 (IntKind.i64.wrap (x_13.2.2.2 + 1))) rfl) ?_)
          refine JL_nil ?_
          refine J_next _ ?_ ⟨v_67, v_68, (FS.le.trans hle_15 hle_66), rfl, rfl⟩
          exact ⟨rfl, rfl, rfl, rfl, rfl, rfl, rfl, trivial⟩
    · refine J_exit ?_
      refine J_then_exit ?_
      refine J_select (PV' := [.row Int (tInt .i64) 3 v_16 x_13.1]) [0] (by decide) rfl ?_
      refine J_done trivial _ ?_ ⟨rfl, v_16, hle_15, rfl, rfl⟩
      exact ⟨rfl, rfl, rfl, rfl, trivial⟩
  · rintro (y_71 | y_120) e L b τ PV ht
    · obtain ⟨rfl, ht⟩ := ht
      revert ht; revert PV; revert τ; revert b; revert L
      rintro _ b s_72 _ ⟨v_74, hle_73, rfl, rfl⟩
      refine J_in_exit ?_
      refine J_then ?_
      refine J_seq ?_
      refine J_region ?_
      refine JL_op rfl (op_read rfl rfl (r_move (v := v_3) rfl) ?_)
      refine JL_op rfl (op_read rfl rfl (r_move (v := .int .i64 y_71.2) rfl) ?_)
      refine J_bind fun x_75 hx_76 => ?_
      refine JL_op rfl (op_read rfl rfl (r_index_frozen (v := v_3) (T := t_Gdiff_Leq) (q := x_75) Try.pu23 Try.pi37 rfl rfl rfl (Ty.vmono _ hle_73 h_4) hx_76) ?_)
      refine JL_op rfl (op_read rfl rfl (r_fieldAddr (r := elemAddr v_3 ((y_71.2).toNat * t_Gdiff_Leq.size + 0)) Try.pu37 (f := Try.pf37.getD 0 default) rfl Try.pi3 (by decide) rfl (elemAddr_add _ _ _)) ?_)
      refine JL_op rfl (op_reads rfl rfl (l_elem_frozen (v := v_3) (T := t_Gdiff_Leq) (Tf := (tInt .i64)) (q := x_75) (i := y_71.2) (off := 0) Try.pu3 Try.pi3 rfl rfl rfl (Ty.vmono _ hle_73 h_4) hx_76 f_Gdiff_Leq_X (by decide)) ?_)
      intro v_77 h_78
      obtain rfl := tInt_v.1 h_78
      refine JL_op rfl (op_read rfl rfl (r_assign (v := .int .i64 x_75.X) rfl) ?_)
      refine JL_nil ?_
      refine J_then ?_
      refine J_seq ?_
      refine J_seq ?_
      refine J_region ?_
      refine JL_op rfl (op_read rfl rfl (r_move (v := .int .i64 n_1) rfl) ?_)
      refine JL_op rfl (op_read rfl rfl (r_move (v := .int .i64 0) rfl) ?_)
      refine JL_nil ?_
      refine J_then ?_
      refine J_block ?_
      refine J_loop (fun (y : Int × Int) L τ PV => s_72.le τ ∧ L = [(1, v_3), (7, v_74), (12, .int .i64 y.1), (66, .int .i64 n_1), (67, .int .i64 y.2)] ∧ PV = [.row Int (tInt .i64) 3 v_74 y_71.1]) (fun (y : Int) e L τ PV => e = .exit 4 ∧ (s_72.le τ ∧ L = [(1, v_3), (7, v_74), (12, .int .i64 y)] ∧ PV = [.row Int (tInt .i64) 3 v_74 y_71.1])) _ ?_ ⟨(FS.le.refl _), rfl, rfl⟩ ?_ ?_
      · exact ⟨rfl, rfl, rfl, rfl, rfl, trivial⟩
      · rintro x_79 _ b s_80 _ ⟨hle_81, rfl, rfl⟩
        unfold diff_solve_L3
        refine J_seq ?_
        refine J_region ?_
        refine JL_op rfl (op_read rfl rfl (r_lss rfl rfl) ?_)
        refine JL_nil ?_
        refine J_then ?_
        refine J_seq ?_
        refine J_cond rfl (fun hc_82 => ?_) (fun hc_82 => ?_)
        · refine J_skip ?_
          refine J_then ?_
          refine J_seq ?_
          refine J_block ?_
          refine J_region ?_
          refine JL_op rfl (op_read rfl rfl (r_move (v := v_3) rfl) ?_)
          refine JL_op rfl (op_read rfl rfl (r_move (v := v_74) rfl) ?_)
          refine JL_op rfl (op_read rfl rfl (r_move (v := .int .i64 x_79.1) rfl) ?_)
          refine J_bind fun x_83 hx_84 => ?_
          refine JL_op rfl (op_read rfl rfl (r_index_row (v := v_74) (T := (tInt .i64)) (q := x_83) 0 Try.pu22 Try.pi3 rfl rfl rfl rfl hx_84) ?_)
          refine JL_op rfl (op_reads rfl rfl (l_elem_row (v := v_74) (T := (tInt .i64)) (Tf := (tInt .i64)) (q := x_83) (i := x_79.1) (off := 0) 0 Try.pu3 Try.pi3 rfl rfl rfl rfl hx_84 (FieldAt.self _) (by decide)) ?_)
          intro v_85 h_86
          obtain rfl := tInt_v.1 h_86
          refine J_bind fun x_87 hx_88 => ?_
          refine JL_op rfl (op_read rfl rfl (r_index_frozen (v := v_3) (T := t_Gdiff_Leq) (q := x_87) Try.pu23 Try.pi37 rfl rfl rfl (Ty.vmono _ (FS.le.trans hle_73 hle_81) h_4) hx_88) ?_)
          refine JL_op rfl (op_read rfl rfl (r_fieldAddr (r := elemAddr v_3 ((x_83).toNat * t_Gdiff_Leq.size + 1)) Try.pu37 (f := Try.pf37.getD 1 default) rfl Try.pi3 (by decide) rfl (elemAddr_add _ _ _)) ?_)
          refine JL_op rfl (op_reads rfl rfl (l_elem_frozen (v := v_3) (T := t_Gdiff_Leq) (Tf := (tInt .i64)) (q := x_87) (i := x_83) (off := 1) Try.pu3 Try.pi3 rfl rfl rfl (Ty.vmono _ (FS.le.trans hle_73 hle_81) h_4) hx_88 f_Gdiff_Leq_Y (by decide)) ?_)
          intro v_89 h_90
          obtain rfl := tInt_v.1 h_90
          refine JL_op rfl (op_read rfl rfl (r_assign (v := .int .i64 x_87.Y) rfl) ?_)
          refine JL_nil ?_
          refine J_in_normal ?_
          refine J_then ?_
          refine J_region ?_
          refine JL_op rfl (op_read rfl rfl (r_add rfl rfl) ?_)
          refine JL_op rfl (op_read rfl rfl (r_move (v := .int .i64 (IntKind.i64.wrap (x_79.2 + 1))) rfl) ?_)
          refine JL_nil ?_
          refine J_next _ ?_ ⟨hle_81, rfl, rfl⟩
          exact ⟨rfl, rfl, rfl, rfl, rfl, trivial⟩
        · refine J_exit ?_
          refine J_then_exit ?_
          refine J_done trivial _ ?_ ⟨rfl, hle_81, rfl, rfl⟩
          exact ⟨rfl, rfl, rfl, trivial⟩
      · rintro y_91 _ _ b s_92 _ ⟨rfl, ⟨hle_93, rfl, rfl⟩⟩
        refine J_in_exit ?_
        refine J_then ?_
        refine J_seq ?_
        refine J_region ?_
        refine JL_op rfl (op_read rfl rfl (r_assign (v := .slice none 0 0) rfl) ?_)
        refine JL_nil ?_
        refine J_then ?_
        refine J_seq ?_
        refine J_region ?_
        refine JL_op rfl (op_read rfl rfl (r_move (v := .int .i64 y_91) rfl) ?_)
        refine JL_op rfl (op_read rfl rfl (r_assign (v := .int .i64 y_91) rfl) ?_)
        refine JL_nil ?_
        refine J_then ?_
        refine J_block ?_
        refine J_nil_row (tInt .i64) 3 ?_
        refine J_select (PV' := [.row Int (tInt .i64) 3 v_74 y_71.1, .row Int (tInt .i64) 3 (.slice none 0 0) (⟨[], false⟩ : Sl Int)]) [1, 0] (by decide) rfl ?_
        refine J_loop (fun (y : (Sl Int) × Int) L τ PV => ∃ (w0 : Value), s_92.le τ ∧ L = [(1, v_3), (7, v_74), (12, .int .i64 y_91), (13, w0), (14, .int .i64 y.2)] ∧ PV = [.row Int (tInt .i64) 3 v_74 y_71.1, .row Int (tInt .i64) 3 w0 y.1]) (fun (y : (Sl Int)) e L τ PV => e = .ret ∧ (∃ (w0 : Value), s_92.le τ ∧ L = [(4, .slice none 0 0), (5, w0)] ∧ PV = [.row Int (tInt .i64) 3 w0 y])) _ ?_ ⟨(.slice none 0 0), (FS.le.refl _), rfl, rfl⟩ ?_ ?_
        · exact ⟨rfl, rfl, rfl, rfl, rfl, trivial⟩
        · rintro x_95 _ b s_96 _ ⟨v_98, hle_97, rfl, rfl⟩
          unfold diff_solve_L4
          refine J_block ?_
          refine J_seq ?_
          refine J_region ?_
          refine JL_op rfl (op_read rfl rfl (r_move (v := v_74) rfl) ?_)
          refine JL_op rfl (op_read rfl rfl (r_move (v := .int .i64 x_95.2) rfl) ?_)
          refine J_bind fun x_100 hx_101 => ?_
          refine JL_op rfl (op_read rfl rfl (r_index_row (v := v_74) (T := (tInt .i64)) (q := x_100) 0 Try.pu22 Try.pi3 rfl rfl rfl rfl hx_101) ?_)
          refine JL_op rfl (op_reads rfl rfl (l_elem_row (v := v_74) (T := (tInt .i64)) (Tf := (tInt .i64)) (q := x_100) (i := x_95.2) (off := 0) 0 Try.pu3 Try.pi3 rfl rfl rfl rfl hx_101 (FieldAt.self _) (by decide)) ?_)
          intro v_102 h_103
          obtain rfl := tInt_v.1 h_103
          refine JL_op rfl (op_read rfl rfl (r_assign (v := .int .i64 x_100) rfl) ?_)
          refine JL_nil ?_
          refine J_then ?_
          refine J_seq ?_
          refine J_region ?_
          refine JL_op rfl (op_read rfl rfl (r_move (v := v_98) rfl) ?_)
          refine JL_op rfl (op_read rfl rfl (r_move (v := .int .i64 x_100) rfl) ?_)
          refine JL_op rfl (op_buildSlice (T := (tInt .i64)) (vs := [.int .i64 x_100]) (xs := [x_100]) rfl Try.pu22 Try.pi3 rfl rfl rfl rfl rfl rfl ⟨(tInt_v.2 rfl), trivial⟩ ?_)
          intro v_104
          refine JL_op rfl (op_append (v := v_98) (u := v_104) (T := (tInt .i64)) (ts := [x_100]) 2 rfl Try.pu22 Try.pi3 rfl rfl rfl rfl rfl rfl rfl (source_row (s := (⟨[x_100], true⟩ : Sl Int)) 0 rfl) ?_)
          intro s_106 v_108 ha_107
          refine JL_op rfl (op_read rfl rfl (r_assign (v := v_108) rfl) ?_)
          refine JL_nil ?_
          refine J_then ?_
          refine J_seq ?_
          refine J_region ?_
          refine JL_op rfl (op_read rfl rfl (r_move (v := v_3) rfl) ?_)
          refine JL_op rfl (op_read rfl rfl (r_move (v := .int .i64 x_100) rfl) ?_)
          refine J_bind fun x_109 hx_110 => ?_
          refine JL_op rfl (op_read rfl rfl (r_index_frozen (v := v_3) (T := t_Gdiff_Leq) (q := x_109) Try.pu23 Try.pi37 rfl rfl rfl (Ty.vmono _ (FS.le.trans (FS.le.trans hle_73 hle_93) hle_97) h_4) hx_110) ?_)
          refine JL_op rfl (op_read rfl rfl (r_fieldAddr (r := elemAddr v_3 ((x_100).toNat * t_Gdiff_Leq.size + 1)) Try.pu37 (f := Try.pf37.getD 1 default) rfl Try.pi3 (by decide) rfl (elemAddr_add _ _ _)) ?_)
          refine JL_op rfl (op_reads rfl rfl (l_elem_frozen (v := v_3) (T := t_Gdiff_Leq) (Tf := (tInt .i64)) (q := x_109) (i := x_100) (off := 1) Try.pu3 Try.pi3 rfl rfl rfl (Ty.vmono _ (FS.le.trans (FS.le.trans hle_73 hle_93) hle_97) h_4) hx_110 f_Gdiff_Leq_Y (by decide)) ?_)
          intro v_111 h_112
          obtain rfl := tInt_v.1 h_112
          refine JL_op rfl (op_read rfl rfl (r_assign (v := .int .i64 x_109.Y) rfl) ?_)
          refine JL_nil ?_
          refine J_then ?_
          refine J_seq ?_
          refine J_region ?_
          refine JL_op rfl (op_read rfl rfl (r_move (v := .int .i64 x_109.Y) rfl) ?_)
          refine JL_op rfl (op_read rfl rfl (r_move (v := .int .i64 y_91) rfl) ?_)
          refine JL_op rfl (op_read rfl rfl (r_eql rfl rfl) ?_)
          refine JL_nil ?_
          refine J_then ?_
          refine J_cond rfl (fun hc_113 => ?_) (fun hc_113 => ?_)
          · refine J_seq ?_
            refine J_region ?_
            refine JL_op rfl (op_read rfl rfl (r_move (v := v_108) rfl) ?_)
            refine JL_op rfl (op_read rfl rfl (r_assign (v := .slice none 0 0) rfl) ?_)
            refine JL_op rfl (op_read rfl rfl (r_assign (v := v_108) rfl) ?_)
            refine JL_nil ?_
            refine J_then ?_
            refine J_ret ?_
            refine J_in_ret ?_
            refine J_select (PV' := [.row Int (tInt .i64) 3 v_108 s_106]) [2] (by decide) rfl ?_
            refine J_done trivial _ ?_ ⟨rfl, v_108, hle_97, rfl, rfl⟩
            exact ⟨rfl, rfl, trivial⟩
          · refine J_skip ?_
            refine J_in_normal ?_
            refine J_select (PV' := [.row Int (tInt .i64) 3 v_74 y_71.1, .row Int (tInt .i64) 3 v_108 s_106]) [1, 2] (by decide) rfl ?_
            refine J_next _ ?_ ⟨v_108, hle_97, rfl, rfl⟩
            exact ⟨rfl, rfl, rfl, rfl, rfl, trivial⟩
        · rintro y_114 _ _ b s_115 _ ⟨rfl, ⟨v_117, hle_116, rfl, rfl⟩⟩
          refine J_in_ret ?_
          refine J_nil_row (tInt .i64) 2 ?_
          exact J_return2 rfl ⟨_, _, rfl, rfl⟩
    · obtain ⟨rfl, ht⟩ := ht
      revert ht; revert PV; revert τ; revert b; revert L
      rintro _ b s_121 _ ⟨v_123, hle_122, rfl, rfl⟩
      refine J_in_ret ?_
      refine J_then_ret ?_
      refine J_nil_row (tInt .i64) 3 ?_
      refine J_select (PV' := [.row Int (tInt .i64) 2 v_123 y_120, .row Int (tInt .i64) 3 (.slice none 0 0) (⟨[], false⟩ : Sl Int)]) [1, 0] (by decide) rfl ?_
      exact J_return2 rfl ⟨_, _, rfl, rfl⟩
def diff_Entails_post (r : Bool × Int) (σ : FS) (PV : List Priv) (v : Value) : Prop :=
  v = .tuple #[.bool r.1, .int .i64 r.2] ∧ PV = []
set_option maxRecDepth 100000 in
theorem diff_Entails_ref (w : World) (σ : FS) (hs : σ.sub w) (n_1 : Int) (v_3 : Value) (goal_2 : Gdiff_Leq) (h_4 : t_Gdiff_Leq.vrel σ v_3 goal_2) (v_6 : Value) (facts_5 : Sl Gdiff_Leq) (h_7 : (tSl t_Gdiff_Leq).vrel σ v_6 facts_5) (r : Bool × Int) (hr : diff_Entails n_1 goal_2 facts_5 = some r) : Does Try.prog 18 [.int .i64 n_1, v_3, v_6] w σ (diff_Entails_post r) := by
  unfold diff_Entails at hr
  obtain rfl := t_Gdiff_Leq_v.1 h_4
  refine does_of_J Try.func18 rfl (n := 47) rfl rfl hs hr ?_
  refine J_seq ?_
  refine J_region ?_
  refine JL_op rfl (op_box (cs := [.int .i64 goal_2.X, .int .i64 goal_2.Y, .int .i64 goal_2.C]) rfl rfl ?_)
  intro c_8
  refine JL_op rfl (op_read rfl rfl (r_assign (v := .bool false) rfl) ?_)
  refine JL_op rfl (op_read rfl rfl (r_assign (v := .int .i64 0) rfl) ?_)
  refine JL_nil ?_
  refine J_then ?_
  refine J_seq ?_
  refine J_region_any [.cell c_8 [.int .i64 goal_2.X, .int .i64 goal_2.Y, .int .i64 goal_2.C] 37] Try.mixed (by kernel_rfl) fun hns => ?_
  have hS_10 : HeldOK σ [.cell c_8 [.int .i64 goal_2.X, .int .i64 goal_2.Y, .int .i64 goal_2.C] 37] σ [.cell c_8 [.int .i64 goal_2.X, .int .i64 goal_2.Y, .int .i64 goal_2.C] 37] := HeldOK.same ⟨⟨0, rfl⟩, trivial⟩
  refine JA_take 0 rfl hns (by kernel_rfl) (by kernel_rfl) hS_10 rfl rfl rfl (r_move (v := v_6) rfl) ?_
  refine JA_take 2 rfl hns (by kernel_rfl) (by kernel_rfl) hS_10 rfl rfl rfl (r_load_priv (cs' := [.int .i64 goal_2.X, .int .i64 goal_2.Y, .int .i64 goal_2.C]) (v := .agg #[.int .i64 goal_2.X, .int .i64 goal_2.Y, .int .i64 goal_2.C]) 0 Try.pu37 Try.pi37 rfl rfl rfl rfl (by decide) rfl) ?_
  refine J_meetD (fun y => diff_Entails_K1 facts_5 goal_2 n_1 y) 0 #[true, true, true, true, true, true] (fun (y : (Sl Gdiff_Leq)) L τ PV => ∃ (w0 : Value), σ.le τ ∧ L = [(0, .int .i64 n_1), (2, v_6), (4, .pointer (some ⟨c_8, 0, none⟩)), (8, w0)] ∧ PV = [.cell c_8 [.int .i64 goal_2.X, .int .i64 goal_2.Y, .int .i64 goal_2.C] 37, .row Gdiff_Leq t_Gdiff_Leq 37 w0 y]) (fun hk => ?_) ?_
  · refine JA_two (i := 1) (j := 3) (by kernel_rfl) ?_ ?_
    · refine J1_op rfl rfl (op_call (f := 24) (fn := Try.f24) (args := [v_6]) (post := slices_Clone_post) rfl rfl rfl Try.func24 Try.pn24 rfl rfl (fun y w hy hs => slices_Clone_ref w _ hs v_6 facts_5 h_7 y hy) ?_)
      intro r_40 v_42 s_43 PV_45 hy_41 hle_44 hp_46
      obtain ⟨_, rfl, rfl⟩ := hp_46
      have hS_48 : HeldOK σ [.cell c_8 [.int .i64 goal_2.X, .int .i64 goal_2.Y, .int .i64 goal_2.C] 37] s_43 [.row Gdiff_Leq t_Gdiff_Leq 37 v_42 r_40, .cell c_8 [.int .i64 goal_2.X, .int .i64 goal_2.Y, .int .i64 goal_2.C] 37] := HeldOK.plain hle_44 ⟨⟨1, rfl⟩, trivial⟩ trivial
      refine ⟨hS_48, ?_⟩
      refine JA_op (i := 3) (by kernel_rfl) rfl rfl (op_buildSlice (T := t_Gdiff_Leq) (vs := [.agg #[.int .i64 goal_2.X, .int .i64 goal_2.Y, .int .i64 goal_2.C]]) (xs := [goal_2]) rfl Try.pu23 Try.pi37 rfl rfl rfl rfl rfl rfl ⟨(t_Gdiff_Leq_v.2 rfl), trivial⟩ ?_)
      intro v_49
      have hS_51 : HeldOK σ [.cell c_8 [.int .i64 goal_2.X, .int .i64 goal_2.Y, .int .i64 goal_2.C] 37] s_43 [.row Gdiff_Leq t_Gdiff_Leq 37 v_49 (⟨[goal_2], true⟩ : Sl Gdiff_Leq), .row Gdiff_Leq t_Gdiff_Leq 37 v_42 r_40, .cell c_8 [.int .i64 goal_2.X, .int .i64 goal_2.Y, .int .i64 goal_2.C] 37] := HeldOK.plain hle_44 ⟨⟨2, rfl⟩, trivial⟩ trivial
      refine ⟨hS_51, ?_⟩
      refine JA_op (i := 4) (by kernel_rfl) rfl rfl (op_append (v := v_42) (u := v_49) (T := t_Gdiff_Leq) (ts := [goal_2]) 1 rfl Try.pu23 Try.pi37 rfl rfl rfl rfl rfl rfl rfl (source_row (s := (⟨[goal_2], true⟩ : Sl Gdiff_Leq)) 0 rfl) ?_)
      intro s_52 v_54 ha_53
      have hS_55 : HeldOK σ [.cell c_8 [.int .i64 goal_2.X, .int .i64 goal_2.Y, .int .i64 goal_2.C] 37] s_43 [.row Gdiff_Leq t_Gdiff_Leq 37 v_49 (⟨[goal_2], true⟩ : Sl Gdiff_Leq), .row Gdiff_Leq t_Gdiff_Leq 37 v_54 s_52, .cell c_8 [.int .i64 goal_2.X, .int .i64 goal_2.Y, .int .i64 goal_2.C] 37] := HeldOK.plain hle_44 ⟨⟨2, rfl⟩, trivial⟩ trivial
      refine ⟨hS_55, ?_⟩
      refine JA_take 5 rfl hns (by kernel_rfl) (by kernel_rfl) hS_55 rfl rfl rfl (r_assign (v := v_54) rfl) ?_
      refine J_select (PV' := [.cell c_8 [.int .i64 goal_2.X, .int .i64 goal_2.Y, .int .i64 goal_2.C] 37, .row Gdiff_Leq t_Gdiff_Leq 37 v_54 s_52]) [2, 1] (by decide) rfl ?_
      refine J_prune _ ?_ fun b => hk s_52 _ b _ _ ⟨v_54, hle_44, rfl, rfl⟩
      exact ⟨rfl, rfl, rfl, rfl, trivial⟩
    · refine J1_op rfl rfl (op_buildSlice (T := t_Gdiff_Leq) (vs := [.agg #[.int .i64 goal_2.X, .int .i64 goal_2.Y, .int .i64 goal_2.C]]) (xs := [goal_2]) rfl Try.pu23 Try.pi37 rfl rfl rfl rfl rfl rfl ⟨(t_Gdiff_Leq_v.2 rfl), trivial⟩ ?_)
      intro v_56
      have hS_58 : HeldOK σ [.cell c_8 [.int .i64 goal_2.X, .int .i64 goal_2.Y, .int .i64 goal_2.C] 37] σ [.row Gdiff_Leq t_Gdiff_Leq 37 v_56 (⟨[goal_2], true⟩ : Sl Gdiff_Leq), .cell c_8 [.int .i64 goal_2.X, .int .i64 goal_2.Y, .int .i64 goal_2.C] 37] := HeldOK.same ⟨⟨1, rfl⟩, trivial⟩
      refine ⟨hS_58, ?_⟩
      refine JA_op (i := 1) (by kernel_rfl) rfl rfl (op_call (f := 24) (fn := Try.f24) (args := [v_6]) (post := slices_Clone_post) rfl rfl rfl Try.func24 Try.pn24 rfl rfl (fun y w hy hs => slices_Clone_ref w _ hs v_6 facts_5 h_7 y hy) ?_)
      intro r_59 v_61 s_62 PV_64 hy_60 hle_63 hp_65
      obtain ⟨_, rfl, rfl⟩ := hp_65
      have hS_67 : HeldOK σ [.cell c_8 [.int .i64 goal_2.X, .int .i64 goal_2.Y, .int .i64 goal_2.C] 37] s_62 [.row Gdiff_Leq t_Gdiff_Leq 37 v_61 r_59, .row Gdiff_Leq t_Gdiff_Leq 37 v_56 (⟨[goal_2], true⟩ : Sl Gdiff_Leq), .cell c_8 [.int .i64 goal_2.X, .int .i64 goal_2.Y, .int .i64 goal_2.C] 37] := HeldOK.plain hle_63 ⟨⟨2, rfl⟩, trivial⟩ trivial
      refine ⟨hS_67, ?_⟩
      refine JA_op (i := 4) (by kernel_rfl) rfl rfl (op_append (v := v_61) (u := v_56) (T := t_Gdiff_Leq) (ts := [goal_2]) 0 rfl Try.pu23 Try.pi37 rfl rfl rfl rfl rfl rfl rfl (source_row (s := (⟨[goal_2], true⟩ : Sl Gdiff_Leq)) 1 rfl) ?_)
      intro s_68 v_70 ha_69
      have hS_71 : HeldOK σ [.cell c_8 [.int .i64 goal_2.X, .int .i64 goal_2.Y, .int .i64 goal_2.C] 37] s_62 [.row Gdiff_Leq t_Gdiff_Leq 37 v_70 s_68, .row Gdiff_Leq t_Gdiff_Leq 37 v_56 (⟨[goal_2], true⟩ : Sl Gdiff_Leq), .cell c_8 [.int .i64 goal_2.X, .int .i64 goal_2.Y, .int .i64 goal_2.C] 37] := HeldOK.plain hle_63 ⟨⟨2, rfl⟩, trivial⟩ trivial
      refine ⟨hS_71, ?_⟩
      refine JA_take 5 rfl hns (by kernel_rfl) (by kernel_rfl) hS_71 rfl rfl rfl (r_assign (v := v_70) rfl) ?_
      refine J_select (PV' := [.cell c_8 [.int .i64 goal_2.X, .int .i64 goal_2.Y, .int .i64 goal_2.C] 37, .row Gdiff_Leq t_Gdiff_Leq 37 v_70 s_68]) [2, 0] (by decide) rfl ?_
      refine J_prune _ ?_ fun b => hk s_68 _ b _ _ ⟨v_70, hle_63, rfl, rfl⟩
      exact ⟨rfl, rfl, rfl, rfl, trivial⟩
  · rintro y_11 _ b s_12 _ ⟨v_14, hle_13, rfl, rfl⟩
    unfold diff_Entails_K1
    refine JA_done (by kernel_rfl) ?_
    refine J_then ?_
    refine J_seq ?_
    refine J_seq ?_
    refine J_region ?_
    refine JL_op rfl (op_read rfl rfl (r_move (v := .int .i64 n_1) rfl) ?_)
    refine JL_op rfl (op_read rfl rfl (r_move (v := v_14) rfl) ?_)
    refine JL_op rfl (op_call_lend (f := 28) (fn := Try.f28) (args := [.int .i64 n_1, v_14]) (post := diff_fit_post) rfl rfl rfl Try.func28 Try.pn28 rfl rfl (fun y w τ hy hle hs hrow => diff_fit_ref w τ hs n_1 v_14 y_11 (hrow 1 _ _ _ _ _ rfl) y hy) (fun y σ' PV' v hp => by obtain ⟨rfl, rfl⟩ := hp; exact trivial) ?_)
    intro r_16 v_18 s_19 PV_21 hy_17 hp_22
    obtain ⟨rfl, rfl⟩ := hp_22
    refine JL_op rfl (op_read rfl rfl (r_assign (v := .int .i64 r_16) rfl) ?_)
    refine JL_nil ?_
    refine J_then ?_
    refine J_seq ?_
    refine J_region ?_
    refine JL_op rfl (op_read rfl rfl (r_move (v := .int .i64 r_16) rfl) ?_)
    refine JL_op rfl (op_read rfl rfl (r_neq rfl rfl) ?_)
    refine JL_nil ?_
    refine J_then ?_
    refine J_cond rfl (fun hc_23 => ?_) (fun hc_23 => ?_)
    · refine J_seq ?_
      refine J_region ?_
      refine JL_op rfl (op_read rfl rfl (r_move (v := .int .i64 r_16) rfl) ?_)
      refine JL_op rfl (op_read rfl rfl (r_assign (v := .bool false) rfl) ?_)
      refine JL_op rfl (op_read rfl rfl (r_assign (v := .int .i64 r_16) rfl) ?_)
      refine JL_nil ?_
      refine J_then ?_
      refine J_ret ?_
      refine J_then_ret ?_
      refine J_select (PV' := []) [] (by decide) rfl ?_
      exact J_return2 rfl ⟨rfl, rfl⟩
    · refine J_skip ?_
      refine J_then ?_
      refine J_seq ?_
      refine J_seq ?_
      refine J_region ?_
      refine JL_op rfl (op_read rfl rfl (r_fieldAddr (r := ⟨c_8, 2, none⟩) Try.pu37 (f := Try.pf37.getD 2 default) rfl Try.pi2 (by decide) rfl rfl) ?_)
      refine JL_op rfl (op_read rfl rfl (r_load_priv (cs' := [.int .i64 goal_2.C]) (v := .int .i64 goal_2.C) 0 Try.pu2 Try.pi2 rfl rfl rfl rfl (by decide) rfl) ?_)
      refine JL_op rfl (op_read rfl rfl (r_eql rfl rfl) ?_)
      refine JL_nil ?_
      refine J_then ?_
      refine J_cond rfl (fun hc_24 => ?_) (fun hc_24 => ?_)
      · refine J_seq ?_
        refine J_region ?_
        refine JL_op rfl (op_read rfl rfl (r_assign (v := .bool false) rfl) ?_)
        refine JL_op rfl (op_read rfl rfl (r_assign (v := .int .i64 2) rfl) ?_)
        refine JL_nil ?_
        refine J_then ?_
        refine J_ret ?_
        refine J_then_ret ?_
        refine J_select (PV' := []) [] (by decide) rfl ?_
        exact J_return2 rfl ⟨rfl, rfl⟩
      · refine J_skip ?_
        refine J_then ?_
        refine J_seq ?_
        refine J_region ?_
        refine JL_op rfl (op_read rfl rfl (r_move (v := v_14) rfl) ?_)
        refine JL_op rfl (op_read rfl rfl (r_move (v := v_6) rfl) ?_)
        refine JL_op rfl (op_read rfl rfl (r_len_frozen (v := v_6) Try.pu23 rfl (Ty.vmono _ hle_13 h_7)) ?_)
        refine JL_op rfl (op_read rfl rfl (r_fieldAddr (r := ⟨c_8, 1, none⟩) Try.pu37 (f := Try.pf37.getD 1 default) rfl Try.pi3 (by decide) rfl rfl) ?_)
        refine JL_op rfl (op_read rfl rfl (r_load_priv (cs' := [.int .i64 goal_2.Y]) (v := .int .i64 goal_2.Y) 0 Try.pu3 Try.pi3 rfl rfl rfl rfl (by decide) rfl) ?_)
        refine JL_op rfl (op_read rfl rfl (r_fieldAddr (r := ⟨c_8, 0, none⟩) Try.pu37 (f := Try.pf37.getD 0 default) rfl Try.pi3 (by decide) rfl rfl) ?_)
        refine JL_op rfl (op_read rfl rfl (r_load_priv (cs' := [.int .i64 goal_2.X]) (v := .int .i64 goal_2.X) 0 Try.pu3 Try.pi3 rfl rfl rfl rfl (by decide) rfl) ?_)
        refine JL_op rfl (op_read rfl rfl (r_fieldAddr (r := ⟨c_8, 2, none⟩) Try.pu37 (f := Try.pf37.getD 2 default) rfl Try.pi2 (by decide) rfl rfl) ?_)
        refine JL_op rfl (op_read rfl rfl (r_load_priv (cs' := [.int .i64 goal_2.C]) (v := .int .i64 goal_2.C) 0 Try.pu2 Try.pi2 rfl rfl rfl rfl (by decide) rfl) ?_)
        refine JL_op rfl (op_read rfl rfl (r_neg rfl) ?_)
        refine JL_op rfl (op_read rfl rfl (r_sub rfl rfl) ?_)
        refine JL_op rfl (op_read rfl rfl (r_build (cs := [.int .i64 goal_2.Y, .int .i64 goal_2.X, .int .i64 (IntKind.i64.wrap ((IntKind.i64.wrap (0 - goal_2.C)) - 1))]) (vs := [(0, .int .i64 goal_2.Y), (1, .int .i64 goal_2.X), (2, .int .i64 (IntKind.i64.wrap ((IntKind.i64.wrap (0 - goal_2.C)) - 1)))]) (pcs := [(0, [.int .i64 goal_2.Y]), (1, [.int .i64 goal_2.X]), (2, [.int .i64 (IntKind.i64.wrap ((IntKind.i64.wrap (0 - goal_2.C)) - 1))])]) (pls := [(0, 1), (1, 1), (2, 1)]) Try.pu37 Try.pi37 rfl (by kernel_rfl) rfl ⟨rfl, rfl, ⟨rfl, rfl, ⟨rfl, rfl, trivial⟩⟩⟩ rfl) ?_)
        refine J_bind fun x_25 hx_26 => ?_
        refine JL_op rfl (op_read rfl rfl (r_index_row (v := v_14) (T := t_Gdiff_Leq) (q := x_25) 1 Try.pu23 Try.pi37 rfl rfl rfl rfl hx_26) ?_)
        refine JL_op rfl (op_store_row (v := v_14) (u := .agg #[.int .i64 goal_2.Y, .int .i64 goal_2.X, .int .i64 (IntKind.i64.wrap ((IntKind.i64.wrap (0 - goal_2.C)) - 1))]) (T := t_Gdiff_Leq) (q := (⟨goal_2.Y, goal_2.X, IntKind.i64.wrap ((IntKind.i64.wrap (0 - goal_2.C)) - 1)⟩ : Gdiff_Leq)) (i := facts_5.len) 1 Try.pi37 rfl rfl rfl (t_Gdiff_Leq_v.2 rfl) rfl ?_)
        intro s_27 hs_28
        refine JL_nil ?_
        refine J_then ?_
        refine J_seq ?_
        refine J_region ?_
        refine JL_op rfl (op_read rfl rfl (r_move (v := .int .i64 n_1) rfl) ?_)
        refine JL_op rfl (op_read rfl rfl (r_move (v := v_14) rfl) ?_)
        refine JL_op rfl (op_call_lend (f := 29) (fn := Try.f29) (args := [.int .i64 n_1, v_14]) (post := diff_solve_post) rfl rfl rfl Try.func29 Try.pn29 rfl rfl (fun y w τ hy hle hs hrow => diff_solve_ref w τ hs n_1 v_14 s_27 (hrow 1 _ _ _ _ _ rfl) y hy) (fun y σ' PV' v hp => by obtain ⟨_, _, rfl, rfl⟩ := hp; exact ⟨⟨inferInstance⟩, ⟨⟨inferInstance⟩, trivial⟩⟩) ?_)
        intro r_29 v_31 s_32 PV_34 hy_30 hp_35
        obtain ⟨v_36, v_38, rfl, rfl⟩ := hp_35
        refine JL_op rfl (op_read rfl rfl (r_move (v := .tuple #[v_36, v_38]) rfl) ?_)
        refine JL_op rfl (op_read rfl rfl (r_extract (v := v_36) rfl rfl) ?_)
        refine JL_op rfl (op_read rfl rfl (r_extract (v := v_38) rfl rfl) ?_)
        refine JL_op rfl (op_read rfl rfl (r_assign (v := v_36) rfl) ?_)
        refine JL_op rfl (op_read rfl rfl (r_assign (v := v_38) rfl) ?_)
        refine JL_nil ?_
        refine J_then ?_
        refine J_seq ?_
        refine J_region ?_
        refine JL_op rfl (op_read rfl rfl (r_move (v := v_38) rfl) ?_)
        refine JL_op rfl (op_read rfl rfl (r_nenil_row (v := v_38) 1 Try.pu22 rfl rfl rfl) ?_)
        refine JL_op rfl (op_read rfl rfl (r_assign (v := .bool r_29.2.nn) rfl) ?_)
        refine JL_op rfl (op_read rfl rfl (r_assign (v := .int .i64 0) rfl) ?_)
        refine JL_nil ?_
        refine J_then ?_
        refine J_ret ?_
        refine J_select (PV' := []) [] (by decide) rfl ?_
        exact J_return2 rfl ⟨rfl, rfl⟩
def cert_turned_post (r : Gdiff_Leq) (σ : FS) (PV : List Priv) (v : Value) : Prop :=
  ∃ v0 : Value, v = v0 ∧ PV = [] ∧ t_Gdiff_Leq.vrel σ v0 r
set_option maxRecDepth 100000 in
theorem cert_turned_ref (w : World) (σ : FS) (hs : σ.sub w) (v_2 : Value) (goal_1 : Gdiff_Leq) (h_3 : t_Gdiff_Leq.vrel σ v_2 goal_1) (r : Gdiff_Leq) (hr : cert_turned goal_1 = some r) : Does Try.prog 25 [v_2] w σ (cert_turned_post r) := by
  unfold cert_turned at hr
  obtain rfl := t_Gdiff_Leq_v.1 h_3
  refine does_of_J Try.func25 rfl (n := 12) rfl rfl hs hr ?_
  refine J_seq ?_
  refine J_region ?_
  refine JL_op rfl (op_box (cs := [.int .i64 goal_1.X, .int .i64 goal_1.Y, .int .i64 goal_1.C]) rfl rfl ?_)
  intro c_4
  refine JL_op rfl (op_alloc (cs := [.int .i64 0, .int .i64 0, .int .i64 0]) rfl Try.pi37 rfl rfl ?_)
  intro c_6
  refine JL_nil ?_
  refine J_then ?_
  refine J_seq ?_
  refine J_region ?_
  refine JL_op rfl (op_read rfl rfl (r_fieldAddr (r := ⟨c_4, 1, none⟩) Try.pu37 (f := Try.pf37.getD 1 default) rfl Try.pi3 (by decide) rfl rfl) ?_)
  refine JL_op rfl (op_read rfl rfl (r_load_priv (cs' := [.int .i64 goal_1.Y]) (v := .int .i64 goal_1.Y) 1 Try.pu3 Try.pi3 rfl rfl rfl rfl (by decide) rfl) ?_)
  refine JL_op rfl (op_read rfl rfl (r_fieldAddr (r := ⟨c_4, 0, none⟩) Try.pu37 (f := Try.pf37.getD 0 default) rfl Try.pi3 (by decide) rfl rfl) ?_)
  refine JL_op rfl (op_read rfl rfl (r_load_priv (cs' := [.int .i64 goal_1.X]) (v := .int .i64 goal_1.X) 1 Try.pu3 Try.pi3 rfl rfl rfl rfl (by decide) rfl) ?_)
  refine JL_op rfl (op_read rfl rfl (r_fieldAddr (r := ⟨c_4, 2, none⟩) Try.pu37 (f := Try.pf37.getD 2 default) rfl Try.pi2 (by decide) rfl rfl) ?_)
  refine JL_op rfl (op_read rfl rfl (r_load_priv (cs' := [.int .i64 goal_1.C]) (v := .int .i64 goal_1.C) 1 Try.pu2 Try.pi2 rfl rfl rfl rfl (by decide) rfl) ?_)
  refine JL_op rfl (op_read rfl rfl (r_neg rfl) ?_)
  refine JL_op rfl (op_read rfl rfl (r_sub rfl rfl) ?_)
  refine JL_op rfl (op_read rfl rfl (r_build (cs := [.int .i64 goal_1.Y, .int .i64 goal_1.X, .int .i64 (IntKind.i64.wrap ((IntKind.i64.wrap (0 - goal_1.C)) - 1))]) (vs := [(0, .int .i64 goal_1.Y), (1, .int .i64 goal_1.X), (2, .int .i64 (IntKind.i64.wrap ((IntKind.i64.wrap (0 - goal_1.C)) - 1)))]) (pcs := [(0, [.int .i64 goal_1.Y]), (1, [.int .i64 goal_1.X]), (2, [.int .i64 (IntKind.i64.wrap ((IntKind.i64.wrap (0 - goal_1.C)) - 1))])]) (pls := [(0, 1), (1, 1), (2, 1)]) Try.pu37 Try.pi37 rfl (by kernel_rfl) rfl ⟨rfl, rfl, ⟨rfl, rfl, ⟨rfl, rfl, trivial⟩⟩⟩ rfl) ?_)
  refine JL_op rfl (op_store_priv (vs := [.int .i64 goal_1.Y, .int .i64 goal_1.X, .int .i64 (IntKind.i64.wrap ((IntKind.i64.wrap (0 - goal_1.C)) - 1))]) (cs' := [.int .i64 goal_1.Y, .int .i64 goal_1.X, .int .i64 (IntKind.i64.wrap ((IntKind.i64.wrap (0 - goal_1.C)) - 1))]) (PV' := [.cell c_6 [.int .i64 goal_1.Y, .int .i64 goal_1.X, .int .i64 (IntKind.i64.wrap ((IntKind.i64.wrap (0 - goal_1.C)) - 1))] 37, .cell c_4 [.int .i64 goal_1.X, .int .i64 goal_1.Y, .int .i64 goal_1.C] 37]) 0 Try.pi37 rfl rfl rfl ⟨rfl, rfl, rfl, trivial⟩ rfl rfl rfl rfl ?_)
  refine JL_nil ?_
  refine J_then ?_
  refine J_ret ?_
  exact J_returnV1 (PV' := []) rfl (rv_cell (cs := [.int .i64 goal_1.Y, .int .i64 goal_1.X, .int .i64 (IntKind.i64.wrap ((IntKind.i64.wrap (0 - goal_1.C)) - 1))]) (v := .agg #[.int .i64 goal_1.Y, .int .i64 goal_1.X, .int .i64 (IntKind.i64.wrap ((IntKind.i64.wrap (0 - goal_1.C)) - 1))]) 0 Try.pu37 Try.pi37 rfl rfl rfl (by decide) rfl) [] (by decide) rfl ⟨_, rfl, rfl, (t_Gdiff_Leq_v.2 rfl)⟩
def cert_within_post (r : Bool) (σ : FS) (PV : List Priv) (v : Value) : Prop :=
  v = .bool r ∧ PV = []
set_option maxRecDepth 100000 in
theorem cert_within_ref (w : World) (σ : FS) (hs : σ.sub w) (n_1 : Int) (most_2 : Int) (r : Bool) (hr : cert_within n_1 most_2 = some r) : Does Try.prog 21 [.int .i64 n_1, .int .i64 most_2] w σ (cert_within_post r) := by
  unfold cert_within at hr
  refine does_of_J Try.func21 rfl (n := 14) rfl rfl hs hr ?_
  refine J_seq ?_
  refine J_region ?_
  refine JL_op rfl (op_read rfl rfl (r_assign (v := .bool false) rfl) ?_)
  refine JL_nil ?_
  refine J_then ?_
  refine J_seq ?_
  refine J_region ?_
  refine JL_op rfl (op_read rfl rfl (r_move (v := .int .i64 n_1) rfl) ?_)
  refine JL_op rfl (op_read rfl rfl (r_move (v := .int .i64 most_2) rfl) ?_)
  refine JL_op rfl (op_read rfl rfl (r_leq rfl rfl) ?_)
  refine JL_op rfl (op_read rfl rfl (r_move (v := .bool (decide (n_1 ≤ most_2))) rfl) ?_)
  refine J_forkL (e := (decide (n_1 ≤ most_2))) 5 [(13, .bool (decide (n_1 ≤ most_2) && decide ((IntKind.i64.wrap (0 - most_2)) ≤ n_1)))] (fun hc_3 hk => ?_) (fun hc_3 hk => ?_) (fun b => ?_)
  · refine JL_opg rfl rfl hc_3 (op_read rfl rfl (r_move (v := .int .i64 n_1) rfl) ?_)
    refine JL_opg rfl rfl hc_3 (op_read rfl rfl (r_move (v := .int .i64 most_2) rfl) ?_)
    refine JL_opg rfl rfl hc_3 (op_read rfl rfl (r_neg rfl) ?_)
    refine JL_opg rfl rfl hc_3 (op_read rfl rfl (r_geq rfl rfl) ?_)
    refine JL_op rfl (op_read rfl rfl (r_pick_t (v := .bool (decide ((IntKind.i64.wrap (0 - most_2)) ≤ n_1))) rfl hc_3 rfl) ?_)
    refine J_prune [(13, .bool (decide (n_1 ≤ most_2) && decide ((IntKind.i64.wrap (0 - most_2)) ≤ n_1)))] ⟨(by show Value.bool _ = Value.bool _; rw [hc_3]; rfl), trivial⟩ hk
  · refine JL_skip rfl rfl hc_3 rfl rfl ?_
    refine JL_skip rfl rfl hc_3 rfl rfl ?_
    refine JL_skip rfl rfl hc_3 rfl rfl ?_
    refine JL_skip rfl rfl hc_3 rfl rfl ?_
    refine JL_op rfl (op_read rfl rfl (r_pick_f (v := .bool false) rfl hc_3 rfl) ?_)
    refine J_prune [(13, .bool (decide (n_1 ≤ most_2) && decide ((IntKind.i64.wrap (0 - most_2)) ≤ n_1)))] ⟨(by show Value.bool _ = Value.bool _; rw [hc_3]; rfl), trivial⟩ hk
  · refine JL_op rfl (op_read rfl rfl (r_assign (v := .bool (decide (n_1 ≤ most_2) && decide ((IntKind.i64.wrap (0 - most_2)) ≤ n_1))) rfl) ?_)
    refine JL_nil ?_
    refine J_then ?_
    refine J_ret ?_
    exact J_return1 rfl ⟨rfl, rfl⟩
def cert_Circle_1_post (r : Bool) (σ : FS) (PV : List Priv) (v : Value) : Prop :=
  v = .bool r ∧ PV = []
set_option maxRecDepth 100000 in
theorem cert_Circle_1_ref (w : World) (σ : FS) (hs : σ.sub w) (k_1 : Int) (c_3 : Nat) (v_5 : Value) (a_2 : Sl Gdiff_Leq) (hf_4 : ∀ (j : Nat) (u : Value), [v_5][j]? = some u → σ.cell ((⟨c_3, 0, none⟩ : Addr).add j) = some u) (h_6 : (tSl t_Gdiff_Leq).vrel σ v_5 a_2) (r : Bool) (hr : cert_Circle_1 k_1 a_2 = some r) : Does Try.prog 20 [.int .i64 k_1, .pointer (some ⟨c_3, 0, none⟩)] w σ (cert_Circle_1_post r) := by
  unfold cert_Circle_1 at hr
  refine does_of_J Try.func20 rfl (n := 21) rfl rfl hs hr ?_
  refine J_seq ?_
  refine J_region ?_
  refine JL_op rfl (op_read rfl rfl (r_assign (v := .bool false) rfl) ?_)
  refine JL_nil ?_
  refine J_then ?_
  refine J_seq ?_
  refine J_region ?_
  refine JL_op rfl (op_read rfl rfl (r_move (v := .int .i64 k_1) rfl) ?_)
  refine JL_op rfl (op_read rfl rfl (r_lss rfl rfl) ?_)
  refine JL_op rfl (op_read rfl rfl (r_move (v := .bool (decide (k_1 < 0))) rfl) ?_)
  refine J_forkL (e := (decide (k_1 < 0))) 5 [(0, .int .i64 k_1), (1, .pointer (some ⟨c_3, 0, none⟩)), (11, .bool (decide (k_1 < 0) || decide (a_2.len ≤ k_1)))] (fun hc_7 hk => ?_) (fun hc_7 hk => ?_) (fun b => ?_)
  · refine JL_skip rfl rfl hc_7 rfl rfl ?_
    refine JL_skip rfl rfl hc_7 rfl rfl ?_
    refine JL_skip rfl rfl hc_7 rfl rfl ?_
    refine JL_skip rfl rfl hc_7 rfl rfl ?_
    refine JL_op rfl (op_read rfl rfl (r_pick_t (v := .bool true) rfl hc_7 rfl) ?_)
    refine J_prune [(0, .int .i64 k_1), (1, .pointer (some ⟨c_3, 0, none⟩)), (11, .bool (decide (k_1 < 0) || decide (a_2.len ≤ k_1)))] ⟨rfl, rfl, (by show Value.bool _ = Value.bool _; rw [hc_7]; rfl), trivial⟩ hk
  · refine JL_opg rfl rfl hc_7 (op_read rfl rfl (r_move (v := .int .i64 k_1) rfl) ?_)
    refine JL_opg rfl rfl hc_7 (op_read rfl rfl (r_load_fast (cs' := [v_5]) (v := v_5) Try.pu23 Try.pi23 rfl (fun j u hj => FS.le.cell (FS.le.refl _) (hf_4 j u hj)) rfl rfl (by decide) rfl) ?_)
    refine JL_opg rfl rfl hc_7 (op_read rfl rfl (r_len_frozen (v := v_5) Try.pu23 rfl h_6) ?_)
    refine JL_opg rfl rfl hc_7 (op_read rfl rfl (r_geq rfl rfl) ?_)
    refine JL_op rfl (op_read rfl rfl (r_pick_f (v := .bool (decide (a_2.len ≤ k_1))) rfl hc_7 rfl) ?_)
    refine J_prune [(0, .int .i64 k_1), (1, .pointer (some ⟨c_3, 0, none⟩)), (11, .bool (decide (k_1 < 0) || decide (a_2.len ≤ k_1)))] ⟨rfl, rfl, (by show Value.bool _ = Value.bool _; rw [hc_7]; rfl), trivial⟩ hk
  · refine JL_op rfl (op_read rfl rfl (r_move (v := .bool (decide (k_1 < 0) || decide (a_2.len ≤ k_1))) rfl) ?_)
    refine J_forkLB (e := (decide (k_1 < 0) || decide (a_2.len ≤ k_1))) 8 (fun (b_9 : Bool) L τ PV => σ.le τ ∧ L = [(20, .bool b_9)] ∧ PV = []) (fun hc_8 hk => ?_) (fun hc_8 hk => ?_) ?_
    · refine JL_skip rfl rfl hc_8 rfl rfl ?_
      refine JL_skip rfl rfl hc_8 rfl rfl ?_
      refine JL_skip rfl rfl hc_8 rfl rfl ?_
      refine JL_skip rfl rfl hc_8 rfl rfl ?_
      refine JL_skip rfl rfl hc_8 rfl rfl ?_
      refine JL_skip rfl rfl hc_8 rfl rfl ?_
      refine JL_skip rfl rfl hc_8 rfl rfl ?_
      refine JL_op rfl (op_read rfl rfl (r_pick_t (v := .bool true) rfl hc_8 rfl) ?_)
      refine J_prune _ ?_ fun b => hk true _ b _ _ ⟨(FS.le.refl _), rfl, rfl⟩
      exact ⟨rfl, trivial⟩
    · refine JL_opg rfl rfl hc_8 (op_read rfl rfl (r_load_fast (cs' := [v_5]) (v := v_5) Try.pu23 Try.pi23 rfl (fun j u hj => FS.le.cell (FS.le.refl _) (hf_4 j u hj)) rfl rfl (by decide) rfl) ?_)
      refine JL_opg rfl rfl hc_8 (op_read rfl rfl (r_move (v := .int .i64 k_1) rfl) ?_)
      refine J_assoc ?_
      refine J_bind fun x_10 hx_11 => ?_
      refine JL_opg rfl rfl hc_8 (op_read rfl rfl (r_index_frozen (v := v_5) (T := t_Gdiff_Leq) (q := x_10) Try.pu23 Try.pi37 rfl rfl rfl h_6 hx_11) ?_)
      refine JL_opg rfl rfl hc_8 (op_read rfl rfl (r_fieldAddr (r := elemAddr v_5 ((k_1).toNat * t_Gdiff_Leq.size + 2)) Try.pu37 (f := Try.pf37.getD 2 default) rfl Try.pi2 (by decide) rfl (elemAddr_add _ _ _)) ?_)
      refine JL_opg rfl rfl hc_8 (op_reads rfl rfl (l_elem_frozen (v := v_5) (T := t_Gdiff_Leq) (Tf := (tInt .i64)) (q := x_10) (i := k_1) (off := 2) Try.pu2 Try.pi2 rfl rfl rfl h_6 hx_11 f_Gdiff_Leq_C (by decide)) ?_)
      intro v_12 h_13
      obtain rfl := tInt_v.1 h_13
      refine J_assoc ?_
      refine JL_opg rfl rfl hc_8 (op_call (f := 21) (fn := Try.f21) (args := [.int .i64 x_10.C, .int .i64 17592186044416]) (post := cert_within_post) rfl rfl rfl Try.func21 Try.pn21 rfl rfl (fun y w hy hs => cert_within_ref w _ hs x_10.C 17592186044416 y hy) ?_)
      intro r_14 v_16 s_17 PV_19 hy_15 hle_18 hp_20
      obtain ⟨rfl, rfl⟩ := hp_20
      refine JL_opg rfl rfl hc_8 (op_read rfl rfl (r_not rfl) ?_)
      refine JL_op rfl (op_read rfl rfl (r_pick_f (v := .bool (!r_14)) rfl hc_8 rfl) ?_)
      refine J_prune _ ?_ fun b => hk (!r_14) _ b _ _ ⟨hle_18, rfl, rfl⟩
      exact ⟨rfl, trivial⟩
    · rintro b_9 _ b s_21 _ ⟨hle_22, rfl, rfl⟩
      refine JL_op rfl (op_read rfl rfl (r_assign (v := .bool b_9) rfl) ?_)
      refine JL_nil ?_
      refine J_then ?_
      refine J_ret ?_
      exact J_return1 rfl ⟨rfl, rfl⟩
def slices_IndexFunc_f30_post (r : Int) (σ : FS) (PV : List Priv) (v : Value) : Prop :=
  v = .int .i64 r ∧ PV = []
set_option maxRecDepth 100000 in
theorem slices_IndexFunc_f30_ref (w : World) (σ : FS) (hs : σ.sub w) (v_2 : Value) (s_1 : Sl Int) (h_3 : (tSl (tInt .i64)).vrel σ v_2 s_1) (v_5 : Value) (f_4 : Int → Option Bool) (hf_6 : Fnc_T54 Try.prog σ v_5 f_4) (r : Int) (hr : slices_IndexFunc_f30 s_1 f_4 = some r) : Does Try.prog 30 [v_2, v_5] w σ (slices_IndexFunc_f30_post r) := by
  unfold slices_IndexFunc_f30 at hr
  have hf_62 := hf_6
  obtain ⟨fi_7, fn_8, ca_9, rfl, k_10, k_11, k_12, k_13⟩ := hf_62
  refine does_of_J Try.func30 rfl (n := 19) rfl rfl hs hr ?_
  refine J_seq ?_
  refine J_region ?_
  refine JL_op rfl (op_read rfl rfl (r_assign (v := .int .i64 0) rfl) ?_)
  refine JL_nil ?_
  refine J_then ?_
  refine J_seq ?_
  refine J_seq ?_
  refine J_region ?_
  refine JL_op rfl (op_read rfl rfl (r_move (v := v_2) rfl) ?_)
  refine JL_op rfl (op_read rfl rfl (r_len_frozen (v := v_2) Try.pu22 rfl h_3) ?_)
  refine JL_op rfl (op_read rfl rfl (r_move (v := .int .i64 0) rfl) ?_)
  refine JL_nil ?_
  refine J_then ?_
  refine J_block ?_
  refine J_loop (fun (y : Int) L τ PV => σ.le τ ∧ L = [(0, v_2), (1, (.func (.func fi_7) #[] ca_9.toArray)), (7, .int .i64 s_1.len), (8, .int .i64 y)] ∧ PV = []) (fun (y : W2 Unit Int) e L τ PV => match y, e with | .a y, e => e = .exit 0 ∧ (σ.le τ ∧ L = [] ∧ PV = []) | .b y, e => e = .ret ∧ (σ.le τ ∧ L = [(4, .int .i64 y)] ∧ PV = [])) _ ?_ ⟨(FS.le.refl _), rfl, rfl⟩ ?_ ?_
  · exact ⟨rfl, rfl, rfl, rfl, trivial⟩
  · rintro x_14 _ b s_15 _ ⟨hle_16, rfl, rfl⟩
    unfold slices_IndexFunc_f30_L1
    refine J_seq ?_
    refine J_region ?_
    refine JL_op rfl (op_read rfl rfl (r_lss rfl rfl) ?_)
    refine JL_nil ?_
    refine J_then ?_
    refine J_seq ?_
    refine J_cond rfl (fun hc_17 => ?_) (fun hc_17 => ?_)
    · refine J_skip ?_
      refine J_then ?_
      refine J_seq ?_
      refine J_block ?_
      refine J_seq ?_
      refine J_region ?_
      refine JL_op rfl (op_read rfl rfl (r_move (v := .int .i64 x_14) rfl) ?_)
      refine JL_op rfl (op_read rfl rfl (r_assign (v := .int .i64 x_14) rfl) ?_)
      refine JL_nil ?_
      refine J_then ?_
      refine J_seq ?_
      refine J_region ?_
      refine JL_op rfl (op_read rfl rfl (r_move (v := (.func (.func fi_7) #[] ca_9.toArray)) rfl) ?_)
      refine JL_op rfl (op_read rfl rfl (r_move (v := v_2) rfl) ?_)
      refine JL_op rfl (op_read rfl rfl (r_move (v := .int .i64 x_14) rfl) ?_)
      refine J_bind fun x_18 hx_19 => ?_
      refine JL_op rfl (op_read rfl rfl (r_index_frozen (v := v_2) (T := (tInt .i64)) (q := x_18) Try.pu22 Try.pi3 rfl rfl rfl (Ty.vmono _ hle_16 h_3) hx_19) ?_)
      refine JL_op rfl (op_reads rfl rfl (l_elem_frozen (v := v_2) (T := (tInt .i64)) (Tf := (tInt .i64)) (q := x_18) (i := x_14) (off := 0) Try.pu3 Try.pi3 rfl rfl rfl (Ty.vmono _ hle_16 h_3) hx_19 (FieldAt.self _) (by decide)) ?_)
      intro v_20 h_21
      obtain rfl := tInt_v.1 h_21
      refine JL_op rfl (op_call (f := fi_7) (fn := fn_8) (args := .int .i64 x_18 :: ca_9) (post := fun r _ PV v => v = .bool r ∧ PV = []) rfl rfl rfl k_10 k_11 k_12 rfl (fun y w hy hs => k_13 _ w hle_16 hs x_18 y hy) ?_)
      intro r_22 v_24 s_25 PV_27 hy_23 hle_26 hp_28
      obtain ⟨rfl, rfl⟩ := hp_28
      refine JL_nil ?_
      refine J_then ?_
      refine J_cond rfl (fun hc_29 => ?_) (fun hc_29 => ?_)
      · refine J_seq ?_
        refine J_region ?_
        refine JL_op rfl (op_read rfl rfl (r_move (v := .int .i64 x_14) rfl) ?_)
        refine JL_op rfl (op_read rfl rfl (r_assign (v := .int .i64 x_14) rfl) ?_)
        refine JL_nil ?_
        refine J_then ?_
        refine J_ret ?_
        refine J_in_ret ?_
        refine J_then_ret ?_
        refine J_done trivial _ ?_ ⟨rfl, (FS.le.trans hle_16 hle_26), rfl, rfl⟩
        exact ⟨rfl, trivial⟩
      · refine J_skip ?_
        refine J_in_normal ?_
        refine J_then ?_
        refine J_region ?_
        refine JL_op rfl (op_read rfl rfl (r_add rfl rfl) ?_)
        refine JL_op rfl (op_read rfl rfl (r_move (v := .int .i64 (IntKind.i64.wrap (x_14 + 1))) rfl) ?_)
        refine JL_nil ?_
        refine J_next _ ?_ ⟨(FS.le.trans hle_16 hle_26), rfl, rfl⟩
        exact ⟨rfl, rfl, rfl, rfl, trivial⟩
    · refine J_exit ?_
      refine J_then_exit ?_
      refine J_done trivial _ ?_ ⟨rfl, hle_16, rfl, rfl⟩
      exact trivial
  · rintro (y_31 | y_34) e L b τ PV ht
    · obtain ⟨rfl, ht⟩ := ht
      revert ht; revert PV; revert τ; revert b; revert L
      rintro _ b s_32 _ ⟨hle_33, rfl, rfl⟩
      refine J_in_exit ?_
      refine J_then ?_
      refine J_seq ?_
      refine J_region ?_
      refine JL_op rfl (op_read rfl rfl (r_assign (v := .int .i64 (-1)) rfl) ?_)
      refine JL_nil ?_
      refine J_then ?_
      refine J_ret ?_
      exact J_return1 rfl ⟨rfl, rfl⟩
    · obtain ⟨rfl, ht⟩ := ht
      revert ht; revert PV; revert τ; revert b; revert L
      rintro _ b s_35 _ ⟨hle_36, rfl, rfl⟩
      refine J_in_ret ?_
      refine J_then_ret ?_
      exact J_return1 rfl ⟨rfl, rfl⟩
def slices_ContainsFunc_f19_post (r : Bool) (σ : FS) (PV : List Priv) (v : Value) : Prop :=
  v = .bool r ∧ PV = []
set_option maxRecDepth 100000 in
theorem slices_ContainsFunc_f19_ref (w : World) (σ : FS) (hs : σ.sub w) (v_2 : Value) (s_1 : Sl Int) (h_3 : (tSl (tInt .i64)).vrel σ v_2 s_1) (v_5 : Value) (f_4 : Int → Option Bool) (hf_6 : Fnc_T54 Try.prog σ v_5 f_4) (r : Bool) (hr : slices_ContainsFunc_f19 s_1 f_4 = some r) : Does Try.prog 19 [v_2, v_5] w σ (slices_ContainsFunc_f19_post r) := by
  unfold slices_ContainsFunc_f19 at hr
  have hf_62 := hf_6
  obtain ⟨fi_7, fn_8, ca_9, rfl, k_10, k_11, k_12, k_13⟩ := hf_62
  refine does_of_J Try.func19 rfl (n := 9) rfl rfl hs hr ?_
  refine J_seq ?_
  refine J_region ?_
  refine JL_op rfl (op_read rfl rfl (r_assign (v := .bool false) rfl) ?_)
  refine JL_nil ?_
  refine J_then ?_
  refine J_seq ?_
  refine J_region ?_
  refine JL_op rfl (op_read rfl rfl (r_move (v := v_2) rfl) ?_)
  refine JL_op rfl (op_read rfl rfl (r_move (v := (.func (.func fi_7) #[] ca_9.toArray)) rfl) ?_)
  refine JL_op rfl (op_call (f := 30) (fn := Try.f30) (args := [v_2, (.func (.func fi_7) #[] ca_9.toArray)]) (post := slices_IndexFunc_f30_post) rfl rfl rfl Try.func30 Try.pn30 rfl rfl (fun y w hy hs => slices_IndexFunc_f30_ref w _ hs v_2 s_1 h_3 (.func (.func fi_7) #[] ca_9.toArray) f_4 hf_6 y hy) ?_)
  intro r_14 v_16 s_17 PV_19 hy_15 hle_18 hp_20
  obtain ⟨rfl, rfl⟩ := hp_20
  refine JL_op rfl (op_read rfl rfl (r_geq rfl rfl) ?_)
  refine JL_op rfl (op_read rfl rfl (r_assign (v := .bool (decide (0 ≤ r_14))) rfl) ?_)
  refine JL_nil ?_
  refine J_then ?_
  refine J_ret ?_
  exact J_return1 rfl ⟨rfl, rfl⟩
def cert_Circle_post (r : Bool) (σ : FS) (PV : List Priv) (v : Value) : Prop :=
  v = .bool r ∧ PV = []
set_option maxRecDepth 100000 in
theorem cert_Circle_ref (w : World) (σ : FS) (hs : σ.sub w) (v_2 : Value) (cycle_1 : Sl Int) (h_3 : (tSl (tInt .i64)).vrel σ v_2 cycle_1) (v_5 : Value) (facts_4 : Sl Gdiff_Leq) (h_6 : (tSl t_Gdiff_Leq).vrel σ v_5 facts_4) (r : Bool) (hr : cert_Circle cycle_1 facts_4 = some r) : Does Try.prog 10 [v_2, v_5] w σ (cert_Circle_post r) := by
  unfold cert_Circle at hr
  refine does_of_J Try.func10 rfl (n := 68) rfl rfl hs hr ?_
  refine J_seq ?_
  refine J_region ?_
  refine JL_op rfl (op_box (cs := [v_5]) rfl (sl_cells h_6) ?_)
  intro c_7
  refine JL_op rfl (op_read rfl rfl (r_assign (v := .bool false) rfl) ?_)
  refine JL_nil ?_
  refine J_then ?_
  refine J_seq ?_
  refine J_seq ?_
  refine J_region ?_
  refine JL_op rfl (op_read rfl rfl (r_move (v := v_2) rfl) ?_)
  refine JL_op rfl (op_read rfl rfl (r_len_frozen (v := v_2) Try.pu22 rfl h_3) ?_)
  refine JL_op rfl (op_read rfl rfl (r_eql rfl rfl) ?_)
  refine JL_op rfl (op_read rfl rfl (r_move (v := .bool (decide (cycle_1.len = 0))) rfl) ?_)
  refine J_forkL (e := (decide (cycle_1.len = 0))) 4 [(0, v_2), (3, .pointer (some ⟨c_7, 0, none⟩)), (16, .bool (decide (cycle_1.len = 0) || decide (65536 < cycle_1.len)))] (fun hc_9 hk => ?_) (fun hc_9 hk => ?_) (fun b => ?_)
  · refine JL_skip rfl rfl hc_9 rfl rfl ?_
    refine JL_skip rfl rfl hc_9 rfl rfl ?_
    refine JL_skip rfl rfl hc_9 rfl rfl ?_
    refine JL_op rfl (op_read rfl rfl (r_pick_t (v := .bool true) rfl hc_9 rfl) ?_)
    refine J_prune [(0, v_2), (3, .pointer (some ⟨c_7, 0, none⟩)), (16, .bool (decide (cycle_1.len = 0) || decide (65536 < cycle_1.len)))] ⟨rfl, rfl, (by show Value.bool _ = Value.bool _; rw [hc_9]; rfl), trivial⟩ hk
  · refine JL_opg rfl rfl hc_9 (op_read rfl rfl (r_move (v := v_2) rfl) ?_)
    refine JL_opg rfl rfl hc_9 (op_read rfl rfl (r_len_frozen (v := v_2) Try.pu22 rfl h_3) ?_)
    refine JL_opg rfl rfl hc_9 (op_read rfl rfl (r_gtr rfl rfl) ?_)
    refine JL_op rfl (op_read rfl rfl (r_pick_f (v := .bool (decide (65536 < cycle_1.len))) rfl hc_9 rfl) ?_)
    refine J_prune [(0, v_2), (3, .pointer (some ⟨c_7, 0, none⟩)), (16, .bool (decide (cycle_1.len = 0) || decide (65536 < cycle_1.len)))] ⟨rfl, rfl, (by show Value.bool _ = Value.bool _; rw [hc_9]; rfl), trivial⟩ hk
  · refine JL_op rfl (op_read rfl rfl (r_move (v := .bool (decide (cycle_1.len = 0) || decide (65536 < cycle_1.len))) rfl) ?_)
    refine J_freeze_cell (PV' := []) 0 rfl rfl fun s_10 hle_11 hf_12 => ?_
    refine J_forkLB (e := (decide (cycle_1.len = 0) || decide (65536 < cycle_1.len))) 4 (fun (b_14 : Bool) L τ PV => s_10.le τ ∧ L = [(0, v_2), (3, .pointer (some ⟨c_7, 0, none⟩)), (21, .bool b_14)] ∧ PV = []) (fun hc_13 hk => ?_) (fun hc_13 hk => ?_) ?_
    · refine JL_skip rfl rfl hc_13 rfl rfl ?_
      refine JL_skip rfl rfl hc_13 rfl rfl ?_
      refine JL_skip rfl rfl hc_13 rfl rfl ?_
      refine JL_op rfl (op_read rfl rfl (r_pick_t (v := .bool true) rfl hc_13 rfl) ?_)
      refine J_prune _ ?_ fun b => hk true _ b _ _ ⟨(FS.le.refl _), rfl, rfl⟩
      exact ⟨rfl, rfl, rfl, trivial⟩
    · refine JL_opg rfl rfl hc_13 (op_read rfl rfl (r_move (v := v_2) rfl) ?_)
      refine JL_opg rfl rfl hc_13 (op_read rfl rfl (r_makeFunc (fs := []) (cs := [.pointer (some ⟨c_7, 0, none⟩)]) rfl rfl) ?_)
      refine J_assoc ?_
      refine JL_opg rfl rfl hc_13 (op_call (f := 19) (fn := Try.f19) (args := [v_2, .func (.func 20) #[] #[.pointer (some ⟨c_7, 0, none⟩)]]) (post := slices_ContainsFunc_f19_post) rfl rfl rfl Try.func19 Try.pn19 rfl rfl (fun y w hy hs => slices_ContainsFunc_f19_ref w _ hs v_2 cycle_1 (Ty.vmono _ hle_11 h_3) (.func (.func 20) #[] #[.pointer (some ⟨c_7, 0, none⟩)]) (fun x0 => cert_Circle_1 x0 facts_4) ⟨20, Try.f20, [.pointer (some ⟨c_7, 0, none⟩)], rfl, Try.func20, Try.pn20, rfl, fun τ w hle2 hs x0 r hr => cert_Circle_1_ref w τ hs x0 c_7 v_5 facts_4 (fun j u hj => FS.le.cell (FS.le.trans (FS.le.refl _) hle2) (hf_12 j u hj)) (Ty.vmono _ hle2 (Ty.vmono _ hle_11 h_6)) r hr⟩ y hy) ?_)
      intro r_15 v_17 s_18 PV_20 hy_16 hle_19 hp_21
      obtain ⟨rfl, rfl⟩ := hp_21
      refine JL_op rfl (op_read rfl rfl (r_pick_f (v := .bool r_15) rfl hc_13 rfl) ?_)
      refine J_prune _ ?_ fun b => hk r_15 _ b _ _ ⟨hle_19, rfl, rfl⟩
      exact ⟨rfl, rfl, rfl, trivial⟩
    · rintro b_14 _ b s_22 _ ⟨hle_23, rfl, rfl⟩
      refine JL_nil ?_
      refine J_then ?_
      refine J_cond rfl (fun hc_24 => ?_) (fun hc_24 => ?_)
      · refine J_seq ?_
        refine J_region ?_
        refine JL_op rfl (op_read rfl rfl (r_assign (v := .bool false) rfl) ?_)
        refine JL_nil ?_
        refine J_then ?_
        refine J_ret ?_
        refine J_then_ret ?_
        exact J_return1 rfl ⟨rfl, rfl⟩
      · refine J_skip ?_
        refine J_then ?_
        refine J_seq ?_
        refine J_region ?_
        refine JL_op rfl (op_read rfl rfl (r_assign (v := .int .i64 0) rfl) ?_)
        refine JL_nil ?_
        refine J_then ?_
        refine J_seq ?_
        refine J_region_any [] Try.mixed (by kernel_rfl) fun hns => ?_
        have hS_25 : HeldOK s_22 [] s_22 [] := HeldOK.same trivial
        refine JA_take 0 rfl hns (by kernel_rfl) (by kernel_rfl) hS_25 rfl rfl rfl (r_load_fast (cs' := [v_5]) (v := v_5) Try.pu23 Try.pi23 rfl (fun j u hj => FS.le.cell hle_23 (hf_12 j u hj)) rfl rfl (by decide) rfl) ?_
        refine JA_take 1 rfl hns (by kernel_rfl) (by kernel_rfl) hS_25 rfl rfl rfl (r_move (v := v_2) rfl) ?_
        refine J_bind fun x_26 hx_27 => ?_
        refine JA_take 2 rfl hns (by kernel_rfl) (by kernel_rfl) hS_25 rfl rfl rfl (r_index_frozen (v := v_2) (T := (tInt .i64)) (q := x_26) Try.pu22 Try.pi3 rfl rfl rfl (Ty.vmono _ (FS.le.trans hle_11 hle_23) h_3) hx_27) ?_
        refine JA_takes 3 rfl hns (by kernel_rfl) (by kernel_rfl) hS_25 rfl rfl rfl (l_elem_frozen (v := v_2) (T := (tInt .i64)) (Tf := (tInt .i64)) (q := x_26) (i := 0) (off := 0) Try.pu3 Try.pi3 rfl rfl rfl (Ty.vmono _ (FS.le.trans hle_11 hle_23) h_3) hx_27 (FieldAt.self _) (by decide)) ?_
        intro v_28 h_29
        obtain rfl := tInt_v.1 h_29
        refine J_bind fun x_30 hx_31 => ?_
        refine JA_take 4 rfl hns (by kernel_rfl) (by kernel_rfl) hS_25 rfl rfl rfl (r_index_frozen (v := v_5) (T := t_Gdiff_Leq) (q := x_30) Try.pu23 Try.pi37 rfl rfl rfl (Ty.vmono _ (FS.le.trans hle_11 hle_23) h_6) hx_31) ?_
        refine JA_take 5 rfl hns (by kernel_rfl) (by kernel_rfl) hS_25 rfl rfl rfl (r_fieldAddr (r := elemAddr v_5 ((x_26).toNat * t_Gdiff_Leq.size + 0)) Try.pu37 (f := Try.pf37.getD 0 default) rfl Try.pi3 (by decide) rfl (elemAddr_add _ _ _)) ?_
        refine JA_takes 6 rfl hns (by kernel_rfl) (by kernel_rfl) hS_25 rfl rfl rfl (l_elem_frozen (v := v_5) (T := t_Gdiff_Leq) (Tf := (tInt .i64)) (q := x_30) (i := x_26) (off := 0) Try.pu3 Try.pi3 rfl rfl rfl (Ty.vmono _ (FS.le.trans hle_11 hle_23) h_6) hx_31 f_Gdiff_Leq_X (by decide)) ?_
        intro v_32 h_33
        obtain rfl := tInt_v.1 h_33
        refine JA_take 7 rfl hns (by kernel_rfl) (by kernel_rfl) hS_25 rfl rfl rfl (r_assign (v := .int .i64 x_30.X) rfl) ?_
        refine JA_done (by kernel_rfl) ?_
        refine J_then ?_
        refine J_seq ?_
        refine J_seq ?_
        refine J_region ?_
        refine JL_op rfl (op_read rfl rfl (r_move (v := v_2) rfl) ?_)
        refine JL_op rfl (op_read rfl rfl (r_len_frozen (v := v_2) Try.pu22 rfl (Ty.vmono _ (FS.le.trans hle_11 hle_23) h_3)) ?_)
        refine JL_op rfl (op_read rfl rfl (r_move (v := .int .i64 0) rfl) ?_)
        refine JL_nil ?_
        refine J_then ?_
        refine J_block ?_
        refine J_loop (fun (y : Int × Int × Int) L τ PV => s_22.le τ ∧ L = [(0, v_2), (3, .pointer (some ⟨c_7, 0, none⟩)), (5, .int .i64 y.1), (6, .int .i64 y.2.1), (29, v_2), (30, .int .i64 cycle_1.len), (31, .int .i64 y.2.2)] ∧ PV = []) (fun (y : W2 (Int × Int) Unit) e L τ PV => match y, e with | .a y, e => e = .exit 0 ∧ (s_22.le τ ∧ L = [(0, v_2), (3, .pointer (some ⟨c_7, 0, none⟩)), (5, .int .i64 y.1), (6, .int .i64 y.2)] ∧ PV = []) | .b y, e => e = .ret ∧ (s_22.le τ ∧ L = [(4, .bool false)] ∧ PV = [])) _ ?_ ⟨(FS.le.refl _), rfl, rfl⟩ ?_ ?_
        · exact ⟨rfl, rfl, rfl, rfl, rfl, rfl, rfl, trivial⟩
        · rintro x_34 _ b s_35 _ ⟨hle_36, rfl, rfl⟩
          unfold cert_Circle_L1
          refine J_seq ?_
          refine J_region ?_
          refine JL_op rfl (op_read rfl rfl (r_lss rfl rfl) ?_)
          refine JL_nil ?_
          refine J_then ?_
          refine J_seq ?_
          refine J_cond rfl (fun hc_37 => ?_) (fun hc_37 => ?_)
          · refine J_skip ?_
            refine J_then ?_
            refine J_seq ?_
            refine J_block ?_
            refine J_seq ?_
            refine J_region ?_
            refine J_bind fun x_38 hx_39 => ?_
            refine JL_op rfl (op_read rfl rfl (r_index_frozen (v := v_2) (T := (tInt .i64)) (q := x_38) Try.pu22 Try.pi3 rfl rfl rfl (Ty.vmono _ (FS.le.trans (FS.le.trans hle_11 hle_23) hle_36) h_3) hx_39) ?_)
            refine JL_op rfl (op_reads rfl rfl (l_elem_frozen (v := v_2) (T := (tInt .i64)) (Tf := (tInt .i64)) (q := x_38) (i := x_34.2.2) (off := 0) Try.pu3 Try.pi3 rfl rfl rfl (Ty.vmono _ (FS.le.trans (FS.le.trans hle_11 hle_23) hle_36) h_3) hx_39 (FieldAt.self _) (by decide)) ?_)
            intro v_40 h_41
            obtain rfl := tInt_v.1 h_41
            refine JL_op rfl (op_read rfl rfl (r_assign (v := .int .i64 x_38) rfl) ?_)
            refine JL_nil ?_
            refine J_then ?_
            refine J_seq ?_
            refine J_seq ?_
            refine J_region ?_
            refine JL_op rfl (op_read rfl rfl (r_load_fast (cs' := [v_5]) (v := v_5) Try.pu23 Try.pi23 rfl (fun j u hj => FS.le.cell (FS.le.trans hle_23 hle_36) (hf_12 j u hj)) rfl rfl (by decide) rfl) ?_)
            refine JL_op rfl (op_read rfl rfl (r_move (v := .int .i64 x_38) rfl) ?_)
            refine J_bind fun x_42 hx_43 => ?_
            refine JL_op rfl (op_read rfl rfl (r_index_frozen (v := v_5) (T := t_Gdiff_Leq) (q := x_42) Try.pu23 Try.pi37 rfl rfl rfl (Ty.vmono _ (FS.le.trans (FS.le.trans hle_11 hle_23) hle_36) h_6) hx_43) ?_)
            refine JL_op rfl (op_read rfl rfl (r_fieldAddr (r := elemAddr v_5 ((x_38).toNat * t_Gdiff_Leq.size + 0)) Try.pu37 (f := Try.pf37.getD 0 default) rfl Try.pi3 (by decide) rfl (elemAddr_add _ _ _)) ?_)
            refine JL_op rfl (op_reads rfl rfl (l_elem_frozen (v := v_5) (T := t_Gdiff_Leq) (Tf := (tInt .i64)) (q := x_42) (i := x_38) (off := 0) Try.pu3 Try.pi3 rfl rfl rfl (Ty.vmono _ (FS.le.trans (FS.le.trans hle_11 hle_23) hle_36) h_6) hx_43 f_Gdiff_Leq_X (by decide)) ?_)
            intro v_44 h_45
            obtain rfl := tInt_v.1 h_45
            refine JL_op rfl (op_read rfl rfl (r_move (v := .int .i64 x_34.2.1) rfl) ?_)
            refine JL_op rfl (op_read rfl rfl (r_neq rfl rfl) ?_)
            refine JL_nil ?_
            refine J_then ?_
            refine J_cond rfl (fun hc_46 => ?_) (fun hc_46 => ?_)
            · refine J_seq ?_
              refine J_region ?_
              refine JL_op rfl (op_read rfl rfl (r_assign (v := .bool false) rfl) ?_)
              refine JL_nil ?_
              refine J_then ?_
              refine J_ret ?_
              refine J_then_ret ?_
              refine J_in_ret ?_
              refine J_then_ret ?_
              refine J_done trivial _ ?_ ⟨rfl, hle_36, rfl, rfl⟩
              exact ⟨rfl, trivial⟩
            · refine J_skip ?_
              refine J_then ?_
              refine J_seq ?_
              refine J_region ?_
              refine JL_op rfl (op_read rfl rfl (r_load_fast (cs' := [v_5]) (v := v_5) Try.pu23 Try.pi23 rfl (fun j u hj => FS.le.cell (FS.le.trans hle_23 hle_36) (hf_12 j u hj)) rfl rfl (by decide) rfl) ?_)
              refine JL_op rfl (op_read rfl rfl (r_move (v := .int .i64 x_38) rfl) ?_)
              refine J_bind fun x_47 hx_48 => ?_
              refine JL_op rfl (op_read rfl rfl (r_index_frozen (v := v_5) (T := t_Gdiff_Leq) (q := x_47) Try.pu23 Try.pi37 rfl rfl rfl (Ty.vmono _ (FS.le.trans (FS.le.trans hle_11 hle_23) hle_36) h_6) hx_48) ?_)
              refine JL_op rfl (op_read rfl rfl (r_fieldAddr (r := elemAddr v_5 ((x_38).toNat * t_Gdiff_Leq.size + 1)) Try.pu37 (f := Try.pf37.getD 1 default) rfl Try.pi3 (by decide) rfl (elemAddr_add _ _ _)) ?_)
              refine JL_op rfl (op_reads rfl rfl (l_elem_frozen (v := v_5) (T := t_Gdiff_Leq) (Tf := (tInt .i64)) (q := x_47) (i := x_38) (off := 1) Try.pu3 Try.pi3 rfl rfl rfl (Ty.vmono _ (FS.le.trans (FS.le.trans hle_11 hle_23) hle_36) h_6) hx_48 f_Gdiff_Leq_Y (by decide)) ?_)
              intro v_49 h_50
              obtain rfl := tInt_v.1 h_50
              refine JL_op rfl (op_read rfl rfl (r_assign (v := .int .i64 x_47.Y) rfl) ?_)
              refine JL_nil ?_
              refine J_then ?_
              refine J_region ?_
              refine JL_op rfl (op_read rfl rfl (r_move (v := .int .i64 x_34.1) rfl) ?_)
              refine JL_op rfl (op_read rfl rfl (r_load_fast (cs' := [v_5]) (v := v_5) Try.pu23 Try.pi23 rfl (fun j u hj => FS.le.cell (FS.le.trans hle_23 hle_36) (hf_12 j u hj)) rfl rfl (by decide) rfl) ?_)
              refine JL_op rfl (op_read rfl rfl (r_move (v := .int .i64 x_38) rfl) ?_)
              refine J_bind fun x_51 hx_52 => ?_
              refine JL_op rfl (op_read rfl rfl (r_index_frozen (v := v_5) (T := t_Gdiff_Leq) (q := x_51) Try.pu23 Try.pi37 rfl rfl rfl (Ty.vmono _ (FS.le.trans (FS.le.trans hle_11 hle_23) hle_36) h_6) hx_52) ?_)
              refine JL_op rfl (op_read rfl rfl (r_fieldAddr (r := elemAddr v_5 ((x_38).toNat * t_Gdiff_Leq.size + 2)) Try.pu37 (f := Try.pf37.getD 2 default) rfl Try.pi2 (by decide) rfl (elemAddr_add _ _ _)) ?_)
              refine JL_op rfl (op_reads rfl rfl (l_elem_frozen (v := v_5) (T := t_Gdiff_Leq) (Tf := (tInt .i64)) (q := x_51) (i := x_38) (off := 2) Try.pu2 Try.pi2 rfl rfl rfl (Ty.vmono _ (FS.le.trans (FS.le.trans hle_11 hle_23) hle_36) h_6) hx_52 f_Gdiff_Leq_C (by decide)) ?_)
              intro v_53 h_54
              obtain rfl := tInt_v.1 h_54
              refine JL_op rfl (op_read rfl rfl (r_add rfl rfl) ?_)
              refine JL_op rfl (op_read rfl rfl (r_assign (v := .int .i64 (IntKind.i64.wrap (x_34.1 + x_51.C))) rfl) ?_)
              refine JL_nil ?_
              refine J_in_normal ?_
              refine J_then ?_
              refine J_region ?_
              refine JL_op rfl (op_read rfl rfl (r_add rfl rfl) ?_)
              refine JL_op rfl (op_read rfl rfl (r_move (v := .int .i64 (IntKind.i64.wrap (x_34.2.2 + 1))) rfl) ?_)
              refine JL_nil ?_
              refine J_next _ ?_ ⟨hle_36, rfl, rfl⟩
              exact ⟨rfl, rfl, rfl, rfl, rfl, rfl, rfl, trivial⟩
          · refine J_exit ?_
            refine J_then_exit ?_
            refine J_done trivial _ ?_ ⟨rfl, hle_36, rfl, rfl⟩
            exact ⟨rfl, rfl, rfl, rfl, trivial⟩
        · rintro (y_56 | y_69) e L b τ PV ht
          · obtain ⟨rfl, ht⟩ := ht
            revert ht; revert PV; revert τ; revert b; revert L
            rintro _ b s_57 _ ⟨hle_58, rfl, rfl⟩
            refine J_in_exit ?_
            refine J_then ?_
            refine J_seq ?_
            refine J_region_any [] Try.mixed (by kernel_rfl) fun hns => ?_
            have hS_59 : HeldOK s_57 [] s_57 [] := HeldOK.same trivial
            refine JA_take 0 rfl hns (by kernel_rfl) (by kernel_rfl) hS_59 rfl rfl rfl (r_move (v := .int .i64 y_56.2) rfl) ?_
            refine JA_take 1 rfl hns (by kernel_rfl) (by kernel_rfl) hS_59 rfl rfl rfl (r_load_fast (cs' := [v_5]) (v := v_5) Try.pu23 Try.pi23 rfl (fun j u hj => FS.le.cell (FS.le.trans hle_23 hle_58) (hf_12 j u hj)) rfl rfl (by decide) rfl) ?_
            refine JA_take 2 rfl hns (by kernel_rfl) (by kernel_rfl) hS_59 rfl rfl rfl (r_move (v := v_2) rfl) ?_
            refine J_bind fun x_60 hx_61 => ?_
            refine JA_take 3 rfl hns (by kernel_rfl) (by kernel_rfl) hS_59 rfl rfl rfl (r_index_frozen (v := v_2) (T := (tInt .i64)) (q := x_60) Try.pu22 Try.pi3 rfl rfl rfl (Ty.vmono _ (FS.le.trans (FS.le.trans hle_11 hle_23) hle_58) h_3) hx_61) ?_
            refine JA_takes 4 rfl hns (by kernel_rfl) (by kernel_rfl) hS_59 rfl rfl rfl (l_elem_frozen (v := v_2) (T := (tInt .i64)) (Tf := (tInt .i64)) (q := x_60) (i := 0) (off := 0) Try.pu3 Try.pi3 rfl rfl rfl (Ty.vmono _ (FS.le.trans (FS.le.trans hle_11 hle_23) hle_58) h_3) hx_61 (FieldAt.self _) (by decide)) ?_
            intro v_62 h_63
            obtain rfl := tInt_v.1 h_63
            refine J_bind fun x_64 hx_65 => ?_
            refine JA_take 5 rfl hns (by kernel_rfl) (by kernel_rfl) hS_59 rfl rfl rfl (r_index_frozen (v := v_5) (T := t_Gdiff_Leq) (q := x_64) Try.pu23 Try.pi37 rfl rfl rfl (Ty.vmono _ (FS.le.trans (FS.le.trans hle_11 hle_23) hle_58) h_6) hx_65) ?_
            refine JA_take 6 rfl hns (by kernel_rfl) (by kernel_rfl) hS_59 rfl rfl rfl (r_fieldAddr (r := elemAddr v_5 ((x_60).toNat * t_Gdiff_Leq.size + 0)) Try.pu37 (f := Try.pf37.getD 0 default) rfl Try.pi3 (by decide) rfl (elemAddr_add _ _ _)) ?_
            refine JA_takes 7 rfl hns (by kernel_rfl) (by kernel_rfl) hS_59 rfl rfl rfl (l_elem_frozen (v := v_5) (T := t_Gdiff_Leq) (Tf := (tInt .i64)) (q := x_64) (i := x_60) (off := 0) Try.pu3 Try.pi3 rfl rfl rfl (Ty.vmono _ (FS.le.trans (FS.le.trans hle_11 hle_23) hle_58) h_6) hx_65 f_Gdiff_Leq_X (by decide)) ?_
            intro v_66 h_67
            obtain rfl := tInt_v.1 h_67
            refine JA_take 8 rfl hns (by kernel_rfl) (by kernel_rfl) hS_59 rfl rfl rfl (r_eql rfl rfl) ?_
            refine JA_take 9 rfl hns (by kernel_rfl) (by kernel_rfl) hS_59 rfl rfl rfl (r_move (v := .bool (decide (y_56.2 = x_64.X))) rfl) ?_
            refine J_forkA (e := (decide (y_56.2 = x_64.X))) 1 #[true, true, true, true, true, true, true, true, true, true, true, true, true, false] [(67, .bool (decide (y_56.2 = x_64.X) && decide (y_56.1 < 0)))] (fun hc_68 hk => ?_) (fun hc_68 hk => ?_) (fun b => ?_)
            · refine JA_takeg 10 rfl hns (by kernel_rfl) (by kernel_rfl) hS_59 rfl rfl hc_68 rfl rfl (r_move (v := .int .i64 y_56.1) rfl) ?_
              refine JA_takeg 11 rfl hns (by kernel_rfl) (by kernel_rfl) hS_59 rfl rfl hc_68 rfl rfl (r_lss rfl rfl) ?_
              refine JA_take 12 rfl hns (by kernel_rfl) (by kernel_rfl) hS_59 rfl rfl rfl (r_pick_t (v := .bool (decide (y_56.1 < 0))) rfl hc_68 rfl) ?_
              refine J_prune [(67, .bool (decide (y_56.2 = x_64.X) && decide (y_56.1 < 0)))] ⟨(by show Value.bool _ = Value.bool _; rw [hc_68]; rfl), trivial⟩ hk
            · refine JA_skip (y := some (decide (y_56.2 = x_64.X))) 10 rfl hns (by kernel_rfl) (by kernel_rfl) hS_59 rfl rfl (by rw [hc_68]; decide) rfl rfl ?_
              refine JA_skip (y := some (decide (y_56.2 = x_64.X))) 11 rfl hns (by kernel_rfl) (by kernel_rfl) hS_59 rfl rfl (by rw [hc_68]; decide) rfl rfl ?_
              refine JA_take 12 rfl hns (by kernel_rfl) (by kernel_rfl) hS_59 rfl rfl rfl (r_pick_f (v := .bool false) rfl hc_68 rfl) ?_
              refine J_prune [(67, .bool (decide (y_56.2 = x_64.X) && decide (y_56.1 < 0)))] ⟨(by show Value.bool _ = Value.bool _; rw [hc_68]; rfl), trivial⟩ hk
            · refine JA_take 13 rfl hns (by kernel_rfl) (by kernel_rfl) hS_59 rfl rfl rfl (r_assign (v := .bool (decide (y_56.2 = x_64.X) && decide (y_56.1 < 0))) rfl) ?_
              refine JA_done (by kernel_rfl) ?_
              refine J_then ?_
              refine J_ret ?_
              exact J_return1 rfl ⟨rfl, rfl⟩
          · obtain ⟨rfl, ht⟩ := ht
            revert ht; revert PV; revert τ; revert b; revert L
            rintro _ b s_70 _ ⟨hle_71, rfl, rfl⟩
            refine J_in_ret ?_
            refine J_then_ret ?_
            exact J_return1 rfl ⟨rfl, rfl⟩
def cert_Holds_1_post (r : Bool) (σ : FS) (PV : List Priv) (v : Value) : Prop :=
  v = .bool r ∧ PV = []
set_option maxRecDepth 100000 in
theorem cert_Holds_1_ref (w : World) (σ : FS) (hs : σ.sub w) (v_2 : Value) (f_1 : Gdiff_Leq) (h_3 : t_Gdiff_Leq.vrel σ v_2 f_1) (c_5 : Nat) (v_7 : Value) (a_4 : Sl Int) (hf_6 : ∀ (j : Nat) (u : Value), [v_7][j]? = some u → σ.cell ((⟨c_5, 0, none⟩ : Addr).add j) = some u) (h_8 : (tSl (tInt .i64)).vrel σ v_7 a_4) (r : Bool) (hr : cert_Holds_1 f_1 a_4 = some r) : Does Try.prog 23 [v_2, .pointer (some ⟨c_5, 0, none⟩)] w σ (cert_Holds_1_post r) := by
  unfold cert_Holds_1 at hr
  obtain rfl := t_Gdiff_Leq_v.1 h_3
  refine does_of_J Try.func23 rfl (n := 60) rfl rfl hs hr ?_
  refine J_seq ?_
  refine J_region ?_
  refine JL_op rfl (op_box (cs := [.int .i64 f_1.X, .int .i64 f_1.Y, .int .i64 f_1.C]) rfl rfl ?_)
  intro c_9
  refine JL_op rfl (op_read rfl rfl (r_assign (v := .bool false) rfl) ?_)
  refine JL_nil ?_
  refine J_then ?_
  refine J_seq ?_
  refine J_seq ?_
  refine J_region ?_
  refine JL_op rfl (op_read rfl rfl (r_fieldAddr (r := ⟨c_9, 0, none⟩) Try.pu37 (f := Try.pf37.getD 0 default) rfl Try.pi3 (by decide) rfl rfl) ?_)
  refine JL_op rfl (op_read rfl rfl (r_load_priv (cs' := [.int .i64 f_1.X]) (v := .int .i64 f_1.X) 0 Try.pu3 Try.pi3 rfl rfl rfl rfl (by decide) rfl) ?_)
  refine JL_op rfl (op_read rfl rfl (r_lss rfl rfl) ?_)
  refine JL_op rfl (op_read rfl rfl (r_move (v := .bool (decide (f_1.X < 0))) rfl) ?_)
  refine J_forkL (e := (decide (f_1.X < 0))) 6 [(1, .pointer (some ⟨c_5, 0, none⟩)), (2, .pointer (some ⟨c_9, 0, none⟩)), (15, .bool (decide (f_1.X < 0) || decide (a_4.len ≤ f_1.X)))] (fun hc_11 hk => ?_) (fun hc_11 hk => ?_) (fun b => ?_)
  · refine JL_skip rfl rfl hc_11 rfl rfl ?_
    refine JL_skip rfl rfl hc_11 rfl rfl ?_
    refine JL_skip rfl rfl hc_11 rfl rfl ?_
    refine JL_skip rfl rfl hc_11 rfl rfl ?_
    refine JL_skip rfl rfl hc_11 rfl rfl ?_
    refine JL_op rfl (op_read rfl rfl (r_pick_t (v := .bool true) rfl hc_11 rfl) ?_)
    refine J_prune [(1, .pointer (some ⟨c_5, 0, none⟩)), (2, .pointer (some ⟨c_9, 0, none⟩)), (15, .bool (decide (f_1.X < 0) || decide (a_4.len ≤ f_1.X)))] ⟨rfl, rfl, (by show Value.bool _ = Value.bool _; rw [hc_11]; rfl), trivial⟩ hk
  · refine JL_opg rfl rfl hc_11 (op_read rfl rfl (r_fieldAddr (r := ⟨c_9, 0, none⟩) Try.pu37 (f := Try.pf37.getD 0 default) rfl Try.pi3 (by decide) rfl rfl) ?_)
    refine JL_opg rfl rfl hc_11 (op_read rfl rfl (r_load_priv (cs' := [.int .i64 f_1.X]) (v := .int .i64 f_1.X) 0 Try.pu3 Try.pi3 rfl rfl rfl rfl (by decide) rfl) ?_)
    refine JL_opg rfl rfl hc_11 (op_read rfl rfl (r_load_fast (cs' := [v_7]) (v := v_7) Try.pu30 Try.pi30 rfl (fun j u hj => FS.le.cell (FS.le.refl _) (hf_6 j u hj)) rfl rfl (by decide) rfl) ?_)
    refine JL_opg rfl rfl hc_11 (op_read rfl rfl (r_len_frozen (v := v_7) Try.pu30 rfl h_8) ?_)
    refine JL_opg rfl rfl hc_11 (op_read rfl rfl (r_geq rfl rfl) ?_)
    refine JL_op rfl (op_read rfl rfl (r_pick_f (v := .bool (decide (a_4.len ≤ f_1.X))) rfl hc_11 rfl) ?_)
    refine J_prune [(1, .pointer (some ⟨c_5, 0, none⟩)), (2, .pointer (some ⟨c_9, 0, none⟩)), (15, .bool (decide (f_1.X < 0) || decide (a_4.len ≤ f_1.X)))] ⟨rfl, rfl, (by show Value.bool _ = Value.bool _; rw [hc_11]; rfl), trivial⟩ hk
  · refine JL_op rfl (op_read rfl rfl (r_move (v := .bool (decide (f_1.X < 0) || decide (a_4.len ≤ f_1.X))) rfl) ?_)
    refine J_forkL (e := (decide (f_1.X < 0) || decide (a_4.len ≤ f_1.X))) 4 [(1, .pointer (some ⟨c_5, 0, none⟩)), (2, .pointer (some ⟨c_9, 0, none⟩)), (20, .bool ((decide (f_1.X < 0) || decide (a_4.len ≤ f_1.X)) || decide (f_1.Y < 0)))] (fun hc_12 hk => ?_) (fun hc_12 hk => ?_) (fun b => ?_)
    · refine JL_skip rfl rfl hc_12 rfl rfl ?_
      refine JL_skip rfl rfl hc_12 rfl rfl ?_
      refine JL_skip rfl rfl hc_12 rfl rfl ?_
      refine JL_op rfl (op_read rfl rfl (r_pick_t (v := .bool true) rfl hc_12 rfl) ?_)
      refine J_prune [(1, .pointer (some ⟨c_5, 0, none⟩)), (2, .pointer (some ⟨c_9, 0, none⟩)), (20, .bool ((decide (f_1.X < 0) || decide (a_4.len ≤ f_1.X)) || decide (f_1.Y < 0)))] ⟨rfl, rfl, (by show Value.bool _ = Value.bool _; rw [hc_12]; rfl), trivial⟩ hk
    · refine JL_opg rfl rfl hc_12 (op_read rfl rfl (r_fieldAddr (r := ⟨c_9, 1, none⟩) Try.pu37 (f := Try.pf37.getD 1 default) rfl Try.pi3 (by decide) rfl rfl) ?_)
      refine JL_opg rfl rfl hc_12 (op_read rfl rfl (r_load_priv (cs' := [.int .i64 f_1.Y]) (v := .int .i64 f_1.Y) 0 Try.pu3 Try.pi3 rfl rfl rfl rfl (by decide) rfl) ?_)
      refine JL_opg rfl rfl hc_12 (op_read rfl rfl (r_lss rfl rfl) ?_)
      refine JL_op rfl (op_read rfl rfl (r_pick_f (v := .bool (decide (f_1.Y < 0))) rfl hc_12 rfl) ?_)
      refine J_prune [(1, .pointer (some ⟨c_5, 0, none⟩)), (2, .pointer (some ⟨c_9, 0, none⟩)), (20, .bool ((decide (f_1.X < 0) || decide (a_4.len ≤ f_1.X)) || decide (f_1.Y < 0)))] ⟨rfl, rfl, (by show Value.bool _ = Value.bool _; rw [hc_12]; rfl), trivial⟩ hk
    · refine JL_op rfl (op_read rfl rfl (r_move (v := .bool ((decide (f_1.X < 0) || decide (a_4.len ≤ f_1.X)) || decide (f_1.Y < 0))) rfl) ?_)
      refine J_forkL (e := ((decide (f_1.X < 0) || decide (a_4.len ≤ f_1.X)) || decide (f_1.Y < 0))) 6 [(1, .pointer (some ⟨c_5, 0, none⟩)), (2, .pointer (some ⟨c_9, 0, none⟩)), (27, .bool (((decide (f_1.X < 0) || decide (a_4.len ≤ f_1.X)) || decide (f_1.Y < 0)) || decide (a_4.len ≤ f_1.Y)))] (fun hc_13 hk => ?_) (fun hc_13 hk => ?_) (fun b => ?_)
      · refine JL_skip rfl rfl hc_13 rfl rfl ?_
        refine JL_skip rfl rfl hc_13 rfl rfl ?_
        refine JL_skip rfl rfl hc_13 rfl rfl ?_
        refine JL_skip rfl rfl hc_13 rfl rfl ?_
        refine JL_skip rfl rfl hc_13 rfl rfl ?_
        refine JL_op rfl (op_read rfl rfl (r_pick_t (v := .bool true) rfl hc_13 rfl) ?_)
        refine J_prune [(1, .pointer (some ⟨c_5, 0, none⟩)), (2, .pointer (some ⟨c_9, 0, none⟩)), (27, .bool (((decide (f_1.X < 0) || decide (a_4.len ≤ f_1.X)) || decide (f_1.Y < 0)) || decide (a_4.len ≤ f_1.Y)))] ⟨rfl, rfl, (by show Value.bool _ = Value.bool _; rw [hc_13]; rfl), trivial⟩ hk
      · refine JL_opg rfl rfl hc_13 (op_read rfl rfl (r_fieldAddr (r := ⟨c_9, 1, none⟩) Try.pu37 (f := Try.pf37.getD 1 default) rfl Try.pi3 (by decide) rfl rfl) ?_)
        refine JL_opg rfl rfl hc_13 (op_read rfl rfl (r_load_priv (cs' := [.int .i64 f_1.Y]) (v := .int .i64 f_1.Y) 0 Try.pu3 Try.pi3 rfl rfl rfl rfl (by decide) rfl) ?_)
        refine JL_opg rfl rfl hc_13 (op_read rfl rfl (r_load_fast (cs' := [v_7]) (v := v_7) Try.pu30 Try.pi30 rfl (fun j u hj => FS.le.cell (FS.le.refl _) (hf_6 j u hj)) rfl rfl (by decide) rfl) ?_)
        refine JL_opg rfl rfl hc_13 (op_read rfl rfl (r_len_frozen (v := v_7) Try.pu30 rfl h_8) ?_)
        refine JL_opg rfl rfl hc_13 (op_read rfl rfl (r_geq rfl rfl) ?_)
        refine JL_op rfl (op_read rfl rfl (r_pick_f (v := .bool (decide (a_4.len ≤ f_1.Y))) rfl hc_13 rfl) ?_)
        refine J_prune [(1, .pointer (some ⟨c_5, 0, none⟩)), (2, .pointer (some ⟨c_9, 0, none⟩)), (27, .bool (((decide (f_1.X < 0) || decide (a_4.len ≤ f_1.X)) || decide (f_1.Y < 0)) || decide (a_4.len ≤ f_1.Y)))] ⟨rfl, rfl, (by show Value.bool _ = Value.bool _; rw [hc_13]; rfl), trivial⟩ hk
      · refine JL_nil ?_
        refine J_then ?_
        refine J_cond rfl (fun hc_14 => ?_) (fun hc_14 => ?_)
        · refine J_seq ?_
          refine J_region ?_
          refine JL_op rfl (op_read rfl rfl (r_assign (v := .bool true) rfl) ?_)
          refine JL_nil ?_
          refine J_then ?_
          refine J_ret ?_
          refine J_then_ret ?_
          refine J_select (PV' := []) [] (by decide) rfl ?_
          exact J_return1 rfl ⟨rfl, rfl⟩
        · refine J_skip ?_
          refine J_then ?_
          refine J_seq ?_
          refine J_region_any [.cell c_9 [.int .i64 f_1.X, .int .i64 f_1.Y, .int .i64 f_1.C] 37] Try.mixed (by kernel_rfl) fun hns => ?_
          have hS_15 : HeldOK σ [.cell c_9 [.int .i64 f_1.X, .int .i64 f_1.Y, .int .i64 f_1.C] 37] σ [.cell c_9 [.int .i64 f_1.X, .int .i64 f_1.Y, .int .i64 f_1.C] 37] := HeldOK.same ⟨⟨0, rfl⟩, trivial⟩
          refine JA_take 0 rfl hns (by kernel_rfl) (by kernel_rfl) hS_15 rfl rfl rfl (r_load_fast (cs' := [v_7]) (v := v_7) Try.pu30 Try.pi30 rfl (fun j u hj => FS.le.cell (FS.le.refl _) (hf_6 j u hj)) rfl rfl (by decide) rfl) ?_
          refine JA_take 1 rfl hns (by kernel_rfl) (by kernel_rfl) hS_15 rfl rfl rfl (r_fieldAddr (r := ⟨c_9, 0, none⟩) Try.pu37 (f := Try.pf37.getD 0 default) rfl Try.pi3 (by decide) rfl rfl) ?_
          refine JA_take 2 rfl hns (by kernel_rfl) (by kernel_rfl) hS_15 rfl rfl rfl (r_load_priv (cs' := [.int .i64 f_1.X]) (v := .int .i64 f_1.X) 0 Try.pu3 Try.pi3 rfl rfl rfl rfl (by decide) rfl) ?_
          refine J_bind fun x_16 hx_17 => ?_
          refine JA_take 3 rfl hns (by kernel_rfl) (by kernel_rfl) hS_15 rfl rfl rfl (r_index_frozen (v := v_7) (T := (tInt .i64)) (q := x_16) Try.pu30 Try.pi2 rfl rfl rfl h_8 hx_17) ?_
          refine JA_takes 4 rfl hns (by kernel_rfl) (by kernel_rfl) hS_15 rfl rfl rfl (l_elem_frozen (v := v_7) (T := (tInt .i64)) (Tf := (tInt .i64)) (q := x_16) (i := f_1.X) (off := 0) Try.pu2 Try.pi2 rfl rfl rfl h_8 hx_17 (FieldAt.self _) (by decide)) ?_
          intro v_18 h_19
          obtain rfl := tInt_v.1 h_19
          refine JA_take 5 rfl hns (by kernel_rfl) (by kernel_rfl) hS_15 rfl rfl rfl (r_load_fast (cs' := [v_7]) (v := v_7) Try.pu30 Try.pi30 rfl (fun j u hj => FS.le.cell (FS.le.refl _) (hf_6 j u hj)) rfl rfl (by decide) rfl) ?_
          refine JA_take 6 rfl hns (by kernel_rfl) (by kernel_rfl) hS_15 rfl rfl rfl (r_fieldAddr (r := ⟨c_9, 1, none⟩) Try.pu37 (f := Try.pf37.getD 1 default) rfl Try.pi3 (by decide) rfl rfl) ?_
          refine JA_take 7 rfl hns (by kernel_rfl) (by kernel_rfl) hS_15 rfl rfl rfl (r_load_priv (cs' := [.int .i64 f_1.Y]) (v := .int .i64 f_1.Y) 0 Try.pu3 Try.pi3 rfl rfl rfl rfl (by decide) rfl) ?_
          refine J_bind fun x_20 hx_21 => ?_
          refine JA_take 8 rfl hns (by kernel_rfl) (by kernel_rfl) hS_15 rfl rfl rfl (r_index_frozen (v := v_7) (T := (tInt .i64)) (q := x_20) Try.pu30 Try.pi2 rfl rfl rfl h_8 hx_21) ?_
          refine JA_takes 9 rfl hns (by kernel_rfl) (by kernel_rfl) hS_15 rfl rfl rfl (l_elem_frozen (v := v_7) (T := (tInt .i64)) (Tf := (tInt .i64)) (q := x_20) (i := f_1.Y) (off := 0) Try.pu2 Try.pi2 rfl rfl rfl h_8 hx_21 (FieldAt.self _) (by decide)) ?_
          intro v_22 h_23
          obtain rfl := tInt_v.1 h_23
          refine JA_take 10 rfl hns (by kernel_rfl) (by kernel_rfl) hS_15 rfl rfl rfl (r_assign (v := .int .i64 x_16) rfl) ?_
          refine JA_take 11 rfl hns (by kernel_rfl) (by kernel_rfl) hS_15 rfl rfl rfl (r_assign (v := .int .i64 x_20) rfl) ?_
          refine JA_done (by kernel_rfl) ?_
          refine J_then ?_
          refine J_seq ?_
          refine J_region ?_
          refine JL_op rfl (op_read rfl rfl (r_fieldAddr (r := ⟨c_9, 2, none⟩) Try.pu37 (f := Try.pf37.getD 2 default) rfl Try.pi2 (by decide) rfl rfl) ?_)
          refine JL_op rfl (op_read rfl rfl (r_load_priv (cs' := [.int .i64 f_1.C]) (v := .int .i64 f_1.C) 0 Try.pu2 Try.pi2 rfl rfl rfl rfl (by decide) rfl) ?_)
          refine JL_op rfl (op_call (f := 21) (fn := Try.f21) (args := [.int .i64 f_1.C, .int .i64 17592186044416]) (post := cert_within_post) rfl rfl rfl Try.func21 Try.pn21 rfl rfl (fun y w hy hs => cert_within_ref w _ hs f_1.C 17592186044416 y hy) ?_)
          intro r_24 v_26 s_27 PV_29 hy_25 hle_28 hp_30
          obtain ⟨rfl, rfl⟩ := hp_30
          refine JL_op rfl (op_read rfl rfl (r_not rfl) ?_)
          refine JL_op rfl (op_read rfl rfl (r_move (v := .bool (!r_24)) rfl) ?_)
          refine J_forkLB (e := (!r_24)) 4 (fun (b_32 : Bool) L τ PV => s_27.le τ ∧ L = [(2, .pointer (some ⟨c_9, 0, none⟩)), (4, .int .i64 x_16), (5, .int .i64 x_20), (46, .bool b_32)] ∧ PV = [.cell c_9 [.int .i64 f_1.X, .int .i64 f_1.Y, .int .i64 f_1.C] 37]) (fun hc_31 hk => ?_) (fun hc_31 hk => ?_) ?_
          · refine JL_skip rfl rfl hc_31 rfl rfl ?_
            refine JL_skip rfl rfl hc_31 rfl rfl ?_
            refine JL_skip rfl rfl hc_31 rfl rfl ?_
            refine JL_op rfl (op_read rfl rfl (r_pick_t (v := .bool true) rfl hc_31 rfl) ?_)
            refine J_prune _ ?_ fun b => hk true _ b _ _ ⟨(FS.le.refl _), rfl, rfl⟩
            exact ⟨rfl, rfl, rfl, rfl, trivial⟩
          · refine JL_opg rfl rfl hc_31 (op_read rfl rfl (r_move (v := .int .i64 x_16) rfl) ?_)
            refine J_assoc ?_
            refine JL_opg rfl rfl hc_31 (op_call (f := 21) (fn := Try.f21) (args := [.int .i64 x_16, .int .i64 4503599627370496]) (post := cert_within_post) rfl rfl rfl Try.func21 Try.pn21 rfl rfl (fun y w hy hs => cert_within_ref w _ hs x_16 4503599627370496 y hy) ?_)
            intro r_33 v_35 s_36 PV_38 hy_34 hle_37 hp_39
            obtain ⟨rfl, rfl⟩ := hp_39
            refine JL_opg rfl rfl hc_31 (op_read rfl rfl (r_not rfl) ?_)
            refine JL_op rfl (op_read rfl rfl (r_pick_f (v := .bool (!r_33)) rfl hc_31 rfl) ?_)
            refine J_prune _ ?_ fun b => hk (!r_33) _ b _ _ ⟨hle_37, rfl, rfl⟩
            exact ⟨rfl, rfl, rfl, rfl, trivial⟩
          · rintro b_32 _ b s_40 _ ⟨hle_41, rfl, rfl⟩
            refine JL_op rfl (op_read rfl rfl (r_move (v := .bool b_32) rfl) ?_)
            refine J_forkLB (e := b_32) 4 (fun (b_43 : Bool) L τ PV => s_40.le τ ∧ L = [(2, .pointer (some ⟨c_9, 0, none⟩)), (4, .int .i64 x_16), (5, .int .i64 x_20), (51, .bool b_43)] ∧ PV = [.cell c_9 [.int .i64 f_1.X, .int .i64 f_1.Y, .int .i64 f_1.C] 37]) (fun hc_42 hk => ?_) (fun hc_42 hk => ?_) ?_
            · refine JL_skip rfl rfl hc_42 rfl rfl ?_
              refine JL_skip rfl rfl hc_42 rfl rfl ?_
              refine JL_skip rfl rfl hc_42 rfl rfl ?_
              refine JL_op rfl (op_read rfl rfl (r_pick_t (v := .bool true) rfl hc_42 rfl) ?_)
              refine J_prune _ ?_ fun b => hk true _ b _ _ ⟨(FS.le.refl _), rfl, rfl⟩
              exact ⟨rfl, rfl, rfl, rfl, trivial⟩
            · refine JL_opg rfl rfl hc_42 (op_read rfl rfl (r_move (v := .int .i64 x_20) rfl) ?_)
              refine J_assoc ?_
              refine JL_opg rfl rfl hc_42 (op_call (f := 21) (fn := Try.f21) (args := [.int .i64 x_20, .int .i64 4503599627370496]) (post := cert_within_post) rfl rfl rfl Try.func21 Try.pn21 rfl rfl (fun y w hy hs => cert_within_ref w _ hs x_20 4503599627370496 y hy) ?_)
              intro r_44 v_46 s_47 PV_49 hy_45 hle_48 hp_50
              obtain ⟨rfl, rfl⟩ := hp_50
              refine JL_opg rfl rfl hc_42 (op_read rfl rfl (r_not rfl) ?_)
              refine JL_op rfl (op_read rfl rfl (r_pick_f (v := .bool (!r_44)) rfl hc_42 rfl) ?_)
              refine J_prune _ ?_ fun b => hk (!r_44) _ b _ _ ⟨hle_48, rfl, rfl⟩
              exact ⟨rfl, rfl, rfl, rfl, trivial⟩
            · rintro b_43 _ b s_51 _ ⟨hle_52, rfl, rfl⟩
              refine JL_op rfl (op_read rfl rfl (r_move (v := .bool b_43) rfl) ?_)
              refine J_forkL (e := b_43) 7 [(59, .bool (b_43 || decide (f_1.C < (IntKind.i64.wrap (x_16 - x_20)))))] (fun hc_53 hk => ?_) (fun hc_53 hk => ?_) (fun b => ?_)
              · refine JL_skip rfl rfl hc_53 rfl rfl ?_
                refine JL_skip rfl rfl hc_53 rfl rfl ?_
                refine JL_skip rfl rfl hc_53 rfl rfl ?_
                refine JL_skip rfl rfl hc_53 rfl rfl ?_
                refine JL_skip rfl rfl hc_53 rfl rfl ?_
                refine JL_skip rfl rfl hc_53 rfl rfl ?_
                refine JL_op rfl (op_read rfl rfl (r_pick_t (v := .bool true) rfl hc_53 rfl) ?_)
                refine J_prune [(59, .bool (b_43 || decide (f_1.C < (IntKind.i64.wrap (x_16 - x_20)))))] ⟨(by show Value.bool _ = Value.bool _; rw [hc_53]; rfl), trivial⟩ hk
              · refine JL_opg rfl rfl hc_53 (op_read rfl rfl (r_move (v := .int .i64 x_16) rfl) ?_)
                refine JL_opg rfl rfl hc_53 (op_read rfl rfl (r_move (v := .int .i64 x_20) rfl) ?_)
                refine JL_opg rfl rfl hc_53 (op_read rfl rfl (r_sub rfl rfl) ?_)
                refine JL_opg rfl rfl hc_53 (op_read rfl rfl (r_fieldAddr (r := ⟨c_9, 2, none⟩) Try.pu37 (f := Try.pf37.getD 2 default) rfl Try.pi2 (by decide) rfl rfl) ?_)
                refine JL_opg rfl rfl hc_53 (op_read rfl rfl (r_load_priv (cs' := [.int .i64 f_1.C]) (v := .int .i64 f_1.C) 0 Try.pu2 Try.pi2 rfl rfl rfl rfl (by decide) rfl) ?_)
                refine JL_opg rfl rfl hc_53 (op_read rfl rfl (r_gtr rfl rfl) ?_)
                refine JL_op rfl (op_read rfl rfl (r_pick_f (v := .bool (decide (f_1.C < (IntKind.i64.wrap (x_16 - x_20))))) rfl hc_53 rfl) ?_)
                refine J_prune [(59, .bool (b_43 || decide (f_1.C < (IntKind.i64.wrap (x_16 - x_20)))))] ⟨(by show Value.bool _ = Value.bool _; rw [hc_53]; rfl), trivial⟩ hk
              · refine JL_op rfl (op_read rfl rfl (r_assign (v := .bool (b_43 || decide (f_1.C < (IntKind.i64.wrap (x_16 - x_20))))) rfl) ?_)
                refine JL_nil ?_
                refine J_then ?_
                refine J_ret ?_
                refine J_select (PV' := []) [] (by decide) rfl ?_
                exact J_return1 rfl ⟨rfl, rfl⟩
def cert_Holds_post (r : Bool) (σ : FS) (PV : List Priv) (v : Value) : Prop :=
  v = .bool r ∧ PV = []
set_option maxRecDepth 100000 in
theorem cert_Holds_ref (w : World) (σ : FS) (hs : σ.sub w) (v_2 : Value) (numbers_1 : Sl Int) (h_3 : (tSl (tInt .i64)).vrel σ v_2 numbers_1) (v_5 : Value) (facts_4 : Sl Gdiff_Leq) (h_6 : (tSl t_Gdiff_Leq).vrel σ v_5 facts_4) (r : Bool) (hr : cert_Holds numbers_1 facts_4 = some r) : Does Try.prog 13 [v_2, v_5] w σ (cert_Holds_post r) := by
  unfold cert_Holds at hr
  refine does_of_J Try.func13 rfl (n := 9) rfl rfl hs hr ?_
  refine J_seq ?_
  refine J_region ?_
  refine JL_op rfl (op_box (cs := [v_2]) rfl (sl_cells h_3) ?_)
  intro c_7
  refine JL_op rfl (op_read rfl rfl (r_assign (v := .bool false) rfl) ?_)
  refine JL_nil ?_
  refine J_then ?_
  refine J_seq ?_
  refine J_region ?_
  refine JL_op rfl (op_read rfl rfl (r_move (v := v_5) rfl) ?_)
  refine J_freeze_cell (PV' := []) 0 rfl rfl fun s_9 hle_10 hf_11 => ?_
  refine JL_op rfl (op_read rfl rfl (r_makeFunc (fs := []) (cs := [.pointer (some ⟨c_7, 0, none⟩)]) rfl rfl) ?_)
  refine JL_op rfl (op_call (f := 22) (fn := Try.f22) (args := [v_5, .func (.func 23) #[] #[.pointer (some ⟨c_7, 0, none⟩)]]) (post := slices_ContainsFunc_post) rfl rfl rfl Try.func22 Try.pn22 rfl rfl (fun y w hy hs => slices_ContainsFunc_ref w _ hs v_5 facts_4 (Ty.vmono _ hle_10 h_6) (.func (.func 23) #[] #[.pointer (some ⟨c_7, 0, none⟩)]) (fun x0 => cert_Holds_1 x0 numbers_1) ⟨23, Try.f23, [.pointer (some ⟨c_7, 0, none⟩)], rfl, Try.func23, Try.pn23, rfl, fun τ w hle2 hs v0 x0 h0 r hr => cert_Holds_1_ref w τ hs v0 x0 h0 c_7 v_2 numbers_1 (fun j u hj => FS.le.cell (FS.le.trans (FS.le.refl _) hle2) (hf_11 j u hj)) (Ty.vmono _ hle2 (Ty.vmono _ hle_10 h_3)) r hr⟩ y hy) ?_)
  intro r_12 v_14 s_15 PV_17 hy_13 hle_16 hp_18
  obtain ⟨rfl, rfl⟩ := hp_18
  refine JL_op rfl (op_read rfl rfl (r_not rfl) ?_)
  refine JL_op rfl (op_read rfl rfl (r_assign (v := .bool (!r_12)) rfl) ?_)
  refine JL_nil ?_
  refine J_then ?_
  refine J_ret ?_
  exact J_return1 rfl ⟨rfl, rfl⟩
def cert_Check_post (r : Bool) (σ : FS) (PV : List Priv) (v : Value) : Prop :=
  v = .bool r ∧ PV = []
set_option maxRecDepth 100000 in
theorem cert_Check_ref (w : World) (σ : FS) (hs : σ.sub w) (v_2 : Value) (p_1 : Gcert_Proof) (h_3 : t_Gcert_Proof.vrel σ v_2 p_1) (n_8 : Int) (v_10 : Value) (goal_9 : Gdiff_Leq) (h_11 : t_Gdiff_Leq.vrel σ v_10 goal_9) (v_13 : Value) (facts_12 : Sl Gdiff_Leq) (h_14 : (tSl t_Gdiff_Leq).vrel σ v_13 facts_12) (r : Bool) (hr : cert_Check p_1 n_8 goal_9 facts_12 = some r) : Does Try.prog 15 [v_2, .int .i64 n_8, v_10, v_13] w σ (cert_Check_post r) := by
  unfold cert_Check at hr
  obtain ⟨v_4, v_6, rfl, h_5, h_7⟩ := t_Gcert_Proof_v.1 h_3
  obtain rfl := t_Gdiff_Leq_v.1 h_11
  refine does_of_J Try.func15 rfl (n := 59) rfl rfl hs hr ?_
  refine J_seq ?_
  refine J_region ?_
  refine JL_op rfl (op_box (cs := [.bool p_1.Yes, v_4, v_6]) rfl rfl ?_)
  intro c_15
  refine JL_op rfl (op_box (cs := [.int .i64 goal_9.X, .int .i64 goal_9.Y, .int .i64 goal_9.C]) rfl rfl ?_)
  intro c_17
  refine JL_op rfl (op_read rfl rfl (r_assign (v := .bool false) rfl) ?_)
  refine JL_nil ?_
  refine J_then ?_
  refine J_seq ?_
  refine J_seq ?_
  refine J_region ?_
  refine JL_op rfl (op_read rfl rfl (r_move (v := .int .i64 n_8) rfl) ?_)
  refine JL_op rfl (op_read rfl rfl (r_load_priv (cs' := [.int .i64 goal_9.X, .int .i64 goal_9.Y, .int .i64 goal_9.C]) (v := .agg #[.int .i64 goal_9.X, .int .i64 goal_9.Y, .int .i64 goal_9.C]) 0 Try.pu37 Try.pi37 rfl rfl rfl rfl (by decide) rfl) ?_)
  refine JL_op rfl (op_read rfl rfl (r_move (v := v_13) rfl) ?_)
  refine JL_op rfl (op_call (f := 18) (fn := Try.f18) (args := [.int .i64 n_8, .agg #[.int .i64 goal_9.X, .int .i64 goal_9.Y, .int .i64 goal_9.C], v_13]) (post := diff_Entails_post) rfl rfl rfl Try.func18 Try.pn18 rfl rfl (fun y w hy hs => diff_Entails_ref w _ hs n_8 (.agg #[.int .i64 goal_9.X, .int .i64 goal_9.Y, .int .i64 goal_9.C]) goal_9 (t_Gdiff_Leq_v.2 rfl) v_13 facts_12 h_14 y hy) ?_)
  intro r_19 v_21 s_22 PV_24 hy_20 hle_23 hp_25
  obtain ⟨rfl, rfl⟩ := hp_25
  refine JL_op rfl (op_read rfl rfl (r_move (v := .tuple #[.bool r_19.1, .int .i64 r_19.2]) rfl) ?_)
  refine JL_op rfl (op_read rfl rfl (r_extract (v := .bool r_19.1) rfl rfl) ?_)
  refine JL_op rfl (op_read rfl rfl (r_extract (v := .int .i64 r_19.2) rfl rfl) ?_)
  refine JL_op rfl (op_read rfl rfl (r_assign (v := .bool r_19.1) rfl) ?_)
  refine JL_op rfl (op_read rfl rfl (r_assign (v := .int .i64 r_19.2) rfl) ?_)
  refine JL_nil ?_
  refine J_then ?_
  refine J_seq ?_
  refine J_region ?_
  refine JL_op rfl (op_read rfl rfl (r_move (v := .int .i64 r_19.2) rfl) ?_)
  refine JL_op rfl (op_read rfl rfl (r_neq rfl rfl) ?_)
  refine JL_nil ?_
  refine J_then ?_
  refine J_cond rfl (fun hc_26 => ?_) (fun hc_26 => ?_)
  · refine J_seq ?_
    refine J_region ?_
    refine JL_op rfl (op_read rfl rfl (r_assign (v := .bool false) rfl) ?_)
    refine JL_nil ?_
    refine J_then ?_
    refine J_ret ?_
    refine J_then_ret ?_
    refine J_select (PV' := []) [] (by decide) rfl ?_
    exact J_return1 rfl ⟨rfl, rfl⟩
  · refine J_skip ?_
    refine J_then ?_
    refine J_seq ?_
    refine J_seq ?_
    refine J_region ?_
    refine JL_op rfl (op_read rfl rfl (r_fieldAddr (r := ⟨c_15, 0, none⟩) Try.pu35 (f := Try.pf35.getD 0 default) rfl Try.pi4 (by decide) rfl rfl) ?_)
    refine JL_op rfl (op_read rfl rfl (r_load_priv (cs' := [.bool p_1.Yes]) (v := .bool p_1.Yes) 1 Try.pu4 Try.pi4 rfl rfl rfl rfl (by decide) rfl) ?_)
    refine JL_nil ?_
    refine J_then ?_
    refine J_cond rfl (fun hc_27 => ?_) (fun hc_27 => ?_)
    · refine J_seq ?_
      refine J_region_any [.cell c_17 [.int .i64 goal_9.X, .int .i64 goal_9.Y, .int .i64 goal_9.C] 37, .cell c_15 [.bool p_1.Yes, v_4, v_6] 35] Try.mixed (by kernel_rfl) fun hns => ?_
      have hS_28 : HeldOK s_22 [.cell c_17 [.int .i64 goal_9.X, .int .i64 goal_9.Y, .int .i64 goal_9.C] 37, .cell c_15 [.bool p_1.Yes, v_4, v_6] 35] s_22 [.cell c_17 [.int .i64 goal_9.X, .int .i64 goal_9.Y, .int .i64 goal_9.C] 37, .cell c_15 [.bool p_1.Yes, v_4, v_6] 35] := HeldOK.same ⟨⟨0, rfl⟩, ⟨1, rfl⟩, trivial⟩
      refine JA_take 0 rfl hns (by kernel_rfl) (by kernel_rfl) hS_28 rfl rfl rfl (r_fieldAddr (r := ⟨c_15, 2, none⟩) Try.pu35 (f := Try.pf35.getD 2 default) rfl Try.pi30 (by decide) rfl rfl) ?_
      refine JA_take 1 rfl hns (by kernel_rfl) (by kernel_rfl) hS_28 rfl rfl rfl (r_load_priv (cs' := [v_6]) (v := v_6) 1 Try.pu30 Try.pi30 rfl rfl rfl rfl (by decide) rfl) ?_
      refine JA_take 2 rfl hns (by kernel_rfl) (by kernel_rfl) hS_28 rfl rfl rfl (r_len_frozen (v := v_6) Try.pu30 rfl (Ty.vmono _ hle_23 h_7)) ?_
      refine JA_take 3 rfl hns (by kernel_rfl) (by kernel_rfl) hS_28 rfl rfl rfl (r_eql rfl rfl) ?_
      refine JA_take 4 rfl hns (by kernel_rfl) (by kernel_rfl) hS_28 rfl rfl rfl (r_move (v := .bool (decide (p_1.Numbers.len = 0))) rfl) ?_
      refine J_forkAB (e := (decide (p_1.Numbers.len = 0))) 1 #[true, true, true, true, true, true, true, true, true, true, true, true, true, true, true, false] (fun (b_30 : Bool) L τ PV => s_22.le τ ∧ L = [(8, .bool false), (36, .bool b_30)] ∧ PV = [.cell c_17 [.int .i64 goal_9.X, .int .i64 goal_9.Y, .int .i64 goal_9.C] 37, .cell c_15 [.bool p_1.Yes, v_4, v_6] 35]) (fun hc_29 hk => ?_) (fun hc_29 hk => ?_) ?_
      · refine JA_takeg 5 rfl hns (by kernel_rfl) (by kernel_rfl) hS_28 rfl rfl hc_29 rfl rfl (r_fieldAddr (r := ⟨c_15, 1, none⟩) Try.pu35 (f := Try.pf35.getD 1 default) rfl Try.pi22 (by decide) rfl rfl) ?_
        refine JA_takeg 6 rfl hns (by kernel_rfl) (by kernel_rfl) hS_28 rfl rfl hc_29 rfl rfl (r_load_priv (cs' := [v_4]) (v := v_4) 1 Try.pu22 Try.pi22 rfl rfl rfl rfl (by decide) rfl) ?_
        refine JA_takeg 7 rfl hns (by kernel_rfl) (by kernel_rfl) hS_28 rfl rfl hc_29 rfl rfl (r_move (v := v_13) rfl) ?_
        refine JA_takeg 9 rfl hns (by kernel_rfl) (by kernel_rfl) hS_28 rfl rfl hc_29 rfl rfl (r_load_priv (cs' := [.int .i64 goal_9.X, .int .i64 goal_9.Y, .int .i64 goal_9.C]) (v := .agg #[.int .i64 goal_9.X, .int .i64 goal_9.Y, .int .i64 goal_9.C]) 0 Try.pu37 Try.pi37 rfl rfl rfl rfl (by decide) rfl) ?_
        refine J_assoc ?_
        refine JA_opg (i := 8) (by kernel_rfl) rfl rfl rfl hc_29 (op_call (f := 24) (fn := Try.f24) (args := [v_13]) (post := slices_Clone_post) rfl rfl rfl Try.func24 Try.pn24 rfl rfl (fun y w hy hs => slices_Clone_ref w _ hs v_13 facts_12 (Ty.vmono _ hle_23 h_14) y hy) ?_)
        intro r_31 v_33 s_34 PV_36 hy_32 hle_35 hp_37
        obtain ⟨_, rfl, rfl⟩ := hp_37
        have hS_39 : HeldOK s_22 [.cell c_17 [.int .i64 goal_9.X, .int .i64 goal_9.Y, .int .i64 goal_9.C] 37, .cell c_15 [.bool p_1.Yes, v_4, v_6] 35] s_34 [.row Gdiff_Leq t_Gdiff_Leq 37 v_33 r_31, .cell c_17 [.int .i64 goal_9.X, .int .i64 goal_9.Y, .int .i64 goal_9.C] 37, .cell c_15 [.bool p_1.Yes, v_4, v_6] 35] := HeldOK.plain hle_35 ⟨⟨1, rfl⟩, ⟨2, rfl⟩, trivial⟩ trivial
        refine ⟨hS_39, ?_⟩
        refine J_assoc ?_
        refine JA_opg (i := 10) (by kernel_rfl) rfl rfl rfl hc_29 (op_call (f := 25) (fn := Try.f25) (args := [.agg #[.int .i64 goal_9.X, .int .i64 goal_9.Y, .int .i64 goal_9.C]]) (post := cert_turned_post) rfl rfl rfl Try.func25 Try.pn25 rfl rfl (fun y w hy hs => cert_turned_ref w _ hs (.agg #[.int .i64 goal_9.X, .int .i64 goal_9.Y, .int .i64 goal_9.C]) goal_9 (t_Gdiff_Leq_v.2 rfl) y hy) ?_)
        intro r_40 v_42 s_43 PV_45 hy_41 hle_44 hp_46
        obtain ⟨_, rfl, rfl, h_47⟩ := hp_46
        obtain rfl := t_Gdiff_Leq_v.1 h_47
        have hS_48 : HeldOK s_22 [.cell c_17 [.int .i64 goal_9.X, .int .i64 goal_9.Y, .int .i64 goal_9.C] 37, .cell c_15 [.bool p_1.Yes, v_4, v_6] 35] s_43 [.row Gdiff_Leq t_Gdiff_Leq 37 v_33 r_31, .cell c_17 [.int .i64 goal_9.X, .int .i64 goal_9.Y, .int .i64 goal_9.C] 37, .cell c_15 [.bool p_1.Yes, v_4, v_6] 35] := HeldOK.plain (FS.le.trans hle_35 hle_44) ⟨⟨1, rfl⟩, ⟨2, rfl⟩, trivial⟩ trivial
        refine ⟨hS_48, ?_⟩
        refine JA_opg (i := 11) (by kernel_rfl) rfl rfl rfl hc_29 (op_buildSlice (T := t_Gdiff_Leq) (vs := [.agg #[.int .i64 r_40.X, .int .i64 r_40.Y, .int .i64 r_40.C]]) (xs := [r_40]) rfl Try.pu23 Try.pi37 rfl rfl rfl rfl rfl rfl ⟨(t_Gdiff_Leq_v.2 rfl), trivial⟩ ?_)
        intro v_49
        have hS_51 : HeldOK s_22 [.cell c_17 [.int .i64 goal_9.X, .int .i64 goal_9.Y, .int .i64 goal_9.C] 37, .cell c_15 [.bool p_1.Yes, v_4, v_6] 35] s_43 [.row Gdiff_Leq t_Gdiff_Leq 37 v_49 (⟨[r_40], true⟩ : Sl Gdiff_Leq), .row Gdiff_Leq t_Gdiff_Leq 37 v_33 r_31, .cell c_17 [.int .i64 goal_9.X, .int .i64 goal_9.Y, .int .i64 goal_9.C] 37, .cell c_15 [.bool p_1.Yes, v_4, v_6] 35] := HeldOK.plain (FS.le.trans hle_35 hle_44) ⟨⟨2, rfl⟩, ⟨3, rfl⟩, trivial⟩ trivial
        refine ⟨hS_51, ?_⟩
        refine J_assoc ?_
        refine JA_opg (i := 12) (by kernel_rfl) rfl rfl rfl hc_29 (op_append (v := v_33) (u := v_49) (T := t_Gdiff_Leq) (ts := [r_40]) 1 rfl Try.pu23 Try.pi37 rfl rfl rfl rfl rfl rfl rfl (source_row (s := (⟨[r_40], true⟩ : Sl Gdiff_Leq)) 0 rfl) ?_)
        intro s_52 v_54 ha_53
        have hS_55 : HeldOK s_22 [.cell c_17 [.int .i64 goal_9.X, .int .i64 goal_9.Y, .int .i64 goal_9.C] 37, .cell c_15 [.bool p_1.Yes, v_4, v_6] 35] s_43 [.row Gdiff_Leq t_Gdiff_Leq 37 v_49 (⟨[r_40], true⟩ : Sl Gdiff_Leq), .row Gdiff_Leq t_Gdiff_Leq 37 v_54 s_52, .cell c_17 [.int .i64 goal_9.X, .int .i64 goal_9.Y, .int .i64 goal_9.C] 37, .cell c_15 [.bool p_1.Yes, v_4, v_6] 35] := HeldOK.plain (FS.le.trans hle_35 hle_44) ⟨⟨2, rfl⟩, ⟨3, rfl⟩, trivial⟩ trivial
        refine ⟨hS_55, ?_⟩
        refine J_assoc ?_
        refine JA_opg (i := 13) (by kernel_rfl) rfl rfl rfl hc_29 (op_call_lend (f := 10) (fn := Try.f10) (args := [v_4, v_54]) (post := cert_Circle_post) rfl rfl rfl Try.func10 Try.pn10 rfl rfl (fun y w τ hy hle hs hrow => cert_Circle_ref w τ hs v_4 p_1.Cycle (Ty.vmono _ hle (Ty.vmono _ (FS.le.trans (FS.le.trans hle_23 hle_35) hle_44) h_5)) v_54 s_52 (hrow 1 _ _ _ _ _ rfl) y hy) (fun y σ' PV' v hp => by obtain ⟨rfl, rfl⟩ := hp; exact trivial) ?_)
        intro r_56 v_58 s_59 PV_61 hy_57 hp_62
        obtain ⟨rfl, rfl⟩ := hp_62
        have hS_63 : HeldOK s_22 [.cell c_17 [.int .i64 goal_9.X, .int .i64 goal_9.Y, .int .i64 goal_9.C] 37, .cell c_15 [.bool p_1.Yes, v_4, v_6] 35] s_43 [.row Gdiff_Leq t_Gdiff_Leq 37 v_49 (⟨[r_40], true⟩ : Sl Gdiff_Leq), .row Gdiff_Leq t_Gdiff_Leq 37 v_54 s_52, .cell c_17 [.int .i64 goal_9.X, .int .i64 goal_9.Y, .int .i64 goal_9.C] 37, .cell c_15 [.bool p_1.Yes, v_4, v_6] 35] := HeldOK.plain (FS.le.trans hle_35 hle_44) ⟨⟨2, rfl⟩, ⟨3, rfl⟩, trivial⟩ trivial
        refine ⟨hS_63, ?_⟩
        refine JA_take 14 rfl hns (by kernel_rfl) (by kernel_rfl) hS_63 rfl rfl rfl (r_pick_t (v := .bool r_56) rfl hc_29 rfl) ?_
        refine J_select (PV' := [.cell c_17 [.int .i64 goal_9.X, .int .i64 goal_9.Y, .int .i64 goal_9.C] 37, .cell c_15 [.bool p_1.Yes, v_4, v_6] 35]) [2, 3] (by decide) rfl ?_
        refine J_prune _ ?_ fun b => hk r_56 _ b _ _ ⟨(FS.le.trans hle_35 hle_44), rfl, rfl⟩
        exact ⟨rfl, rfl, trivial⟩
      · refine JA_skip (y := some (decide (p_1.Numbers.len = 0))) 5 rfl hns (by kernel_rfl) (by kernel_rfl) hS_28 rfl rfl (by rw [hc_29]; decide) rfl rfl ?_
        refine JA_skip (y := some (decide (p_1.Numbers.len = 0))) 6 rfl hns (by kernel_rfl) (by kernel_rfl) hS_28 rfl rfl (by rw [hc_29]; decide) rfl rfl ?_
        refine JA_skip (y := some (decide (p_1.Numbers.len = 0))) 7 rfl hns (by kernel_rfl) (by kernel_rfl) hS_28 rfl rfl (by rw [hc_29]; decide) rfl rfl ?_
        refine JA_skip (y := some (decide (p_1.Numbers.len = 0))) 8 rfl hns (by kernel_rfl) (by kernel_rfl) hS_28 rfl rfl (by rw [hc_29]; decide) rfl rfl ?_
        refine JA_skip (y := some (decide (p_1.Numbers.len = 0))) 9 rfl hns (by kernel_rfl) (by kernel_rfl) hS_28 rfl rfl (by rw [hc_29]; decide) rfl rfl ?_
        refine JA_skip (y := some (decide (p_1.Numbers.len = 0))) 10 rfl hns (by kernel_rfl) (by kernel_rfl) hS_28 rfl rfl (by rw [hc_29]; decide) rfl rfl ?_
        refine JA_skip (y := some (decide (p_1.Numbers.len = 0))) 11 rfl hns (by kernel_rfl) (by kernel_rfl) hS_28 rfl rfl (by rw [hc_29]; decide) rfl rfl ?_
        refine JA_skip (y := some (decide (p_1.Numbers.len = 0))) 12 rfl hns (by kernel_rfl) (by kernel_rfl) hS_28 rfl rfl (by rw [hc_29]; decide) rfl rfl ?_
        refine JA_skip (y := some (decide (p_1.Numbers.len = 0))) 13 rfl hns (by kernel_rfl) (by kernel_rfl) hS_28 rfl rfl (by rw [hc_29]; decide) rfl rfl ?_
        refine JA_take 14 rfl hns (by kernel_rfl) (by kernel_rfl) hS_28 rfl rfl rfl (r_pick_f (v := .bool false) rfl hc_29 rfl) ?_
        refine J_prune _ ?_ fun b => hk false _ b _ _ ⟨(FS.le.refl _), rfl, rfl⟩
        exact ⟨rfl, rfl, trivial⟩
      · rintro b_30 _ b s_64 _ ⟨hle_65, rfl, rfl⟩
        have hS_66 : HeldOK s_22 [.cell c_17 [.int .i64 goal_9.X, .int .i64 goal_9.Y, .int .i64 goal_9.C] 37, .cell c_15 [.bool p_1.Yes, v_4, v_6] 35] s_64 [.cell c_17 [.int .i64 goal_9.X, .int .i64 goal_9.Y, .int .i64 goal_9.C] 37, .cell c_15 [.bool p_1.Yes, v_4, v_6] 35] := HeldOK.plain hle_65 ⟨⟨0, rfl⟩, ⟨1, rfl⟩, trivial⟩ trivial
        refine JA_take 15 rfl hns (by kernel_rfl) (by kernel_rfl) hS_66 rfl rfl rfl (r_assign (v := .bool b_30) rfl) ?_
        refine JA_done (by kernel_rfl) ?_
        refine J_then ?_
        refine J_ret ?_
        refine J_then_ret ?_
        refine J_select (PV' := []) [] (by decide) rfl ?_
        exact J_return1 rfl ⟨rfl, rfl⟩
    · refine J_skip ?_
      refine J_then ?_
      refine J_seq ?_
      refine J_region_any [.cell c_17 [.int .i64 goal_9.X, .int .i64 goal_9.Y, .int .i64 goal_9.C] 37, .cell c_15 [.bool p_1.Yes, v_4, v_6] 35] Try.mixed (by kernel_rfl) fun hns => ?_
      have hS_67 : HeldOK s_22 [.cell c_17 [.int .i64 goal_9.X, .int .i64 goal_9.Y, .int .i64 goal_9.C] 37, .cell c_15 [.bool p_1.Yes, v_4, v_6] 35] s_22 [.cell c_17 [.int .i64 goal_9.X, .int .i64 goal_9.Y, .int .i64 goal_9.C] 37, .cell c_15 [.bool p_1.Yes, v_4, v_6] 35] := HeldOK.same ⟨⟨0, rfl⟩, ⟨1, rfl⟩, trivial⟩
      refine JA_take 0 rfl hns (by kernel_rfl) (by kernel_rfl) hS_67 rfl rfl rfl (r_fieldAddr (r := ⟨c_15, 1, none⟩) Try.pu35 (f := Try.pf35.getD 1 default) rfl Try.pi22 (by decide) rfl rfl) ?_
      refine JA_take 1 rfl hns (by kernel_rfl) (by kernel_rfl) hS_67 rfl rfl rfl (r_load_priv (cs' := [v_4]) (v := v_4) 1 Try.pu22 Try.pi22 rfl rfl rfl rfl (by decide) rfl) ?_
      refine JA_take 2 rfl hns (by kernel_rfl) (by kernel_rfl) hS_67 rfl rfl rfl (r_len_frozen (v := v_4) Try.pu22 rfl (Ty.vmono _ hle_23 h_5)) ?_
      refine JA_take 3 rfl hns (by kernel_rfl) (by kernel_rfl) hS_67 rfl rfl rfl (r_eql rfl rfl) ?_
      refine JA_take 4 rfl hns (by kernel_rfl) (by kernel_rfl) hS_67 rfl rfl rfl (r_move (v := .bool (decide (p_1.Cycle.len = 0))) rfl) ?_
      refine J_forkA (e := (decide (p_1.Cycle.len = 0))) 12 #[true, true, true, true, true, true, true, true, true, true, true, false, false, false, false, false, false, false, false, false, false, false, false] [(3, v_13), (4, .pointer (some ⟨c_15, 0, none⟩)), (6, .pointer (some ⟨c_17, 0, none⟩)), (8, .bool false), (47, .bool (decide (p_1.Cycle.len = 0) && decide (p_1.Numbers.len = n_8)))] (fun hc_68 hk => ?_) (fun hc_68 hk => ?_) (fun b => ?_)
      · refine JA_takeg 5 rfl hns (by kernel_rfl) (by kernel_rfl) hS_67 rfl rfl hc_68 rfl rfl (r_fieldAddr (r := ⟨c_15, 2, none⟩) Try.pu35 (f := Try.pf35.getD 2 default) rfl Try.pi30 (by decide) rfl rfl) ?_
        refine JA_takeg 6 rfl hns (by kernel_rfl) (by kernel_rfl) hS_67 rfl rfl hc_68 rfl rfl (r_load_priv (cs' := [v_6]) (v := v_6) 1 Try.pu30 Try.pi30 rfl rfl rfl rfl (by decide) rfl) ?_
        refine JA_takeg 7 rfl hns (by kernel_rfl) (by kernel_rfl) hS_67 rfl rfl hc_68 rfl rfl (r_len_frozen (v := v_6) Try.pu30 rfl (Ty.vmono _ hle_23 h_7)) ?_
        refine JA_takeg 8 rfl hns (by kernel_rfl) (by kernel_rfl) hS_67 rfl rfl hc_68 rfl rfl (r_move (v := .int .i64 n_8) rfl) ?_
        refine JA_takeg 9 rfl hns (by kernel_rfl) (by kernel_rfl) hS_67 rfl rfl hc_68 rfl rfl (r_eql rfl rfl) ?_
        refine JA_take 10 rfl hns (by kernel_rfl) (by kernel_rfl) hS_67 rfl rfl rfl (r_pick_t (v := .bool (decide (p_1.Numbers.len = n_8))) rfl hc_68 rfl) ?_
        refine J_prune [(3, v_13), (4, .pointer (some ⟨c_15, 0, none⟩)), (6, .pointer (some ⟨c_17, 0, none⟩)), (8, .bool false), (47, .bool (decide (p_1.Cycle.len = 0) && decide (p_1.Numbers.len = n_8)))] ⟨rfl, rfl, rfl, rfl, (by show Value.bool _ = Value.bool _; rw [hc_68]; rfl), trivial⟩ hk
      · refine JA_skip (y := some (decide (p_1.Cycle.len = 0))) 5 rfl hns (by kernel_rfl) (by kernel_rfl) hS_67 rfl rfl (by rw [hc_68]; decide) rfl rfl ?_
        refine JA_skip (y := some (decide (p_1.Cycle.len = 0))) 6 rfl hns (by kernel_rfl) (by kernel_rfl) hS_67 rfl rfl (by rw [hc_68]; decide) rfl rfl ?_
        refine JA_skip (y := some (decide (p_1.Cycle.len = 0))) 7 rfl hns (by kernel_rfl) (by kernel_rfl) hS_67 rfl rfl (by rw [hc_68]; decide) rfl rfl ?_
        refine JA_skip (y := some (decide (p_1.Cycle.len = 0))) 8 rfl hns (by kernel_rfl) (by kernel_rfl) hS_67 rfl rfl (by rw [hc_68]; decide) rfl rfl ?_
        refine JA_skip (y := some (decide (p_1.Cycle.len = 0))) 9 rfl hns (by kernel_rfl) (by kernel_rfl) hS_67 rfl rfl (by rw [hc_68]; decide) rfl rfl ?_
        refine JA_take 10 rfl hns (by kernel_rfl) (by kernel_rfl) hS_67 rfl rfl rfl (r_pick_f (v := .bool false) rfl hc_68 rfl) ?_
        refine J_prune [(3, v_13), (4, .pointer (some ⟨c_15, 0, none⟩)), (6, .pointer (some ⟨c_17, 0, none⟩)), (8, .bool false), (47, .bool (decide (p_1.Cycle.len = 0) && decide (p_1.Numbers.len = n_8)))] ⟨rfl, rfl, rfl, rfl, (by show Value.bool _ = Value.bool _; rw [hc_68]; rfl), trivial⟩ hk
      · refine JA_take 11 rfl hns (by kernel_rfl) (by kernel_rfl) hS_67 rfl rfl rfl (r_move (v := .bool (decide (p_1.Cycle.len = 0) && decide (p_1.Numbers.len = n_8))) rfl) ?_
        refine J_forkAB (e := (decide (p_1.Cycle.len = 0) && decide (p_1.Numbers.len = n_8))) 1 #[true, true, true, true, true, true, true, true, true, true, true, true, true, true, true, true, true, true, true, true, true, true, false] (fun (b_70 : Bool) L τ PV => s_22.le τ ∧ L = [(8, .bool false), (58, .bool b_70)] ∧ PV = [.cell c_17 [.int .i64 goal_9.X, .int .i64 goal_9.Y, .int .i64 goal_9.C] 37, .cell c_15 [.bool p_1.Yes, v_4, v_6] 35]) (fun hc_69 hk => ?_) (fun hc_69 hk => ?_) ?_
        · refine JA_takeg 12 rfl hns (by kernel_rfl) (by kernel_rfl) hS_67 rfl rfl hc_69 rfl rfl (r_fieldAddr (r := ⟨c_15, 2, none⟩) Try.pu35 (f := Try.pf35.getD 2 default) rfl Try.pi30 (by decide) rfl rfl) ?_
          refine JA_takeg 13 rfl hns (by kernel_rfl) (by kernel_rfl) hS_67 rfl rfl hc_69 rfl rfl (r_load_priv (cs' := [v_6]) (v := v_6) 1 Try.pu30 Try.pi30 rfl rfl rfl rfl (by decide) rfl) ?_
          refine JA_takeg 14 rfl hns (by kernel_rfl) (by kernel_rfl) hS_67 rfl rfl hc_69 rfl rfl (r_move (v := v_13) rfl) ?_
          refine JA_takeg 16 rfl hns (by kernel_rfl) (by kernel_rfl) hS_67 rfl rfl hc_69 rfl rfl (r_load_priv (cs' := [.int .i64 goal_9.X, .int .i64 goal_9.Y, .int .i64 goal_9.C]) (v := .agg #[.int .i64 goal_9.X, .int .i64 goal_9.Y, .int .i64 goal_9.C]) 0 Try.pu37 Try.pi37 rfl rfl rfl rfl (by decide) rfl) ?_
          refine J_assoc ?_
          refine JA_opg (i := 15) (by kernel_rfl) rfl rfl rfl hc_69 (op_call (f := 24) (fn := Try.f24) (args := [v_13]) (post := slices_Clone_post) rfl rfl rfl Try.func24 Try.pn24 rfl rfl (fun y w hy hs => slices_Clone_ref w _ hs v_13 facts_12 (Ty.vmono _ hle_23 h_14) y hy) ?_)
          intro r_71 v_73 s_74 PV_76 hy_72 hle_75 hp_77
          obtain ⟨_, rfl, rfl⟩ := hp_77
          have hS_79 : HeldOK s_22 [.cell c_17 [.int .i64 goal_9.X, .int .i64 goal_9.Y, .int .i64 goal_9.C] 37, .cell c_15 [.bool p_1.Yes, v_4, v_6] 35] s_74 [.row Gdiff_Leq t_Gdiff_Leq 37 v_73 r_71, .cell c_17 [.int .i64 goal_9.X, .int .i64 goal_9.Y, .int .i64 goal_9.C] 37, .cell c_15 [.bool p_1.Yes, v_4, v_6] 35] := HeldOK.plain hle_75 ⟨⟨1, rfl⟩, ⟨2, rfl⟩, trivial⟩ trivial
          refine ⟨hS_79, ?_⟩
          refine J_assoc ?_
          refine JA_opg (i := 17) (by kernel_rfl) rfl rfl rfl hc_69 (op_call (f := 25) (fn := Try.f25) (args := [.agg #[.int .i64 goal_9.X, .int .i64 goal_9.Y, .int .i64 goal_9.C]]) (post := cert_turned_post) rfl rfl rfl Try.func25 Try.pn25 rfl rfl (fun y w hy hs => cert_turned_ref w _ hs (.agg #[.int .i64 goal_9.X, .int .i64 goal_9.Y, .int .i64 goal_9.C]) goal_9 (t_Gdiff_Leq_v.2 rfl) y hy) ?_)
          intro r_80 v_82 s_83 PV_85 hy_81 hle_84 hp_86
          obtain ⟨_, rfl, rfl, h_87⟩ := hp_86
          obtain rfl := t_Gdiff_Leq_v.1 h_87
          have hS_88 : HeldOK s_22 [.cell c_17 [.int .i64 goal_9.X, .int .i64 goal_9.Y, .int .i64 goal_9.C] 37, .cell c_15 [.bool p_1.Yes, v_4, v_6] 35] s_83 [.row Gdiff_Leq t_Gdiff_Leq 37 v_73 r_71, .cell c_17 [.int .i64 goal_9.X, .int .i64 goal_9.Y, .int .i64 goal_9.C] 37, .cell c_15 [.bool p_1.Yes, v_4, v_6] 35] := HeldOK.plain (FS.le.trans hle_75 hle_84) ⟨⟨1, rfl⟩, ⟨2, rfl⟩, trivial⟩ trivial
          refine ⟨hS_88, ?_⟩
          refine JA_opg (i := 18) (by kernel_rfl) rfl rfl rfl hc_69 (op_buildSlice (T := t_Gdiff_Leq) (vs := [.agg #[.int .i64 r_80.X, .int .i64 r_80.Y, .int .i64 r_80.C]]) (xs := [r_80]) rfl Try.pu23 Try.pi37 rfl rfl rfl rfl rfl rfl ⟨(t_Gdiff_Leq_v.2 rfl), trivial⟩ ?_)
          intro v_89
          have hS_91 : HeldOK s_22 [.cell c_17 [.int .i64 goal_9.X, .int .i64 goal_9.Y, .int .i64 goal_9.C] 37, .cell c_15 [.bool p_1.Yes, v_4, v_6] 35] s_83 [.row Gdiff_Leq t_Gdiff_Leq 37 v_89 (⟨[r_80], true⟩ : Sl Gdiff_Leq), .row Gdiff_Leq t_Gdiff_Leq 37 v_73 r_71, .cell c_17 [.int .i64 goal_9.X, .int .i64 goal_9.Y, .int .i64 goal_9.C] 37, .cell c_15 [.bool p_1.Yes, v_4, v_6] 35] := HeldOK.plain (FS.le.trans hle_75 hle_84) ⟨⟨2, rfl⟩, ⟨3, rfl⟩, trivial⟩ trivial
          refine ⟨hS_91, ?_⟩
          refine J_assoc ?_
          refine JA_opg (i := 19) (by kernel_rfl) rfl rfl rfl hc_69 (op_append (v := v_73) (u := v_89) (T := t_Gdiff_Leq) (ts := [r_80]) 1 rfl Try.pu23 Try.pi37 rfl rfl rfl rfl rfl rfl rfl (source_row (s := (⟨[r_80], true⟩ : Sl Gdiff_Leq)) 0 rfl) ?_)
          intro s_92 v_94 ha_93
          have hS_95 : HeldOK s_22 [.cell c_17 [.int .i64 goal_9.X, .int .i64 goal_9.Y, .int .i64 goal_9.C] 37, .cell c_15 [.bool p_1.Yes, v_4, v_6] 35] s_83 [.row Gdiff_Leq t_Gdiff_Leq 37 v_89 (⟨[r_80], true⟩ : Sl Gdiff_Leq), .row Gdiff_Leq t_Gdiff_Leq 37 v_94 s_92, .cell c_17 [.int .i64 goal_9.X, .int .i64 goal_9.Y, .int .i64 goal_9.C] 37, .cell c_15 [.bool p_1.Yes, v_4, v_6] 35] := HeldOK.plain (FS.le.trans hle_75 hle_84) ⟨⟨2, rfl⟩, ⟨3, rfl⟩, trivial⟩ trivial
          refine ⟨hS_95, ?_⟩
          refine J_assoc ?_
          refine JA_opg (i := 20) (by kernel_rfl) rfl rfl rfl hc_69 (op_call_lend (f := 13) (fn := Try.f13) (args := [v_6, v_94]) (post := cert_Holds_post) rfl rfl rfl Try.func13 Try.pn13 rfl rfl (fun y w τ hy hle hs hrow => cert_Holds_ref w τ hs v_6 p_1.Numbers (Ty.vmono _ hle (Ty.vmono _ (FS.le.trans (FS.le.trans hle_23 hle_75) hle_84) h_7)) v_94 s_92 (hrow 1 _ _ _ _ _ rfl) y hy) (fun y σ' PV' v hp => by obtain ⟨rfl, rfl⟩ := hp; exact trivial) ?_)
          intro r_96 v_98 s_99 PV_101 hy_97 hp_102
          obtain ⟨rfl, rfl⟩ := hp_102
          have hS_103 : HeldOK s_22 [.cell c_17 [.int .i64 goal_9.X, .int .i64 goal_9.Y, .int .i64 goal_9.C] 37, .cell c_15 [.bool p_1.Yes, v_4, v_6] 35] s_83 [.row Gdiff_Leq t_Gdiff_Leq 37 v_89 (⟨[r_80], true⟩ : Sl Gdiff_Leq), .row Gdiff_Leq t_Gdiff_Leq 37 v_94 s_92, .cell c_17 [.int .i64 goal_9.X, .int .i64 goal_9.Y, .int .i64 goal_9.C] 37, .cell c_15 [.bool p_1.Yes, v_4, v_6] 35] := HeldOK.plain (FS.le.trans hle_75 hle_84) ⟨⟨2, rfl⟩, ⟨3, rfl⟩, trivial⟩ trivial
          refine ⟨hS_103, ?_⟩
          refine JA_take 21 rfl hns (by kernel_rfl) (by kernel_rfl) hS_103 rfl rfl rfl (r_pick_t (v := .bool r_96) rfl hc_69 rfl) ?_
          refine J_select (PV' := [.cell c_17 [.int .i64 goal_9.X, .int .i64 goal_9.Y, .int .i64 goal_9.C] 37, .cell c_15 [.bool p_1.Yes, v_4, v_6] 35]) [2, 3] (by decide) rfl ?_
          refine J_prune _ ?_ fun b => hk r_96 _ b _ _ ⟨(FS.le.trans hle_75 hle_84), rfl, rfl⟩
          exact ⟨rfl, rfl, trivial⟩
        · refine JA_skip (y := some (decide (p_1.Cycle.len = 0) && decide (p_1.Numbers.len = n_8))) 12 rfl hns (by kernel_rfl) (by kernel_rfl) hS_67 rfl rfl (by rw [hc_69]; decide) rfl rfl ?_
          refine JA_skip (y := some (decide (p_1.Cycle.len = 0) && decide (p_1.Numbers.len = n_8))) 13 rfl hns (by kernel_rfl) (by kernel_rfl) hS_67 rfl rfl (by rw [hc_69]; decide) rfl rfl ?_
          refine JA_skip (y := some (decide (p_1.Cycle.len = 0) && decide (p_1.Numbers.len = n_8))) 14 rfl hns (by kernel_rfl) (by kernel_rfl) hS_67 rfl rfl (by rw [hc_69]; decide) rfl rfl ?_
          refine JA_skip (y := some (decide (p_1.Cycle.len = 0) && decide (p_1.Numbers.len = n_8))) 15 rfl hns (by kernel_rfl) (by kernel_rfl) hS_67 rfl rfl (by rw [hc_69]; decide) rfl rfl ?_
          refine JA_skip (y := some (decide (p_1.Cycle.len = 0) && decide (p_1.Numbers.len = n_8))) 16 rfl hns (by kernel_rfl) (by kernel_rfl) hS_67 rfl rfl (by rw [hc_69]; decide) rfl rfl ?_
          refine JA_skip (y := some (decide (p_1.Cycle.len = 0) && decide (p_1.Numbers.len = n_8))) 17 rfl hns (by kernel_rfl) (by kernel_rfl) hS_67 rfl rfl (by rw [hc_69]; decide) rfl rfl ?_
          refine JA_skip (y := some (decide (p_1.Cycle.len = 0) && decide (p_1.Numbers.len = n_8))) 18 rfl hns (by kernel_rfl) (by kernel_rfl) hS_67 rfl rfl (by rw [hc_69]; decide) rfl rfl ?_
          refine JA_skip (y := some (decide (p_1.Cycle.len = 0) && decide (p_1.Numbers.len = n_8))) 19 rfl hns (by kernel_rfl) (by kernel_rfl) hS_67 rfl rfl (by rw [hc_69]; decide) rfl rfl ?_
          refine JA_skip (y := some (decide (p_1.Cycle.len = 0) && decide (p_1.Numbers.len = n_8))) 20 rfl hns (by kernel_rfl) (by kernel_rfl) hS_67 rfl rfl (by rw [hc_69]; decide) rfl rfl ?_
          refine JA_take 21 rfl hns (by kernel_rfl) (by kernel_rfl) hS_67 rfl rfl rfl (r_pick_f (v := .bool false) rfl hc_69 rfl) ?_
          refine J_prune _ ?_ fun b => hk false _ b _ _ ⟨(FS.le.refl _), rfl, rfl⟩
          exact ⟨rfl, rfl, trivial⟩
        · rintro b_70 _ b s_104 _ ⟨hle_105, rfl, rfl⟩
          have hS_106 : HeldOK s_22 [.cell c_17 [.int .i64 goal_9.X, .int .i64 goal_9.Y, .int .i64 goal_9.C] 37, .cell c_15 [.bool p_1.Yes, v_4, v_6] 35] s_104 [.cell c_17 [.int .i64 goal_9.X, .int .i64 goal_9.Y, .int .i64 goal_9.C] 37, .cell c_15 [.bool p_1.Yes, v_4, v_6] 35] := HeldOK.plain hle_105 ⟨⟨0, rfl⟩, ⟨1, rfl⟩, trivial⟩ trivial
          refine JA_take 22 rfl hns (by kernel_rfl) (by kernel_rfl) hS_106 rfl rfl rfl (r_assign (v := .bool b_70) rfl) ?_
          refine JA_done (by kernel_rfl) ?_
          refine J_then ?_
          refine J_ret ?_
          refine J_select (PV' := []) [] (by decide) rfl ?_
          exact J_return1 rfl ⟨rfl, rfl⟩
def lychgatelaw05_wakes_post (r : Bool) (σ : FS) (PV : List Priv) (v : Value) : Prop :=
  v = .bool r ∧ PV = []
set_option maxRecDepth 100000 in
theorem lychgatelaw05_wakes_ref (w : World) (σ : FS) (hs : σ.sub w)  (r : Bool) (hr : lychgatelaw05_wakes  = some r) : Does Try.prog 9 [] w σ (lychgatelaw05_wakes_post r) := by
  unfold lychgatelaw05_wakes at hr
  refine does_of_J Try.func9 rfl (n := 25) rfl rfl hs hr ?_
  refine J_seq ?_
  refine J_region ?_
  refine JL_op rfl (op_read rfl rfl (r_assign (v := .bool false) rfl) ?_)
  refine JL_nil ?_
  refine J_then ?_
  refine J_seq ?_
  refine J_region ?_
  refine JL_op rfl (op_read rfl rfl (r_build (cs := [.int .i64 0, .int .i64 1, .int .i64 2]) (vs := [(0, .int .i64 0), (1, .int .i64 1), (2, .int .i64 2)]) (pcs := [(0, [.int .i64 0]), (1, [.int .i64 1]), (2, [.int .i64 2])]) (pls := [(0, 1), (1, 1), (2, 1)]) Try.pu37 Try.pi37 rfl (by kernel_rfl) rfl ⟨rfl, rfl, ⟨rfl, rfl, ⟨rfl, rfl, trivial⟩⟩⟩ rfl) ?_)
  refine JL_op rfl (op_read rfl rfl (r_build (cs := [.int .i64 1, .int .i64 2, .int .i64 3]) (vs := [(0, .int .i64 1), (1, .int .i64 2), (2, .int .i64 3)]) (pcs := [(0, [.int .i64 1]), (1, [.int .i64 2]), (2, [.int .i64 3])]) (pls := [(0, 1), (1, 1), (2, 1)]) Try.pu37 Try.pi37 rfl (by kernel_rfl) rfl ⟨rfl, rfl, ⟨rfl, rfl, ⟨rfl, rfl, trivial⟩⟩⟩ rfl) ?_)
  refine JL_op rfl (op_buildSlice (T := t_Gdiff_Leq) (vs := [.agg #[.int .i64 0, .int .i64 1, .int .i64 2], .agg #[.int .i64 1, .int .i64 2, .int .i64 3]]) (xs := [(⟨0, 1, 2⟩ : Gdiff_Leq), (⟨1, 2, 3⟩ : Gdiff_Leq)]) rfl Try.pu23 Try.pi37 rfl rfl rfl rfl rfl rfl ⟨(t_Gdiff_Leq_v.2 rfl), (t_Gdiff_Leq_v.2 rfl), trivial⟩ ?_)
  intro v_1
  refine JL_op rfl (op_read rfl rfl (r_assign (v := v_1) rfl) ?_)
  refine JL_nil ?_
  refine J_then ?_
  refine J_seq ?_
  refine J_region ?_
  refine JL_op rfl (op_buildSlice (T := (tInt .i64)) (vs := [.int .i64 0, .int .i64 1, .int .i64 2]) (xs := [0, 1, 2]) rfl Try.pu22 Try.pi3 rfl rfl rfl rfl rfl rfl ⟨(tInt_v.2 rfl), (tInt_v.2 rfl), (tInt_v.2 rfl), trivial⟩ ?_)
  intro v_3
  refine J_freeze_row 0 rfl rfl fun s_5 hle_6 h_7 => ?_
  refine JL_op rfl (op_read rfl rfl (r_build (cs := [.bool true, v_3, .slice none 0 0]) (vs := [(0, .bool true), (1, v_3)]) (pcs := [(0, [.bool true]), (1, [v_3])]) (pls := [(0, 1), (1, 1), (2, 1)]) Try.pu35 Try.pi35 rfl (by kernel_rfl) rfl ⟨rfl, rfl, ⟨rfl, (sl_cells h_7), trivial⟩⟩ rfl) ?_)
  refine JL_op rfl (op_read rfl rfl (r_build (cs := [.int .i64 0, .int .i64 2, .int .i64 5]) (vs := [(0, .int .i64 0), (1, .int .i64 2), (2, .int .i64 5)]) (pcs := [(0, [.int .i64 0]), (1, [.int .i64 2]), (2, [.int .i64 5])]) (pls := [(0, 1), (1, 1), (2, 1)]) Try.pu37 Try.pi37 rfl (by kernel_rfl) rfl ⟨rfl, rfl, ⟨rfl, rfl, ⟨rfl, rfl, trivial⟩⟩⟩ rfl) ?_)
  refine JL_op rfl (op_read rfl rfl (r_move (v := v_1) rfl) ?_)
  refine JL_op rfl (op_call_lend (f := 15) (fn := Try.f15) (args := [.agg #[.bool true, v_3, .slice none 0 0], .int .i64 3, .agg #[.int .i64 0, .int .i64 2, .int .i64 5], v_1]) (post := cert_Check_post) rfl rfl rfl Try.func15 Try.pn15 rfl rfl (fun y w τ hy hle hs hrow => cert_Check_ref w τ hs (.agg #[.bool true, v_3, .slice none 0 0]) (⟨true, (⟨[0, 1, 2], true⟩ : Sl Int), (⟨[], false⟩ : Sl Int)⟩ : Gcert_Proof) (Ty.vmono _ hle (t_Gcert_Proof_v.2 ⟨_, _, rfl, h_7, nil_vrel⟩)) 3 (.agg #[.int .i64 0, .int .i64 2, .int .i64 5]) (⟨0, 2, 5⟩ : Gdiff_Leq) (Ty.vmono _ hle (t_Gdiff_Leq_v.2 rfl)) v_1 (⟨[(⟨0, 1, 2⟩ : Gdiff_Leq), (⟨1, 2, 3⟩ : Gdiff_Leq)], true⟩ : Sl Gdiff_Leq) (hrow 0 _ _ _ _ _ rfl) y hy) (fun y σ' PV' v hp => by obtain ⟨rfl, rfl⟩ := hp; exact trivial) ?_)
  intro r_8 v_10 s_11 PV_13 hy_9 hp_14
  obtain ⟨rfl, rfl⟩ := hp_14
  refine JL_op rfl (op_read rfl rfl (r_move (v := .bool r_8) rfl) ?_)
  refine J_forkLB (e := r_8) 6 (fun (b_16 : Bool) L τ PV => s_5.le τ ∧ L = [(1, v_1), (16, .bool b_16)] ∧ PV = [.row Gdiff_Leq t_Gdiff_Leq 37 v_1 (⟨[(⟨0, 1, 2⟩ : Gdiff_Leq), (⟨1, 2, 3⟩ : Gdiff_Leq)], true⟩ : Sl Gdiff_Leq)]) (fun hc_15 hk => ?_) (fun hc_15 hk => ?_) ?_
  · refine JL_opg rfl rfl hc_15 (op_buildSlice (T := (tInt .i64)) (vs := [.int .i64 5, .int .i64 3, .int .i64 0]) (xs := [5, 3, 0]) rfl Try.pu30 Try.pi2 rfl rfl rfl rfl rfl rfl ⟨(tInt_v.2 rfl), (tInt_v.2 rfl), (tInt_v.2 rfl), trivial⟩ ?_)
    intro v_17
    refine J_freeze_row 0 rfl rfl fun s_19 hle_20 h_21 => ?_
    refine JL_opg rfl rfl hc_15 (op_read rfl rfl (r_build (cs := [.bool false, .slice none 0 0, v_17]) (vs := [(2, v_17)]) (pcs := [(2, [v_17])]) (pls := [(0, 1), (1, 1), (2, 1)]) Try.pu35 Try.pi35 rfl (by kernel_rfl) rfl ⟨rfl, (sl_cells h_21), trivial⟩ rfl) ?_)
    refine JL_opg rfl rfl hc_15 (op_read rfl rfl (r_build (cs := [.int .i64 0, .int .i64 2, .int .i64 4]) (vs := [(0, .int .i64 0), (1, .int .i64 2), (2, .int .i64 4)]) (pcs := [(0, [.int .i64 0]), (1, [.int .i64 2]), (2, [.int .i64 4])]) (pls := [(0, 1), (1, 1), (2, 1)]) Try.pu37 Try.pi37 rfl (by kernel_rfl) rfl ⟨rfl, rfl, ⟨rfl, rfl, ⟨rfl, rfl, trivial⟩⟩⟩ rfl) ?_)
    refine JL_opg rfl rfl hc_15 (op_read rfl rfl (r_move (v := v_1) rfl) ?_)
    refine J_assoc ?_
    refine JL_opg rfl rfl hc_15 (op_call_lend (f := 15) (fn := Try.f15) (args := [.agg #[.bool false, .slice none 0 0, v_17], .int .i64 3, .agg #[.int .i64 0, .int .i64 2, .int .i64 4], v_1]) (post := cert_Check_post) rfl rfl rfl Try.func15 Try.pn15 rfl rfl (fun y w τ hy hle hs hrow => cert_Check_ref w τ hs (.agg #[.bool false, .slice none 0 0, v_17]) (⟨false, (⟨[], false⟩ : Sl Int), (⟨[5, 3, 0], true⟩ : Sl Int)⟩ : Gcert_Proof) (Ty.vmono _ hle (t_Gcert_Proof_v.2 ⟨_, _, rfl, nil_vrel, h_21⟩)) 3 (.agg #[.int .i64 0, .int .i64 2, .int .i64 4]) (⟨0, 2, 4⟩ : Gdiff_Leq) (Ty.vmono _ hle (t_Gdiff_Leq_v.2 rfl)) v_1 (⟨[(⟨0, 1, 2⟩ : Gdiff_Leq), (⟨1, 2, 3⟩ : Gdiff_Leq)], true⟩ : Sl Gdiff_Leq) (hrow 0 _ _ _ _ _ rfl) y hy) (fun y σ' PV' v hp => by obtain ⟨rfl, rfl⟩ := hp; exact trivial) ?_)
    intro r_22 v_24 s_25 PV_27 hy_23 hp_28
    obtain ⟨rfl, rfl⟩ := hp_28
    refine JL_op rfl (op_read rfl rfl (r_pick_t (v := .bool r_22) rfl hc_15 rfl) ?_)
    refine J_prune _ ?_ fun b => hk r_22 _ b _ _ ⟨hle_20, rfl, rfl⟩
    exact ⟨rfl, rfl, trivial⟩
  · refine JL_skip rfl rfl hc_15 rfl rfl ?_
    refine JL_skip rfl rfl hc_15 rfl rfl ?_
    refine JL_skip rfl rfl hc_15 rfl rfl ?_
    refine JL_skip rfl rfl hc_15 rfl rfl ?_
    refine JL_skip rfl rfl hc_15 rfl rfl ?_
    refine JL_op rfl (op_read rfl rfl (r_pick_f (v := .bool false) rfl hc_15 rfl) ?_)
    refine J_prune _ ?_ fun b => hk false _ b _ _ ⟨(FS.le.refl _), rfl, rfl⟩
    exact ⟨rfl, rfl, trivial⟩
  · rintro b_16 _ b s_29 _ ⟨hle_30, rfl, rfl⟩
    refine JL_op rfl (op_read rfl rfl (r_move (v := .bool b_16) rfl) ?_)
    refine J_forkLB (e := b_16) 7 (fun (b_32 : Bool) L τ PV => s_29.le τ ∧ L = [(24, .bool b_32)] ∧ PV = [.row Gdiff_Leq t_Gdiff_Leq 37 v_1 (⟨[(⟨0, 1, 2⟩ : Gdiff_Leq), (⟨1, 2, 3⟩ : Gdiff_Leq)], true⟩ : Sl Gdiff_Leq)]) (fun hc_31 hk => ?_) (fun hc_31 hk => ?_) ?_
    · refine JL_opg rfl rfl hc_31 (op_buildSlice (T := (tInt .i64)) (vs := [.int .i64 0, .int .i64 1, .int .i64 2]) (xs := [0, 1, 2]) rfl Try.pu22 Try.pi3 rfl rfl rfl rfl rfl rfl ⟨(tInt_v.2 rfl), (tInt_v.2 rfl), (tInt_v.2 rfl), trivial⟩ ?_)
      intro v_33
      refine J_freeze_row 0 rfl rfl fun s_35 hle_36 h_37 => ?_
      refine JL_opg rfl rfl hc_31 (op_read rfl rfl (r_build (cs := [.bool true, v_33, .slice none 0 0]) (vs := [(0, .bool true), (1, v_33)]) (pcs := [(0, [.bool true]), (1, [v_33])]) (pls := [(0, 1), (1, 1), (2, 1)]) Try.pu35 Try.pi35 rfl (by kernel_rfl) rfl ⟨rfl, rfl, ⟨rfl, (sl_cells h_37), trivial⟩⟩ rfl) ?_)
      refine JL_opg rfl rfl hc_31 (op_read rfl rfl (r_build (cs := [.int .i64 0, .int .i64 2, .int .i64 4]) (vs := [(0, .int .i64 0), (1, .int .i64 2), (2, .int .i64 4)]) (pcs := [(0, [.int .i64 0]), (1, [.int .i64 2]), (2, [.int .i64 4])]) (pls := [(0, 1), (1, 1), (2, 1)]) Try.pu37 Try.pi37 rfl (by kernel_rfl) rfl ⟨rfl, rfl, ⟨rfl, rfl, ⟨rfl, rfl, trivial⟩⟩⟩ rfl) ?_)
      refine JL_opg rfl rfl hc_31 (op_read rfl rfl (r_move (v := v_1) rfl) ?_)
      refine J_assoc ?_
      refine JL_opg rfl rfl hc_31 (op_call_lend (f := 15) (fn := Try.f15) (args := [.agg #[.bool true, v_33, .slice none 0 0], .int .i64 3, .agg #[.int .i64 0, .int .i64 2, .int .i64 4], v_1]) (post := cert_Check_post) rfl rfl rfl Try.func15 Try.pn15 rfl rfl (fun y w τ hy hle hs hrow => cert_Check_ref w τ hs (.agg #[.bool true, v_33, .slice none 0 0]) (⟨true, (⟨[0, 1, 2], true⟩ : Sl Int), (⟨[], false⟩ : Sl Int)⟩ : Gcert_Proof) (Ty.vmono _ hle (t_Gcert_Proof_v.2 ⟨_, _, rfl, h_37, nil_vrel⟩)) 3 (.agg #[.int .i64 0, .int .i64 2, .int .i64 4]) (⟨0, 2, 4⟩ : Gdiff_Leq) (Ty.vmono _ hle (t_Gdiff_Leq_v.2 rfl)) v_1 (⟨[(⟨0, 1, 2⟩ : Gdiff_Leq), (⟨1, 2, 3⟩ : Gdiff_Leq)], true⟩ : Sl Gdiff_Leq) (hrow 0 _ _ _ _ _ rfl) y hy) (fun y σ' PV' v hp => by obtain ⟨rfl, rfl⟩ := hp; exact trivial) ?_)
      intro r_38 v_40 s_41 PV_43 hy_39 hp_44
      obtain ⟨rfl, rfl⟩ := hp_44
      refine JL_opg rfl rfl hc_31 (op_read rfl rfl (r_not rfl) ?_)
      refine JL_op rfl (op_read rfl rfl (r_pick_t (v := .bool (!r_38)) rfl hc_31 rfl) ?_)
      refine J_prune _ ?_ fun b => hk (!r_38) _ b _ _ ⟨hle_36, rfl, rfl⟩
      exact ⟨rfl, trivial⟩
    · refine JL_skip rfl rfl hc_31 rfl rfl ?_
      refine JL_skip rfl rfl hc_31 rfl rfl ?_
      refine JL_skip rfl rfl hc_31 rfl rfl ?_
      refine JL_skip rfl rfl hc_31 rfl rfl ?_
      refine JL_skip rfl rfl hc_31 rfl rfl ?_
      refine JL_skip rfl rfl hc_31 rfl rfl ?_
      refine JL_op rfl (op_read rfl rfl (r_pick_f (v := .bool false) rfl hc_31 rfl) ?_)
      refine J_prune _ ?_ fun b => hk false _ b _ _ ⟨(FS.le.refl _), rfl, rfl⟩
      exact ⟨rfl, trivial⟩
    · rintro b_32 _ b s_45 _ ⟨hle_46, rfl, rfl⟩
      refine JL_op rfl (op_read rfl rfl (r_assign (v := .bool b_32) rfl) ?_)
      refine JL_nil ?_
      refine J_then ?_
      refine J_ret ?_
      refine J_select (PV' := []) [] (by decide) rfl ?_
      exact J_return1 rfl ⟨rfl, rfl⟩
def lychgatelaw05_refs_post (r : Sl Glychgateref04_Leq) (σ : FS) (PV : List Priv) (v : Value) : Prop :=
  ∃ v0 : Value, v = v0 ∧ PV = [.row Glychgateref04_Leq t_Glychgateref04_Leq 40 v0 r]
set_option maxRecDepth 100000 in
theorem lychgatelaw05_refs_ref (w : World) (σ : FS) (hs : σ.sub w) (v_2 : Value) (l_1 : Sl Gdiff_Leq) (h_3 : (tSl t_Gdiff_Leq).vrel σ v_2 l_1) (r : Sl Glychgateref04_Leq) (hr : lychgatelaw05_refs l_1 = some r) : Does Try.prog 12 [v_2] w σ (lychgatelaw05_refs_post r) := by
  unfold lychgatelaw05_refs at hr
  refine does_of_J Try.func12 rfl (n := 24) rfl rfl hs hr ?_
  refine J_seq ?_
  refine J_region ?_
  refine JL_op rfl (op_read rfl rfl (r_assign (v := .slice none 0 0) rfl) ?_)
  refine JL_nil ?_
  refine J_then ?_
  refine J_seq ?_
  refine J_region ?_
  refine JL_op rfl (op_read rfl rfl (r_assign (v := .slice none 0 0) rfl) ?_)
  refine JL_nil ?_
  refine J_then ?_
  refine J_seq ?_
  refine J_seq ?_
  refine J_region ?_
  refine JL_op rfl (op_read rfl rfl (r_move (v := v_2) rfl) ?_)
  refine JL_op rfl (op_read rfl rfl (r_len_frozen (v := v_2) Try.pu23 rfl h_3) ?_)
  refine JL_op rfl (op_read rfl rfl (r_move (v := .int .i64 0) rfl) ?_)
  refine JL_nil ?_
  refine J_then ?_
  refine J_block ?_
  refine J_nil_row t_Glychgateref04_Leq 40 ?_
  refine J_loop (fun (y : (Sl Glychgateref04_Leq) × Int) L τ PV => ∃ (w0 : Value), σ.le τ ∧ L = [(3, w0), (6, v_2), (7, .int .i64 l_1.len), (8, .int .i64 y.2)] ∧ PV = [.row Glychgateref04_Leq t_Glychgateref04_Leq 40 w0 y.1]) (fun (y : (Sl Glychgateref04_Leq)) e L τ PV => e = .exit 0 ∧ (∃ (w0 : Value), σ.le τ ∧ L = [(3, w0)] ∧ PV = [.row Glychgateref04_Leq t_Glychgateref04_Leq 40 w0 y])) _ ?_ ⟨(.slice none 0 0), (FS.le.refl _), rfl, rfl⟩ ?_ ?_
  · exact ⟨rfl, rfl, rfl, rfl, trivial⟩
  · rintro x_5 _ b s_6 _ ⟨v_8, hle_7, rfl, rfl⟩
    unfold lychgatelaw05_refs_L1
    refine J_seq ?_
    refine J_region ?_
    refine JL_op rfl (op_read rfl rfl (r_lss rfl rfl) ?_)
    refine JL_nil ?_
    refine J_then ?_
    refine J_seq ?_
    refine J_cond rfl (fun hc_10 => ?_) (fun hc_10 => ?_)
    · refine J_skip ?_
      refine J_then ?_
      refine J_seq ?_
      refine J_block ?_
      refine J_seq ?_
      refine J_region ?_
      refine J_bind fun x_11 hx_12 => ?_
      refine JL_op rfl (op_read rfl rfl (r_index_frozen (v := v_2) (T := t_Gdiff_Leq) (q := x_11) Try.pu23 Try.pi37 rfl rfl rfl (Ty.vmono _ hle_7 h_3) hx_12) ?_)
      refine JL_op rfl (op_reads rfl rfl (l_elem_frozen (v := v_2) (T := t_Gdiff_Leq) (Tf := t_Gdiff_Leq) (q := x_11) (i := x_5.2) (off := 0) Try.pu37 Try.pi37 rfl rfl rfl (Ty.vmono _ hle_7 h_3) hx_12 (FieldAt.self _) (by decide)) ?_)
      intro v_13 h_14
      obtain rfl := t_Gdiff_Leq_v.1 h_14
      refine JL_op rfl (op_alloc (cs := [.int .i64 0, .int .i64 0, .int .i64 0]) rfl Try.pi37 rfl rfl ?_)
      intro c_15
      refine JL_op rfl (op_store_priv (vs := [.int .i64 x_11.X, .int .i64 x_11.Y, .int .i64 x_11.C]) (cs' := [.int .i64 x_11.X, .int .i64 x_11.Y, .int .i64 x_11.C]) (PV' := [.cell c_15 [.int .i64 x_11.X, .int .i64 x_11.Y, .int .i64 x_11.C] 37, .row Glychgateref04_Leq t_Glychgateref04_Leq 40 v_8 x_5.1]) 0 Try.pi37 rfl rfl rfl ⟨rfl, rfl, rfl, trivial⟩ rfl rfl rfl rfl ?_)
      refine JL_nil ?_
      refine J_then ?_
      refine J_region ?_
      refine JL_op rfl (op_read rfl rfl (r_move (v := v_8) rfl) ?_)
      refine JL_op rfl (op_read rfl rfl (r_fieldAddr (r := ⟨c_15, 0, none⟩) Try.pu37 (f := Try.pf37.getD 0 default) rfl Try.pi3 (by decide) rfl rfl) ?_)
      refine JL_op rfl (op_read rfl rfl (r_load_priv (cs' := [.int .i64 x_11.X]) (v := .int .i64 x_11.X) 0 Try.pu3 Try.pi3 rfl rfl rfl rfl (by decide) rfl) ?_)
      refine JL_op rfl (op_read rfl rfl (r_fieldAddr (r := ⟨c_15, 1, none⟩) Try.pu37 (f := Try.pf37.getD 1 default) rfl Try.pi3 (by decide) rfl rfl) ?_)
      refine JL_op rfl (op_read rfl rfl (r_load_priv (cs' := [.int .i64 x_11.Y]) (v := .int .i64 x_11.Y) 0 Try.pu3 Try.pi3 rfl rfl rfl rfl (by decide) rfl) ?_)
      refine JL_op rfl (op_read rfl rfl (r_fieldAddr (r := ⟨c_15, 2, none⟩) Try.pu37 (f := Try.pf37.getD 2 default) rfl Try.pi2 (by decide) rfl rfl) ?_)
      refine JL_op rfl (op_read rfl rfl (r_load_priv (cs' := [.int .i64 x_11.C]) (v := .int .i64 x_11.C) 0 Try.pu2 Try.pi2 rfl rfl rfl rfl (by decide) rfl) ?_)
      refine JL_op rfl (op_read rfl rfl (r_build (cs := [.int .i64 x_11.X, .int .i64 x_11.Y, .int .i64 x_11.C]) (vs := [(0, .int .i64 x_11.X), (1, .int .i64 x_11.Y), (2, .int .i64 x_11.C)]) (pcs := [(0, [.int .i64 x_11.X]), (1, [.int .i64 x_11.Y]), (2, [.int .i64 x_11.C])]) (pls := [(0, 1), (1, 1), (2, 1)]) Try.pu40 Try.pi40 rfl (by kernel_rfl) rfl ⟨rfl, rfl, ⟨rfl, rfl, ⟨rfl, rfl, trivial⟩⟩⟩ rfl) ?_)
      refine JL_op rfl (op_buildSlice (T := t_Glychgateref04_Leq) (vs := [.agg #[.int .i64 x_11.X, .int .i64 x_11.Y, .int .i64 x_11.C]]) (xs := [(⟨x_11.X, x_11.Y, x_11.C⟩ : Glychgateref04_Leq)]) rfl Try.pu27 Try.pi40 rfl rfl rfl rfl rfl rfl ⟨(t_Glychgateref04_Leq_v.2 rfl), trivial⟩ ?_)
      intro v_17
      refine JL_op rfl (op_append (v := v_8) (u := v_17) (T := t_Glychgateref04_Leq) (ts := [(⟨x_11.X, x_11.Y, x_11.C⟩ : Glychgateref04_Leq)]) 2 rfl Try.pu27 Try.pi40 rfl rfl rfl rfl rfl rfl rfl (source_row (s := (⟨[(⟨x_11.X, x_11.Y, x_11.C⟩ : Glychgateref04_Leq)], true⟩ : Sl Glychgateref04_Leq)) 0 rfl) ?_)
      intro s_19 v_21 ha_20
      refine JL_op rfl (op_read rfl rfl (r_assign (v := v_21) rfl) ?_)
      refine JL_nil ?_
      refine J_in_normal ?_
      refine J_then ?_
      refine J_region ?_
      refine JL_op rfl (op_read rfl rfl (r_add rfl rfl) ?_)
      refine JL_op rfl (op_read rfl rfl (r_move (v := .int .i64 (IntKind.i64.wrap (x_5.2 + 1))) rfl) ?_)
      refine JL_nil ?_
      refine J_select (PV' := [.row Glychgateref04_Leq t_Glychgateref04_Leq 40 v_21 s_19]) [2] (by decide) rfl ?_
      refine J_next _ ?_ ⟨v_21, hle_7, rfl, rfl⟩
      exact ⟨rfl, rfl, rfl, rfl, trivial⟩
    · refine J_exit ?_
      refine J_then_exit ?_
      refine J_done trivial _ ?_ ⟨rfl, v_8, hle_7, rfl, rfl⟩
      exact ⟨rfl, trivial⟩
  · rintro y_22 _ _ b s_23 _ ⟨rfl, ⟨v_25, hle_24, rfl, rfl⟩⟩
    refine J_in_exit ?_
    refine J_then ?_
    refine J_seq ?_
    refine J_region ?_
    refine JL_op rfl (op_read rfl rfl (r_move (v := v_25) rfl) ?_)
    refine JL_op rfl (op_read rfl rfl (r_assign (v := v_25) rfl) ?_)
    refine JL_nil ?_
    refine J_then ?_
    refine J_ret ?_
    exact J_return1 rfl ⟨_, rfl, rfl⟩
def lychgateref05_Circle_post (r : Bool) (σ : FS) (PV : List Priv) (v : Value) : Prop :=
  v = .bool r ∧ PV = []
set_option maxRecDepth 100000 in
theorem lychgateref05_Circle_ref (w : World) (σ : FS) (hs : σ.sub w) (v_2 : Value) (cycle_1 : Sl Int) (h_3 : (tSl (tInt .i64)).vrel σ v_2 cycle_1) (v_5 : Value) (facts_4 : Sl Glychgateref04_Leq) (h_6 : (tSl t_Glychgateref04_Leq).vrel σ v_5 facts_4) (r : Bool) (hr : lychgateref05_Circle cycle_1 facts_4 = some r) : Does Try.prog 11 [v_2, v_5] w σ (lychgateref05_Circle_post r) := by
  unfold lychgateref05_Circle at hr
  refine does_of_J Try.func11 rfl (n := 94) rfl rfl hs hr ?_
  refine J_seq ?_
  refine J_region ?_
  refine JL_op rfl (op_read rfl rfl (r_assign (v := .bool false) rfl) ?_)
  refine JL_nil ?_
  refine J_then ?_
  refine J_seq ?_
  refine J_seq ?_
  refine J_region ?_
  refine JL_op rfl (op_read rfl rfl (r_move (v := v_2) rfl) ?_)
  refine JL_op rfl (op_read rfl rfl (r_len_frozen (v := v_2) Try.pu22 rfl h_3) ?_)
  refine JL_op rfl (op_read rfl rfl (r_lss rfl rfl) ?_)
  refine JL_op rfl (op_read rfl rfl (r_move (v := .bool (decide (cycle_1.len < 1))) rfl) ?_)
  refine J_forkL (e := (decide (cycle_1.len < 1))) 4 [(0, v_2), (1, v_5), (17, .bool (decide (cycle_1.len < 1) || decide (65536 < cycle_1.len)))] (fun hc_7 hk => ?_) (fun hc_7 hk => ?_) (fun b => ?_)
  · refine JL_skip rfl rfl hc_7 rfl rfl ?_
    refine JL_skip rfl rfl hc_7 rfl rfl ?_
    refine JL_skip rfl rfl hc_7 rfl rfl ?_
    refine JL_op rfl (op_read rfl rfl (r_pick_t (v := .bool true) rfl hc_7 rfl) ?_)
    refine J_prune [(0, v_2), (1, v_5), (17, .bool (decide (cycle_1.len < 1) || decide (65536 < cycle_1.len)))] ⟨rfl, rfl, (by show Value.bool _ = Value.bool _; rw [hc_7]; rfl), trivial⟩ hk
  · refine JL_opg rfl rfl hc_7 (op_read rfl rfl (r_move (v := v_2) rfl) ?_)
    refine JL_opg rfl rfl hc_7 (op_read rfl rfl (r_len_frozen (v := v_2) Try.pu22 rfl h_3) ?_)
    refine JL_opg rfl rfl hc_7 (op_read rfl rfl (r_gtr rfl rfl) ?_)
    refine JL_op rfl (op_read rfl rfl (r_pick_f (v := .bool (decide (65536 < cycle_1.len))) rfl hc_7 rfl) ?_)
    refine J_prune [(0, v_2), (1, v_5), (17, .bool (decide (cycle_1.len < 1) || decide (65536 < cycle_1.len)))] ⟨rfl, rfl, (by show Value.bool _ = Value.bool _; rw [hc_7]; rfl), trivial⟩ hk
  · refine JL_nil ?_
    refine J_then ?_
    refine J_cond rfl (fun hc_8 => ?_) (fun hc_8 => ?_)
    · refine J_seq ?_
      refine J_region ?_
      refine JL_op rfl (op_read rfl rfl (r_assign (v := .bool false) rfl) ?_)
      refine JL_nil ?_
      refine J_then ?_
      refine J_ret ?_
      refine J_then_ret ?_
      exact J_return1 rfl ⟨rfl, rfl⟩
    · refine J_skip ?_
      refine J_then ?_
      refine J_seq ?_
      refine J_seq ?_
      refine J_region ?_
      refine JL_op rfl (op_read rfl rfl (r_assign (v := .int .i64 0) rfl) ?_)
      refine JL_nil ?_
      refine J_then ?_
      refine J_block ?_
      refine J_loop (fun (y : Int) L τ PV => σ.le τ ∧ L = [(0, v_2), (1, v_5), (5, .int .i64 y)] ∧ PV = []) (fun (y : W2 Unit Unit) e L τ PV => match y, e with | .a y, e => e = .exit 0 ∧ (σ.le τ ∧ L = [(0, v_2), (1, v_5)] ∧ PV = []) | .b y, e => e = .ret ∧ (σ.le τ ∧ L = [(4, .bool false)] ∧ PV = [])) _ ?_ ⟨(FS.le.refl _), rfl, rfl⟩ ?_ ?_
      · exact ⟨rfl, rfl, rfl, trivial⟩
      · rintro x_9 _ b s_10 _ ⟨hle_11, rfl, rfl⟩
        unfold lychgateref05_Circle_L1
        refine J_seq ?_
        refine J_seq ?_
        refine J_region ?_
        refine JL_op rfl (op_read rfl rfl (r_move (v := .int .i64 x_9) rfl) ?_)
        refine JL_op rfl (op_read rfl rfl (r_move (v := v_2) rfl) ?_)
        refine JL_op rfl (op_read rfl rfl (r_len_frozen (v := v_2) Try.pu22 rfl (Ty.vmono _ hle_11 h_3)) ?_)
        refine JL_op rfl (op_read rfl rfl (r_lss rfl rfl) ?_)
        refine JL_nil ?_
        refine J_then ?_
        refine J_cond rfl (fun hc_12 => ?_) (fun hc_12 => ?_)
        · refine J_skip ?_
          refine J_then ?_
          refine J_seq ?_
          refine J_block ?_
          refine J_seq ?_
          refine J_seq ?_
          refine J_region ?_
          refine JL_op rfl (op_read rfl rfl (r_move (v := v_2) rfl) ?_)
          refine JL_op rfl (op_read rfl rfl (r_move (v := .int .i64 x_9) rfl) ?_)
          refine J_bind fun x_13 hx_14 => ?_
          refine JL_op rfl (op_read rfl rfl (r_index_frozen (v := v_2) (T := (tInt .i64)) (q := x_13) Try.pu22 Try.pi3 rfl rfl rfl (Ty.vmono _ hle_11 h_3) hx_14) ?_)
          refine JL_op rfl (op_reads rfl rfl (l_elem_frozen (v := v_2) (T := (tInt .i64)) (Tf := (tInt .i64)) (q := x_13) (i := x_9) (off := 0) Try.pu3 Try.pi3 rfl rfl rfl (Ty.vmono _ hle_11 h_3) hx_14 (FieldAt.self _) (by decide)) ?_)
          intro v_15 h_16
          obtain rfl := tInt_v.1 h_16
          refine JL_op rfl (op_read rfl rfl (r_lss rfl rfl) ?_)
          refine JL_op rfl (op_read rfl rfl (r_move (v := .bool (decide (x_13 < 0))) rfl) ?_)
          refine J_forkLB (e := (decide (x_13 < 0))) 8 (fun (b_18 : Bool) L τ PV => s_10.le τ ∧ L = [(0, v_2), (1, v_5), (5, .int .i64 x_9), (37, .bool b_18)] ∧ PV = []) (fun hc_17 hk => ?_) (fun hc_17 hk => ?_) ?_
          · refine JL_skip rfl rfl hc_17 rfl rfl ?_
            refine JL_skip rfl rfl hc_17 rfl rfl ?_
            refine JL_skip rfl rfl hc_17 rfl rfl ?_
            refine JL_skip rfl rfl hc_17 rfl rfl ?_
            refine JL_skip rfl rfl hc_17 rfl rfl ?_
            refine JL_skip rfl rfl hc_17 rfl rfl ?_
            refine JL_skip rfl rfl hc_17 rfl rfl ?_
            refine JL_op rfl (op_read rfl rfl (r_pick_t (v := .bool true) rfl hc_17 rfl) ?_)
            refine J_prune _ ?_ fun b => hk true _ b _ _ ⟨(FS.le.refl _), rfl, rfl⟩
            exact ⟨rfl, rfl, rfl, rfl, trivial⟩
          · refine JL_opg rfl rfl hc_17 (op_read rfl rfl (r_move (v := v_2) rfl) ?_)
            refine JL_opg rfl rfl hc_17 (op_read rfl rfl (r_move (v := .int .i64 x_9) rfl) ?_)
            refine J_assoc ?_
            refine J_bind fun x_19 hx_20 => ?_
            refine JL_opg rfl rfl hc_17 (op_read rfl rfl (r_index_frozen (v := v_2) (T := (tInt .i64)) (q := x_19) Try.pu22 Try.pi3 rfl rfl rfl (Ty.vmono _ hle_11 h_3) hx_20) ?_)
            refine JL_opg rfl rfl hc_17 (op_reads rfl rfl (l_elem_frozen (v := v_2) (T := (tInt .i64)) (Tf := (tInt .i64)) (q := x_19) (i := x_9) (off := 0) Try.pu3 Try.pi3 rfl rfl rfl (Ty.vmono _ hle_11 h_3) hx_20 (FieldAt.self _) (by decide)) ?_)
            intro v_21 h_22
            obtain rfl := tInt_v.1 h_22
            refine JL_opg rfl rfl hc_17 (op_read rfl rfl (r_move (v := v_5) rfl) ?_)
            refine JL_opg rfl rfl hc_17 (op_read rfl rfl (r_len_frozen (v := v_5) Try.pu27 rfl (Ty.vmono _ hle_11 h_6)) ?_)
            refine JL_opg rfl rfl hc_17 (op_read rfl rfl (r_geq rfl rfl) ?_)
            refine JL_op rfl (op_read rfl rfl (r_pick_f (v := .bool (decide (facts_4.len ≤ x_19))) rfl hc_17 rfl) ?_)
            refine J_prune _ ?_ fun b => hk (decide (facts_4.len ≤ x_19)) _ b _ _ ⟨(FS.le.refl _), rfl, rfl⟩
            exact ⟨rfl, rfl, rfl, rfl, trivial⟩
          · rintro b_18 _ b s_23 _ ⟨hle_24, rfl, rfl⟩
            refine JL_nil ?_
            refine J_then ?_
            refine J_cond rfl (fun hc_25 => ?_) (fun hc_25 => ?_)
            · refine J_seq ?_
              refine J_region ?_
              refine JL_op rfl (op_read rfl rfl (r_assign (v := .bool false) rfl) ?_)
              refine JL_nil ?_
              refine J_then ?_
              refine J_ret ?_
              refine J_then_ret ?_
              refine J_in_ret ?_
              refine J_then_ret ?_
              refine J_done trivial _ ?_ ⟨rfl, (FS.le.trans hle_11 hle_24), rfl, rfl⟩
              exact ⟨rfl, trivial⟩
            · refine J_skip ?_
              refine J_then ?_
              refine J_seq ?_
              refine J_region ?_
              refine JL_op rfl (op_read rfl rfl (r_move (v := v_5) rfl) ?_)
              refine JL_op rfl (op_read rfl rfl (r_move (v := v_2) rfl) ?_)
              refine JL_op rfl (op_read rfl rfl (r_move (v := .int .i64 x_9) rfl) ?_)
              refine J_bind fun x_26 hx_27 => ?_
              refine JL_op rfl (op_read rfl rfl (r_index_frozen (v := v_2) (T := (tInt .i64)) (q := x_26) Try.pu22 Try.pi3 rfl rfl rfl (Ty.vmono _ (FS.le.trans hle_11 hle_24) h_3) hx_27) ?_)
              refine JL_op rfl (op_reads rfl rfl (l_elem_frozen (v := v_2) (T := (tInt .i64)) (Tf := (tInt .i64)) (q := x_26) (i := x_9) (off := 0) Try.pu3 Try.pi3 rfl rfl rfl (Ty.vmono _ (FS.le.trans hle_11 hle_24) h_3) hx_27 (FieldAt.self _) (by decide)) ?_)
              intro v_28 h_29
              obtain rfl := tInt_v.1 h_29
              refine J_bind fun x_30 hx_31 => ?_
              refine JL_op rfl (op_read rfl rfl (r_index_frozen (v := v_5) (T := t_Glychgateref04_Leq) (q := x_30) Try.pu27 Try.pi40 rfl rfl rfl (Ty.vmono _ (FS.le.trans hle_11 hle_24) h_6) hx_31) ?_)
              refine JL_op rfl (op_read rfl rfl (r_fieldAddr (r := elemAddr v_5 ((x_26).toNat * t_Glychgateref04_Leq.size + 2)) Try.pu40 (f := Try.pf40.getD 2 default) rfl Try.pi2 (by decide) rfl (elemAddr_add _ _ _)) ?_)
              refine JL_op rfl (op_reads rfl rfl (l_elem_frozen (v := v_5) (T := t_Glychgateref04_Leq) (Tf := (tInt .i64)) (q := x_30) (i := x_26) (off := 2) Try.pu2 Try.pi2 rfl rfl rfl (Ty.vmono _ (FS.le.trans hle_11 hle_24) h_6) hx_31 f_Glychgateref04_Leq_C (by decide)) ?_)
              intro v_32 h_33
              obtain rfl := tInt_v.1 h_33
              refine JL_op rfl (op_read rfl rfl (r_assign (v := .int .i64 x_30.C) rfl) ?_)
              refine JL_nil ?_
              refine J_then ?_
              refine J_seq ?_
              refine J_region ?_
              refine JL_op rfl (op_read rfl rfl (r_move (v := .int .i64 x_30.C) rfl) ?_)
              refine JL_op rfl (op_read rfl rfl (r_gtr rfl rfl) ?_)
              refine JL_op rfl (op_read rfl rfl (r_move (v := .bool (decide (17592186044416 < x_30.C))) rfl) ?_)
              refine J_forkL (e := (decide (17592186044416 < x_30.C))) 3 [(0, v_2), (1, v_5), (5, .int .i64 x_9), (51, .bool (decide (17592186044416 < x_30.C) || decide (x_30.C < (-17592186044416))))] (fun hc_34 hk => ?_) (fun hc_34 hk => ?_) (fun b => ?_)
              · refine JL_skip rfl rfl hc_34 rfl rfl ?_
                refine JL_skip rfl rfl hc_34 rfl rfl ?_
                refine JL_op rfl (op_read rfl rfl (r_pick_t (v := .bool true) rfl hc_34 rfl) ?_)
                refine J_prune [(0, v_2), (1, v_5), (5, .int .i64 x_9), (51, .bool (decide (17592186044416 < x_30.C) || decide (x_30.C < (-17592186044416))))] ⟨rfl, rfl, rfl, (by show Value.bool _ = Value.bool _; rw [hc_34]; rfl), trivial⟩ hk
              · refine JL_opg rfl rfl hc_34 (op_read rfl rfl (r_move (v := .int .i64 x_30.C) rfl) ?_)
                refine JL_opg rfl rfl hc_34 (op_read rfl rfl (r_lss rfl rfl) ?_)
                refine JL_op rfl (op_read rfl rfl (r_pick_f (v := .bool (decide (x_30.C < (-17592186044416)))) rfl hc_34 rfl) ?_)
                refine J_prune [(0, v_2), (1, v_5), (5, .int .i64 x_9), (51, .bool (decide (17592186044416 < x_30.C) || decide (x_30.C < (-17592186044416))))] ⟨rfl, rfl, rfl, (by show Value.bool _ = Value.bool _; rw [hc_34]; rfl), trivial⟩ hk
              · refine JL_nil ?_
                refine J_then ?_
                refine J_cond rfl (fun hc_35 => ?_) (fun hc_35 => ?_)
                · refine J_seq ?_
                  refine J_region ?_
                  refine JL_op rfl (op_read rfl rfl (r_assign (v := .bool false) rfl) ?_)
                  refine JL_nil ?_
                  refine J_then ?_
                  refine J_ret ?_
                  refine J_in_ret ?_
                  refine J_then_ret ?_
                  refine J_done trivial _ ?_ ⟨rfl, (FS.le.trans hle_11 hle_24), rfl, rfl⟩
                  exact ⟨rfl, trivial⟩
                · refine J_skip ?_
                  refine J_in_normal ?_
                  refine J_then ?_
                  refine J_region ?_
                  refine JL_op rfl (op_read rfl rfl (r_move (v := .int .i64 x_9) rfl) ?_)
                  refine JL_op rfl (op_read rfl rfl (r_add rfl rfl) ?_)
                  refine JL_op rfl (op_read rfl rfl (r_assign (v := .int .i64 (IntKind.i64.wrap (x_9 + 1))) rfl) ?_)
                  refine JL_nil ?_
                  refine J_next _ ?_ ⟨(FS.le.trans hle_11 hle_24), rfl, rfl⟩
                  exact ⟨rfl, rfl, rfl, trivial⟩
        · refine J_exit ?_
          refine J_then_exit ?_
          refine J_done trivial _ ?_ ⟨rfl, hle_11, rfl, rfl⟩
          exact ⟨rfl, rfl, trivial⟩
      · rintro (y_37 | y_81) e L b τ PV ht
        · obtain ⟨rfl, ht⟩ := ht
          revert ht; revert PV; revert τ; revert b; revert L
          rintro _ b s_38 _ ⟨hle_39, rfl, rfl⟩
          refine J_in_exit ?_
          refine J_then ?_
          refine J_seq ?_
          refine J_region ?_
          refine JL_op rfl (op_read rfl rfl (r_assign (v := .int .i64 0) rfl) ?_)
          refine JL_nil ?_
          refine J_then ?_
          refine J_seq ?_
          refine J_seq ?_
          refine J_region ?_
          refine JL_op rfl (op_read rfl rfl (r_assign (v := .int .i64 0) rfl) ?_)
          refine JL_nil ?_
          refine J_then ?_
          refine J_block ?_
          refine J_loop (fun (y : Int × Int) L τ PV => s_38.le τ ∧ L = [(0, v_2), (1, v_5), (7, .int .i64 y.1), (8, .int .i64 y.2)] ∧ PV = []) (fun (y : W2 Int Unit) e L τ PV => match y, e with | .a y, e => e = .exit 2 ∧ (s_38.le τ ∧ L = [(7, .int .i64 y)] ∧ PV = []) | .b y, e => e = .ret ∧ (s_38.le τ ∧ L = [(4, .bool false)] ∧ PV = [])) _ ?_ ⟨(FS.le.refl _), rfl, rfl⟩ ?_ ?_
          · exact ⟨rfl, rfl, rfl, rfl, trivial⟩
          · rintro x_40 _ b s_41 _ ⟨hle_42, rfl, rfl⟩
            unfold lychgateref05_Circle_L2
            refine J_seq ?_
            refine J_seq ?_
            refine J_region ?_
            refine JL_op rfl (op_read rfl rfl (r_move (v := .int .i64 x_40.2) rfl) ?_)
            refine JL_op rfl (op_read rfl rfl (r_move (v := v_2) rfl) ?_)
            refine JL_op rfl (op_read rfl rfl (r_len_frozen (v := v_2) Try.pu22 rfl (Ty.vmono _ (FS.le.trans hle_39 hle_42) h_3)) ?_)
            refine JL_op rfl (op_read rfl rfl (r_lss rfl rfl) ?_)
            refine JL_nil ?_
            refine J_then ?_
            refine J_cond rfl (fun hc_43 => ?_) (fun hc_43 => ?_)
            · refine J_skip ?_
              refine J_then ?_
              refine J_seq ?_
              refine J_block ?_
              refine J_seq ?_
              refine J_region ?_
              refine JL_op rfl (op_read rfl rfl (r_assign (v := .int .i64 0) rfl) ?_)
              refine JL_nil ?_
              refine J_then ?_
              refine J_seq ?_
              refine J_seq ?_
              refine J_region ?_
              refine JL_op rfl (op_read rfl rfl (r_move (v := .int .i64 x_40.2) rfl) ?_)
              refine JL_op rfl (op_read rfl rfl (r_move (v := v_2) rfl) ?_)
              refine JL_op rfl (op_read rfl rfl (r_len_frozen (v := v_2) Try.pu22 rfl (Ty.vmono _ (FS.le.trans hle_39 hle_42) h_3)) ?_)
              refine JL_op rfl (op_read rfl rfl (r_sub rfl rfl) ?_)
              refine JL_op rfl (op_read rfl rfl (r_lss rfl rfl) ?_)
              refine JL_nil ?_
              refine J_then ?_
              refine J_cut (fun (y : Int) e L τ PV => e = .normal ∧ (s_41.le τ ∧ L = [(0, v_2), (1, v_5), (7, .int .i64 x_40.1), (8, .int .i64 x_40.2), (9, .int .i64 y)] ∧ PV = [])) ?_ ?_
              · refine J_cond rfl (fun hc_44 => ?_) (fun hc_44 => ?_)
                · refine J_region ?_
                  refine JL_op rfl (op_read rfl rfl (r_move (v := .int .i64 x_40.2) rfl) ?_)
                  refine JL_op rfl (op_read rfl rfl (r_add rfl rfl) ?_)
                  refine JL_op rfl (op_read rfl rfl (r_assign (v := .int .i64 (IntKind.i64.wrap (x_40.2 + 1))) rfl) ?_)
                  refine JL_nil ?_
                  refine J_cut_end _ ?_ ⟨rfl, (FS.le.refl _), rfl, rfl⟩ trivial
                  exact ⟨rfl, rfl, rfl, rfl, rfl, trivial⟩
                · refine J_skip ?_
                  refine J_cut_end _ ?_ ⟨rfl, (FS.le.refl _), rfl, rfl⟩ trivial
                  exact ⟨rfl, rfl, rfl, rfl, rfl, trivial⟩
              · rintro y_45 _ _ b s_46 _ ⟨rfl, ⟨hle_47, rfl, rfl⟩⟩
                refine J_then ?_
                refine J_seq ?_
                refine J_seq ?_
                refine J_region_any [] Try.mixed (by kernel_rfl) fun hns => ?_
                have hS_48 : HeldOK s_46 [] s_46 [] := HeldOK.same trivial
                refine JA_take 0 rfl hns (by kernel_rfl) (by kernel_rfl) hS_48 rfl rfl rfl (r_move (v := v_5) rfl) ?_
                refine JA_take 1 rfl hns (by kernel_rfl) (by kernel_rfl) hS_48 rfl rfl rfl (r_move (v := v_2) rfl) ?_
                refine JA_take 2 rfl hns (by kernel_rfl) (by kernel_rfl) hS_48 rfl rfl rfl (r_move (v := .int .i64 x_40.2) rfl) ?_
                refine J_bind fun x_49 hx_50 => ?_
                refine JA_take 3 rfl hns (by kernel_rfl) (by kernel_rfl) hS_48 rfl rfl rfl (r_index_frozen (v := v_2) (T := (tInt .i64)) (q := x_49) Try.pu22 Try.pi3 rfl rfl rfl (Ty.vmono _ (FS.le.trans (FS.le.trans hle_39 hle_42) hle_47) h_3) hx_50) ?_
                refine JA_takes 4 rfl hns (by kernel_rfl) (by kernel_rfl) hS_48 rfl rfl rfl (l_elem_frozen (v := v_2) (T := (tInt .i64)) (Tf := (tInt .i64)) (q := x_49) (i := x_40.2) (off := 0) Try.pu3 Try.pi3 rfl rfl rfl (Ty.vmono _ (FS.le.trans (FS.le.trans hle_39 hle_42) hle_47) h_3) hx_50 (FieldAt.self _) (by decide)) ?_
                intro v_51 h_52
                obtain rfl := tInt_v.1 h_52
                refine J_bind fun x_53 hx_54 => ?_
                refine JA_take 5 rfl hns (by kernel_rfl) (by kernel_rfl) hS_48 rfl rfl rfl (r_index_frozen (v := v_5) (T := t_Glychgateref04_Leq) (q := x_53) Try.pu27 Try.pi40 rfl rfl rfl (Ty.vmono _ (FS.le.trans (FS.le.trans hle_39 hle_42) hle_47) h_6) hx_54) ?_
                refine JA_take 6 rfl hns (by kernel_rfl) (by kernel_rfl) hS_48 rfl rfl rfl (r_fieldAddr (r := elemAddr v_5 ((x_49).toNat * t_Glychgateref04_Leq.size + 1)) Try.pu40 (f := Try.pf40.getD 1 default) rfl Try.pi3 (by decide) rfl (elemAddr_add _ _ _)) ?_
                refine JA_takes 7 rfl hns (by kernel_rfl) (by kernel_rfl) hS_48 rfl rfl rfl (l_elem_frozen (v := v_5) (T := t_Glychgateref04_Leq) (Tf := (tInt .i64)) (q := x_53) (i := x_49) (off := 1) Try.pu3 Try.pi3 rfl rfl rfl (Ty.vmono _ (FS.le.trans (FS.le.trans hle_39 hle_42) hle_47) h_6) hx_54 f_Glychgateref04_Leq_Y (by decide)) ?_
                intro v_55 h_56
                obtain rfl := tInt_v.1 h_56
                refine JA_take 8 rfl hns (by kernel_rfl) (by kernel_rfl) hS_48 rfl rfl rfl (r_move (v := v_5) rfl) ?_
                refine JA_take 9 rfl hns (by kernel_rfl) (by kernel_rfl) hS_48 rfl rfl rfl (r_move (v := v_2) rfl) ?_
                refine JA_take 10 rfl hns (by kernel_rfl) (by kernel_rfl) hS_48 rfl rfl rfl (r_move (v := .int .i64 y_45) rfl) ?_
                refine J_bind fun x_57 hx_58 => ?_
                refine JA_take 11 rfl hns (by kernel_rfl) (by kernel_rfl) hS_48 rfl rfl rfl (r_index_frozen (v := v_2) (T := (tInt .i64)) (q := x_57) Try.pu22 Try.pi3 rfl rfl rfl (Ty.vmono _ (FS.le.trans (FS.le.trans hle_39 hle_42) hle_47) h_3) hx_58) ?_
                refine JA_takes 12 rfl hns (by kernel_rfl) (by kernel_rfl) hS_48 rfl rfl rfl (l_elem_frozen (v := v_2) (T := (tInt .i64)) (Tf := (tInt .i64)) (q := x_57) (i := y_45) (off := 0) Try.pu3 Try.pi3 rfl rfl rfl (Ty.vmono _ (FS.le.trans (FS.le.trans hle_39 hle_42) hle_47) h_3) hx_58 (FieldAt.self _) (by decide)) ?_
                intro v_59 h_60
                obtain rfl := tInt_v.1 h_60
                refine J_bind fun x_61 hx_62 => ?_
                refine JA_take 13 rfl hns (by kernel_rfl) (by kernel_rfl) hS_48 rfl rfl rfl (r_index_frozen (v := v_5) (T := t_Glychgateref04_Leq) (q := x_61) Try.pu27 Try.pi40 rfl rfl rfl (Ty.vmono _ (FS.le.trans (FS.le.trans hle_39 hle_42) hle_47) h_6) hx_62) ?_
                refine JA_take 14 rfl hns (by kernel_rfl) (by kernel_rfl) hS_48 rfl rfl rfl (r_fieldAddr (r := elemAddr v_5 ((x_57).toNat * t_Glychgateref04_Leq.size + 0)) Try.pu40 (f := Try.pf40.getD 0 default) rfl Try.pi3 (by decide) rfl (elemAddr_add _ _ _)) ?_
                refine JA_takes 15 rfl hns (by kernel_rfl) (by kernel_rfl) hS_48 rfl rfl rfl (l_elem_frozen (v := v_5) (T := t_Glychgateref04_Leq) (Tf := (tInt .i64)) (q := x_61) (i := x_57) (off := 0) Try.pu3 Try.pi3 rfl rfl rfl (Ty.vmono _ (FS.le.trans (FS.le.trans hle_39 hle_42) hle_47) h_6) hx_62 f_Glychgateref04_Leq_X (by decide)) ?_
                intro v_63 h_64
                obtain rfl := tInt_v.1 h_64
                refine JA_take 16 rfl hns (by kernel_rfl) (by kernel_rfl) hS_48 rfl rfl rfl (r_neq rfl rfl) ?_
                refine JA_done (by kernel_rfl) ?_
                refine J_then ?_
                refine J_cond rfl (fun hc_65 => ?_) (fun hc_65 => ?_)
                · refine J_seq ?_
                  refine J_region ?_
                  refine JL_op rfl (op_read rfl rfl (r_assign (v := .bool false) rfl) ?_)
                  refine JL_nil ?_
                  refine J_then ?_
                  refine J_ret ?_
                  refine J_then_ret ?_
                  refine J_in_ret ?_
                  refine J_then_ret ?_
                  refine J_done trivial _ ?_ ⟨rfl, (FS.le.trans hle_42 hle_47), rfl, rfl⟩
                  exact ⟨rfl, trivial⟩
                · refine J_skip ?_
                  refine J_then ?_
                  refine J_region ?_
                  refine JL_op rfl (op_read rfl rfl (r_move (v := .int .i64 x_40.1) rfl) ?_)
                  refine JL_op rfl (op_read rfl rfl (r_move (v := v_5) rfl) ?_)
                  refine JL_op rfl (op_read rfl rfl (r_move (v := v_2) rfl) ?_)
                  refine JL_op rfl (op_read rfl rfl (r_move (v := .int .i64 x_40.2) rfl) ?_)
                  refine J_bind fun x_66 hx_67 => ?_
                  refine JL_op rfl (op_read rfl rfl (r_index_frozen (v := v_2) (T := (tInt .i64)) (q := x_66) Try.pu22 Try.pi3 rfl rfl rfl (Ty.vmono _ (FS.le.trans (FS.le.trans hle_39 hle_42) hle_47) h_3) hx_67) ?_)
                  refine JL_op rfl (op_reads rfl rfl (l_elem_frozen (v := v_2) (T := (tInt .i64)) (Tf := (tInt .i64)) (q := x_66) (i := x_40.2) (off := 0) Try.pu3 Try.pi3 rfl rfl rfl (Ty.vmono _ (FS.le.trans (FS.le.trans hle_39 hle_42) hle_47) h_3) hx_67 (FieldAt.self _) (by decide)) ?_)
                  intro v_68 h_69
                  obtain rfl := tInt_v.1 h_69
                  refine J_bind fun x_70 hx_71 => ?_
                  refine JL_op rfl (op_read rfl rfl (r_index_frozen (v := v_5) (T := t_Glychgateref04_Leq) (q := x_70) Try.pu27 Try.pi40 rfl rfl rfl (Ty.vmono _ (FS.le.trans (FS.le.trans hle_39 hle_42) hle_47) h_6) hx_71) ?_)
                  refine JL_op rfl (op_read rfl rfl (r_fieldAddr (r := elemAddr v_5 ((x_66).toNat * t_Glychgateref04_Leq.size + 2)) Try.pu40 (f := Try.pf40.getD 2 default) rfl Try.pi2 (by decide) rfl (elemAddr_add _ _ _)) ?_)
                  refine JL_op rfl (op_reads rfl rfl (l_elem_frozen (v := v_5) (T := t_Glychgateref04_Leq) (Tf := (tInt .i64)) (q := x_70) (i := x_66) (off := 2) Try.pu2 Try.pi2 rfl rfl rfl (Ty.vmono _ (FS.le.trans (FS.le.trans hle_39 hle_42) hle_47) h_6) hx_71 f_Glychgateref04_Leq_C (by decide)) ?_)
                  intro v_72 h_73
                  obtain rfl := tInt_v.1 h_73
                  refine JL_op rfl (op_read rfl rfl (r_add rfl rfl) ?_)
                  refine JL_op rfl (op_read rfl rfl (r_assign (v := .int .i64 (IntKind.i64.wrap (x_40.1 + x_70.C))) rfl) ?_)
                  refine JL_nil ?_
                  refine J_in_normal ?_
                  refine J_then ?_
                  refine J_region ?_
                  refine JL_op rfl (op_read rfl rfl (r_move (v := .int .i64 x_40.2) rfl) ?_)
                  refine JL_op rfl (op_read rfl rfl (r_add rfl rfl) ?_)
                  refine JL_op rfl (op_read rfl rfl (r_assign (v := .int .i64 (IntKind.i64.wrap (x_40.2 + 1))) rfl) ?_)
                  refine JL_nil ?_
                  refine J_next _ ?_ ⟨(FS.le.trans hle_42 hle_47), rfl, rfl⟩
                  exact ⟨rfl, rfl, rfl, rfl, trivial⟩
            · refine J_exit ?_
              refine J_then_exit ?_
              refine J_done trivial _ ?_ ⟨rfl, hle_42, rfl, rfl⟩
              exact ⟨rfl, trivial⟩
          · rintro (y_75 | y_78) e L b τ PV ht
            · obtain ⟨rfl, ht⟩ := ht
              revert ht; revert PV; revert τ; revert b; revert L
              rintro _ b s_76 _ ⟨hle_77, rfl, rfl⟩
              refine J_in_exit ?_
              refine J_then ?_
              refine J_seq ?_
              refine J_region ?_
              refine JL_op rfl (op_read rfl rfl (r_move (v := .int .i64 y_75) rfl) ?_)
              refine JL_op rfl (op_read rfl rfl (r_lss rfl rfl) ?_)
              refine JL_op rfl (op_read rfl rfl (r_assign (v := .bool (decide (y_75 < 0))) rfl) ?_)
              refine JL_nil ?_
              refine J_then ?_
              refine J_ret ?_
              exact J_return1 rfl ⟨rfl, rfl⟩
            · obtain ⟨rfl, ht⟩ := ht
              revert ht; revert PV; revert τ; revert b; revert L
              rintro _ b s_79 _ ⟨hle_80, rfl, rfl⟩
              refine J_in_ret ?_
              refine J_then_ret ?_
              exact J_return1 rfl ⟨rfl, rfl⟩
        · obtain ⟨rfl, ht⟩ := ht
          revert ht; revert PV; revert τ; revert b; revert L
          rintro _ b s_82 _ ⟨hle_83, rfl, rfl⟩
          refine J_in_ret ?_
          refine J_then_ret ?_
          exact J_return1 rfl ⟨rfl, rfl⟩
def lychgatelaw05_CertCircles_post (r : Bool) (σ : FS) (PV : List Priv) (v : Value) : Prop :=
  v = .bool r ∧ PV = []
set_option maxRecDepth 100000 in
theorem lychgatelaw05_CertCircles_ref (w : World) (σ : FS) (hs : σ.sub w) (v_2 : Value) (cycle_1 : Sl Int) (h_3 : (tSl (tInt .i64)).vrel σ v_2 cycle_1) (v_5 : Value) (facts_4 : Sl Gdiff_Leq) (h_6 : (tSl t_Gdiff_Leq).vrel σ v_5 facts_4) (r : Bool) (hr : lychgatelaw05_CertCircles cycle_1 facts_4 = some r) : Does Try.prog 3 [v_2, v_5] w σ (lychgatelaw05_CertCircles_post r) := by
  unfold lychgatelaw05_CertCircles at hr
  refine does_of_J Try.func3 rfl (n := 16) rfl rfl hs hr ?_
  refine J_seq ?_
  refine J_region ?_
  refine JL_op rfl (op_read rfl rfl (r_assign (v := .bool false) rfl) ?_)
  refine JL_nil ?_
  refine J_then ?_
  refine J_seq ?_
  refine J_region ?_
  refine JL_op rfl (op_call (f := 9) (fn := Try.f9) (args := []) (post := lychgatelaw05_wakes_post) rfl rfl rfl Try.func9 Try.pn9 rfl rfl (fun y w hy hs => lychgatelaw05_wakes_ref w _ hs  y hy) ?_)
  intro r_7 v_9 s_10 PV_12 hy_8 hle_11 hp_13
  obtain ⟨rfl, rfl⟩ := hp_13
  refine JL_op rfl (op_read rfl rfl (r_move (v := .bool r_7) rfl) ?_)
  refine J_forkLB (e := r_7) 9 (fun (b_15 : Bool) L τ PV => s_10.le τ ∧ L = [(15, .bool b_15)] ∧ PV = []) (fun hc_14 hk => ?_) (fun hc_14 hk => ?_) ?_
  · refine JL_opg rfl rfl hc_14 (op_read rfl rfl (r_move (v := v_2) rfl) ?_)
    refine JL_opg rfl rfl hc_14 (op_read rfl rfl (r_move (v := v_5) rfl) ?_)
    refine J_assoc ?_
    refine JL_opg rfl rfl hc_14 (op_call (f := 10) (fn := Try.f10) (args := [v_2, v_5]) (post := cert_Circle_post) rfl rfl rfl Try.func10 Try.pn10 rfl rfl (fun y w hy hs => cert_Circle_ref w _ hs v_2 cycle_1 (Ty.vmono _ hle_11 h_3) v_5 facts_4 (Ty.vmono _ hle_11 h_6) y hy) ?_)
    intro r_16 v_18 s_19 PV_21 hy_17 hle_20 hp_22
    obtain ⟨rfl, rfl⟩ := hp_22
    refine JL_opg rfl rfl hc_14 (op_read rfl rfl (r_move (v := v_2) rfl) ?_)
    refine JL_opg rfl rfl hc_14 (op_read rfl rfl (r_move (v := v_5) rfl) ?_)
    refine J_assoc ?_
    refine JL_opg rfl rfl hc_14 (op_call (f := 12) (fn := Try.f12) (args := [v_5]) (post := lychgatelaw05_refs_post) rfl rfl rfl Try.func12 Try.pn12 rfl rfl (fun y w hy hs => lychgatelaw05_refs_ref w _ hs v_5 facts_4 (Ty.vmono _ (FS.le.trans hle_11 hle_20) h_6) y hy) ?_)
    intro r_23 v_25 s_26 PV_28 hy_24 hle_27 hp_29
    obtain ⟨_, rfl, rfl⟩ := hp_29
    refine J_assoc ?_
    refine JL_opg rfl rfl hc_14 (op_call_lend (f := 11) (fn := Try.f11) (args := [v_2, v_25]) (post := lychgateref05_Circle_post) rfl rfl rfl Try.func11 Try.pn11 rfl rfl (fun y w τ hy hle hs hrow => lychgateref05_Circle_ref w τ hs v_2 cycle_1 (Ty.vmono _ hle (Ty.vmono _ (FS.le.trans (FS.le.trans hle_11 hle_20) hle_27) h_3)) v_25 r_23 (hrow 0 _ _ _ _ _ rfl) y hy) (fun y σ' PV' v hp => by obtain ⟨rfl, rfl⟩ := hp; exact trivial) ?_)
    intro r_31 v_33 s_34 PV_36 hy_32 hp_37
    obtain ⟨rfl, rfl⟩ := hp_37
    refine JL_opg rfl rfl hc_14 (op_read rfl rfl (r_beql Try.pu4 rfl rfl) ?_)
    refine JL_op rfl (op_read rfl rfl (r_pick_t (v := .bool (r_16 == r_31)) rfl hc_14 rfl) ?_)
    refine J_select (PV' := []) [] (by decide) rfl ?_
    refine J_prune _ ?_ fun b => hk (r_16 == r_31) _ b _ _ ⟨(FS.le.trans hle_20 hle_27), rfl, rfl⟩
    exact ⟨rfl, trivial⟩
  · refine JL_skip rfl rfl hc_14 rfl rfl ?_
    refine JL_skip rfl rfl hc_14 rfl rfl ?_
    refine JL_skip rfl rfl hc_14 rfl rfl ?_
    refine JL_skip rfl rfl hc_14 rfl rfl ?_
    refine JL_skip rfl rfl hc_14 rfl rfl ?_
    refine JL_skip rfl rfl hc_14 rfl rfl ?_
    refine JL_skip rfl rfl hc_14 rfl rfl ?_
    refine JL_skip rfl rfl hc_14 rfl rfl ?_
    refine JL_op rfl (op_read rfl rfl (r_pick_f (v := .bool false) rfl hc_14 rfl) ?_)
    refine J_prune _ ?_ fun b => hk false _ b _ _ ⟨(FS.le.refl _), rfl, rfl⟩
    exact ⟨rfl, trivial⟩
  · rintro b_15 _ b s_38 _ ⟨hle_39, rfl, rfl⟩
    refine JL_op rfl (op_read rfl rfl (r_assign (v := .bool b_15) rfl) ?_)
    refine JL_nil ?_
    refine J_then ?_
    refine J_ret ?_
    exact J_return1 rfl ⟨rfl, rfl⟩
end Go.Px
