/- Twins of the models, with fuel. -/
import Derived.Test.YtpeglggahhlabaaMd
import Derived.Test.YtpeglggahhlabaaCF
namespace Go.Px
open Go.Proofs
set_option linter.unusedVariables false
def slices_CloneF (x_2 : Sl Gdiff_Leq) : Option ((Sl Gdiff_Leq)) :=
  if !x_2.nn then
    some (⟨[], false⟩ : Sl Gdiff_Leq)
  else
    Option.bind (gapp 24 (⟨[], true⟩ : Sl Gdiff_Leq) x_2.xs) fun s_8 =>
    some s_8
theorem slices_CloneF_le (x_2 : Sl Gdiff_Leq) : Le (slices_CloneF x_2) (slices_Clone x_2) := by
  unfold slices_CloneF slices_Clone
  repeat (first | with_reducible exact Le.refl _ | (refine Le.loop (fun _ => ?_) _) | (with_reducible refine Le.bind ?_ (fun _ => ?_)) | (with_reducible refine Le.ite ?_ ?_) | (split <;> with_reducible exact Le.refl _) | (rename_i y; cases y <;> simp only))
def diff_fit_1F (f_2 : Gdiff_Leq) (f_5 : Int) : Option Unit :=
  some ()
theorem diff_fit_1F_le (f_2 : Gdiff_Leq) (f_5 : Int) : Le (diff_fit_1F f_2 f_5) (diff_fit_1 f_2 f_5) := by
  unfold diff_fit_1F diff_fit_1
  repeat (first | with_reducible exact Le.refl _ | (refine Le.loop (fun _ => ?_) _) | (with_reducible refine Le.bind ?_ (fun _ => ?_)) | (with_reducible refine Le.ite ?_ ?_) | (split <;> with_reducible exact Le.refl _) | (rename_i y; cases y <;> simp only))
def slices_IndexFunc_L1F (f_4 : Int) (x_2 : Sl Gdiff_Leq) (x_5 : Int) : Option (Step Int (W2 Unit Int)) :=
  if decide (x_5 < x_2.len) then
    Option.bind (gidx x_2 x_5) fun x_10 =>
    Option.bind (diff_fit_1F x_10 f_4) fun r_14 =>
    if (((((decide (x_10.X < 0) || decide (f_4 ≤ x_10.X)) || decide (x_10.Y < 0)) || decide (f_4 ≤ x_10.Y)) || decide (8796093022208 < x_10.C)) || decide (x_10.C < (-8796093022208))) then
      some (.done (.b x_5))
    else
      some (.next (IntKind.i64.wrap (x_5 + 1)))
  else
    some (.done (.a ()))
theorem slices_IndexFunc_L1F_le (f_4 : Int) (x_2 : Sl Gdiff_Leq) (x_5 : Int) : Le (slices_IndexFunc_L1F f_4 x_2 x_5) (slices_IndexFunc_L1 f_4 x_2 x_5) := by
  unfold slices_IndexFunc_L1F slices_IndexFunc_L1
  repeat (first | with_reducible exact Le.refl _ | (with_reducible apply diff_fit_1F_le) | (refine Le.loop (fun _ => ?_) _) | (with_reducible refine Le.bind ?_ (fun _ => ?_)) | (with_reducible refine Le.ite ?_ ?_) | (split <;> with_reducible exact Le.refl _) | (rename_i y; cases y <;> simp only))
def slices_IndexFuncF (x_2 : Sl Gdiff_Leq) (f_4 : Int) : Option Int :=
  Option.bind (iterL (slices_IndexFunc_L1F f_4 x_2) 1000 0) fun y_22 =>
  match y_22 with
  | .a y_23 =>
    some (-1)
  | .b y_27 =>
    some y_27
theorem slices_IndexFuncF_le (x_2 : Sl Gdiff_Leq) (f_4 : Int) : Le (slices_IndexFuncF x_2 f_4) (slices_IndexFunc x_2 f_4) := by
  unfold slices_IndexFuncF slices_IndexFunc
  repeat (first | with_reducible exact Le.refl _ | (with_reducible apply slices_IndexFunc_L1F_le) | (refine Le.loop (fun _ => ?_) _) | (with_reducible refine Le.bind ?_ (fun _ => ?_)) | (with_reducible refine Le.ite ?_ ?_) | (split <;> with_reducible exact Le.refl _) | (rename_i y; cases y <;> simp only))
def slices_ContainsFuncF (x_2 : Sl Gdiff_Leq) (f_4 : Int) : Option Bool :=
  Option.bind (slices_IndexFuncF x_2 f_4) fun r_5 =>
  some (decide (0 ≤ r_5))
theorem slices_ContainsFuncF_le (x_2 : Sl Gdiff_Leq) (f_4 : Int) : Le (slices_ContainsFuncF x_2 f_4) (slices_ContainsFunc x_2 f_4) := by
  unfold slices_ContainsFuncF slices_ContainsFunc
  repeat (first | with_reducible exact Le.refl _ | (with_reducible apply slices_IndexFuncF_le) | (refine Le.loop (fun _ => ?_) _) | (with_reducible refine Le.bind ?_ (fun _ => ?_)) | (with_reducible refine Le.ite ?_ ?_) | (split <;> with_reducible exact Le.refl _) | (rename_i y; cases y <;> simp only))
def diff_fitF (n_1 : Int) (x_3 : Sl Gdiff_Leq) : Option Int :=
  if decide (768 < x_3.len) then
    some 22
  else
    if (decide (n_1 < 1) || decide (96 < n_1)) then
      some 2
    else
      Option.bind (slices_ContainsFuncF x_3 n_1) fun r_9 =>
      if r_9 then
        some 2
      else
        some 0
theorem diff_fitF_le (n_1 : Int) (x_3 : Sl Gdiff_Leq) : Le (diff_fitF n_1 x_3) (diff_fit n_1 x_3) := by
  unfold diff_fitF diff_fit
  repeat (first | with_reducible exact Le.refl _ | (with_reducible apply slices_ContainsFuncF_le) | (refine Le.loop (fun _ => ?_) _) | (with_reducible refine Le.bind ?_ (fun _ => ?_)) | (with_reducible refine Le.ite ?_ ?_) | (split <;> with_reducible exact Le.refl _) | (rename_i y; cases y <;> simp only))
def diff_solve_K1F (k_39 : Sl Int) (k_43 : Sl Int) (x_17 : (Sl Int) × (Sl Int) × Int × Int) (y_45 : Unit) : Option ((Sl Int) × (Sl Int) × Int) :=
  (some (k_39, k_43, x_17.2.2.2) : Option ((Sl Int) × (Sl Int) × Int))
theorem diff_solve_K1F_le (k_39 : Sl Int) (k_43 : Sl Int) (x_17 : (Sl Int) × (Sl Int) × Int × Int) (y_45 : Unit) : Le (diff_solve_K1F k_39 k_43 x_17 y_45) (diff_solve_K1 k_39 k_43 x_17 y_45) := by
  unfold diff_solve_K1F diff_solve_K1
  repeat (first | with_reducible exact Le.refl _ | (refine Le.loop (fun _ => ?_) _) | (with_reducible refine Le.bind ?_ (fun _ => ?_)) | (with_reducible refine Le.ite ?_ ?_) | (split <;> with_reducible exact Le.refl _) | (rename_i y; cases y <;> simp only))
def diff_solve_L1F (x_3 : Sl Gdiff_Leq) (x_17 : (Sl Int) × (Sl Int) × Int × Int) : Option (Step ((Sl Int) × (Sl Int) × Int × Int) ((Sl Int) × (Sl Int) × Int)) :=
  if decide (x_17.2.2.2 < x_3.len) then
    Option.bind (
        Option.bind (gidx x_3 x_17.2.2.2) fun x_22 =>
        Option.bind (gidx x_17.1 x_22.Y) fun x_29 =>
        Option.bind (gidx x_17.1 x_22.X) fun x_33 =>
        Option.bind (
            if decide ((IntKind.i64.wrap (x_29 + x_22.C)) < x_33) then
              Option.bind (gset x_17.1 x_22.X (IntKind.i64.wrap (x_29 + x_22.C))) fun k_39 =>
              Option.bind (gidx x_17.2.1 x_22.X) fun k_41 =>
              Option.bind (gset x_17.2.1 x_22.X x_17.2.2.2) fun k_43 =>
              diff_solve_K1F k_39 k_43 x_17 ()
            else
              (some (x_17.1, x_17.2.1, x_17.2.2.1) : Option ((Sl Int) × (Sl Int) × Int))) fun y_62 =>
        (some (y_62.1, y_62.2.1, y_62.2.2) : Option ((Sl Int) × (Sl Int) × Int))) fun y_66 =>
    some (.next (y_66.1, y_66.2.1, y_66.2.2, IntKind.i64.wrap (x_17.2.2.2 + 1)))
  else
    some (.done (x_17.1, x_17.2.1, x_17.2.2.1))
theorem diff_solve_L1F_le (x_3 : Sl Gdiff_Leq) (x_17 : (Sl Int) × (Sl Int) × Int × Int) : Le (diff_solve_L1F x_3 x_17) (diff_solve_L1 x_3 x_17) := by
  unfold diff_solve_L1F diff_solve_L1
  repeat (first | with_reducible exact Le.refl _ | (with_reducible apply diff_solve_K1F_le) | (refine Le.loop (fun _ => ?_) _) | (with_reducible refine Le.bind ?_ (fun _ => ?_)) | (with_reducible refine Le.ite ?_ ?_) | (split <;> with_reducible exact Le.refl _) | (rename_i y; cases y <;> simp only))
def diff_solve_L2F (n_1 : Int) (x_3 : Sl Gdiff_Leq) (x_12 : (Sl Int) × (Sl Int) × Int × Int) : Option (Step ((Sl Int) × (Sl Int) × Int × Int) (W2 ((Sl Int) × Int) ((Sl Int)))) :=
  if decide (x_12.2.2.2 < n_1) then
    Option.bind (iterL (diff_solve_L1F x_3) 1000 (x_12.1, x_12.2.1, (-1), 0)) fun y_70 =>
    if decide (y_70.2.2 < 0) then
      some (.done (.b y_70.1))
    else
      some (.next (y_70.1, y_70.2.1, y_70.2.2, IntKind.i64.wrap (x_12.2.2.2 + 1)))
  else
    some (.done (.a (x_12.2.1, x_12.2.2.1)))
theorem diff_solve_L2F_le (n_1 : Int) (x_3 : Sl Gdiff_Leq) (x_12 : (Sl Int) × (Sl Int) × Int × Int) : Le (diff_solve_L2F n_1 x_3 x_12) (diff_solve_L2 n_1 x_3 x_12) := by
  unfold diff_solve_L2F diff_solve_L2
  repeat (first | with_reducible exact Le.refl _ | (with_reducible apply diff_solve_L1F_le) | (refine Le.loop (fun _ => ?_) _) | (with_reducible refine Le.bind ?_ (fun _ => ?_)) | (with_reducible refine Le.ite ?_ ?_) | (split <;> with_reducible exact Le.refl _) | (rename_i y; cases y <;> simp only))
def diff_solve_L3F (n_1 : Int) (x_3 : Sl Gdiff_Leq) (y_76 : (Sl Int) × Int) (x_84 : Int × Int) : Option (Step (Int × Int) Int) :=
  if decide (x_84.2 < n_1) then
    Option.bind (gidx y_76.1 x_84.1) fun x_89 =>
    Option.bind (gidx x_3 x_89) fun x_93 =>
    some (.next (x_93.Y, IntKind.i64.wrap (x_84.2 + 1)))
  else
    some (.done x_84.1)
theorem diff_solve_L3F_le (n_1 : Int) (x_3 : Sl Gdiff_Leq) (y_76 : (Sl Int) × Int) (x_84 : Int × Int) : Le (diff_solve_L3F n_1 x_3 y_76 x_84) (diff_solve_L3 n_1 x_3 y_76 x_84) := by
  unfold diff_solve_L3F diff_solve_L3
  repeat (first | with_reducible exact Le.refl _ | (refine Le.loop (fun _ => ?_) _) | (with_reducible refine Le.bind ?_ (fun _ => ?_)) | (with_reducible refine Le.ite ?_ ?_) | (split <;> with_reducible exact Le.refl _) | (rename_i y; cases y <;> simp only))
def diff_solve_L4F (x_3 : Sl Gdiff_Leq) (y_76 : (Sl Int) × Int) (y_97 : Int) (x_102 : (Sl Int) × Int) : Option (Step ((Sl Int) × Int) ((Sl Int))) :=
  Option.bind (gidx y_76.1 x_102.2) fun x_108 =>
  Option.bind (gapp 8 x_102.1 [x_108]) fun s_115 =>
  Option.bind (gidx x_3 x_108) fun x_117 =>
  if decide (x_117.Y = y_97) then
    some (.done s_115)
  else
    some (.next (s_115, x_117.Y))
theorem diff_solve_L4F_le (x_3 : Sl Gdiff_Leq) (y_76 : (Sl Int) × Int) (y_97 : Int) (x_102 : (Sl Int) × Int) : Le (diff_solve_L4F x_3 y_76 y_97 x_102) (diff_solve_L4 x_3 y_76 y_97 x_102) := by
  unfold diff_solve_L4F diff_solve_L4
  repeat (first | with_reducible exact Le.refl _ | (refine Le.loop (fun _ => ?_) _) | (with_reducible refine Le.bind ?_ (fun _ => ?_)) | (with_reducible refine Le.ite ?_ ?_) | (split <;> with_reducible exact Le.refl _) | (rename_i y; cases y <;> simp only))
def diff_solveF (n_1 : Int) (x_3 : Sl Gdiff_Leq) : Option ((Sl Int) × (Sl Int)) :=
  Option.bind (gmake 8 n_1 0) fun s_6 =>
  Option.bind (iterL (diff_solve_L2F n_1 x_3) 1000 (s_6, s_6, (-1), 0)) fun y_75 =>
  match y_75 with
  | .a y_76 =>
    Option.bind (gidx x_3 y_76.2) fun x_80 =>
    Option.bind (iterL (diff_solve_L3F n_1 x_3 y_76) 1000 (x_80.X, 0)) fun y_97 =>
    Option.bind (iterL (diff_solve_L4F x_3 y_76 y_97) 1000 ((⟨[], false⟩ : Sl Int), y_97)) fun y_122 =>
    some ((⟨[], false⟩ : Sl Int), y_122)
  | .b y_129 =>
    some (y_129, (⟨[], false⟩ : Sl Int))
theorem diff_solveF_le (n_1 : Int) (x_3 : Sl Gdiff_Leq) : Le (diff_solveF n_1 x_3) (diff_solve n_1 x_3) := by
  unfold diff_solveF diff_solve
  repeat (first | with_reducible exact Le.refl _ | (with_reducible apply diff_solve_L2F_le) | (with_reducible apply diff_solve_L3F_le) | (with_reducible apply diff_solve_L4F_le) | (refine Le.loop (fun _ => ?_) _) | (with_reducible refine Le.bind ?_ (fun _ => ?_)) | (with_reducible refine Le.ite ?_ ?_) | (split <;> with_reducible exact Le.refl _) | (rename_i y; cases y <;> simp only))
def diff_Entails_K1F (goal_3 : Gdiff_Leq) (k_12 : Sl Gdiff_Leq) (n_1 : Int) (x_6 : Sl Gdiff_Leq) (y_14 : Unit) : Option (Bool × Int) :=
  Option.bind (diff_fitF n_1 k_12) fun r_20 =>
  if decide (r_20 ≠ 0) then
    some (false, r_20)
  else
    if decide (goal_3.C = 8796093022208) then
      some (false, 2)
    else
      Option.bind (gidx k_12 x_6.len) fun x_29 =>
      Option.bind (gset k_12 x_6.len (⟨goal_3.Y, goal_3.X, IntKind.i64.wrap ((IntKind.i64.wrap (0 - goal_3.C)) - 1)⟩ : Gdiff_Leq)) fun s_31 =>
      Option.bind (diff_solveF n_1 s_31) fun r_33 =>
      some (r_33.2.nn, 0)
theorem diff_Entails_K1F_le (goal_3 : Gdiff_Leq) (k_12 : Sl Gdiff_Leq) (n_1 : Int) (x_6 : Sl Gdiff_Leq) (y_14 : Unit) : Le (diff_Entails_K1F goal_3 k_12 n_1 x_6 y_14) (diff_Entails_K1 goal_3 k_12 n_1 x_6 y_14) := by
  unfold diff_Entails_K1F diff_Entails_K1
  repeat (first | with_reducible exact Le.refl _ | (with_reducible apply diff_fitF_le) | (with_reducible apply diff_solveF_le) | (refine Le.loop (fun _ => ?_) _) | (with_reducible refine Le.bind ?_ (fun _ => ?_)) | (with_reducible refine Le.ite ?_ ?_) | (split <;> with_reducible exact Le.refl _) | (rename_i y; cases y <;> simp only))
def diff_EntailsF (n_1 : Int) (goal_3 : Gdiff_Leq) (x_6 : Sl Gdiff_Leq) : Option (Bool × Int) :=
  Option.bind (slices_CloneF x_6) fun k_10 =>
  Option.bind (gapp 24 k_10 [goal_3]) fun k_12 =>
  diff_Entails_K1F goal_3 k_12 n_1 x_6 ()
theorem diff_EntailsF_le (n_1 : Int) (goal_3 : Gdiff_Leq) (x_6 : Sl Gdiff_Leq) : Le (diff_EntailsF n_1 goal_3 x_6) (diff_Entails n_1 goal_3 x_6) := by
  unfold diff_EntailsF diff_Entails
  repeat (first | with_reducible exact Le.refl _ | (with_reducible apply slices_CloneF_le) | (with_reducible apply diff_Entails_K1F_le) | (refine Le.loop (fun _ => ?_) _) | (with_reducible refine Le.bind ?_ (fun _ => ?_)) | (with_reducible refine Le.ite ?_ ?_) | (split <;> with_reducible exact Le.refl _) | (rename_i y; cases y <;> simp only))
def cert_turnedF (goal_2 : Gdiff_Leq) : Option Unit :=
  some ()
theorem cert_turnedF_le (goal_2 : Gdiff_Leq) : Le (cert_turnedF goal_2) (cert_turned goal_2) := by
  unfold cert_turnedF cert_turned
  repeat (first | with_reducible exact Le.refl _ | (refine Le.loop (fun _ => ?_) _) | (with_reducible refine Le.bind ?_ (fun _ => ?_)) | (with_reducible refine Le.ite ?_ ?_) | (split <;> with_reducible exact Le.refl _) | (rename_i y; cases y <;> simp only))
def cert_withinF (n_1 : Int) (most_2 : Int) : Option Unit :=
  some ()
theorem cert_withinF_le (n_1 : Int) (most_2 : Int) : Le (cert_withinF n_1 most_2) (cert_within n_1 most_2) := by
  unfold cert_withinF cert_within
  repeat (first | with_reducible exact Le.refl _ | (refine Le.loop (fun _ => ?_) _) | (with_reducible refine Le.bind ?_ (fun _ => ?_)) | (with_reducible refine Le.ite ?_ ?_) | (split <;> with_reducible exact Le.refl _) | (rename_i y; cases y <;> simp only))
def cert_Circle_1F (k_1 : Int) (x_4 : Sl Gdiff_Leq) : Option Bool :=
  Option.bind (if (decide (k_1 < 0) || decide (x_4.len ≤ k_1)) then
      some true
    else
      Option.bind (gidx x_4 k_1) fun x_8 =>
      Option.bind (cert_withinF x_8.C 17592186044416) fun r_12 =>
      some (!(decide (x_8.C ≤ 17592186044416) && decide ((IntKind.i64.wrap (0 - 17592186044416)) ≤ x_8.C)))) fun y_7 =>
  some y_7
theorem cert_Circle_1F_le (k_1 : Int) (x_4 : Sl Gdiff_Leq) : Le (cert_Circle_1F k_1 x_4) (cert_Circle_1 k_1 x_4) := by
  unfold cert_Circle_1F cert_Circle_1
  repeat (first | with_reducible exact Le.refl _ | (with_reducible apply cert_withinF_le) | (refine Le.loop (fun _ => ?_) _) | (with_reducible refine Le.bind ?_ (fun _ => ?_)) | (with_reducible refine Le.ite ?_ ?_) | (split <;> with_reducible exact Le.refl _) | (rename_i y; cases y <;> simp only))
def slices_IndexFunc_v2_L1F (x_2 : Sl Int) (x_5 : Sl Gdiff_Leq) (x_6 : Int) : Option (Step Int (W2 Unit Int)) :=
  if decide (x_6 < x_2.len) then
    Option.bind (gidx x_2 x_6) fun x_11 =>
    Option.bind (cert_Circle_1F x_11 x_5) fun r_15 =>
    if r_15 then
      some (.done (.b x_6))
    else
      some (.next (IntKind.i64.wrap (x_6 + 1)))
  else
    some (.done (.a ()))
theorem slices_IndexFunc_v2_L1F_le (x_2 : Sl Int) (x_5 : Sl Gdiff_Leq) (x_6 : Int) : Le (slices_IndexFunc_v2_L1F x_2 x_5 x_6) (slices_IndexFunc_v2_L1 x_2 x_5 x_6) := by
  unfold slices_IndexFunc_v2_L1F slices_IndexFunc_v2_L1
  repeat (first | with_reducible exact Le.refl _ | (with_reducible apply cert_Circle_1F_le) | (refine Le.loop (fun _ => ?_) _) | (with_reducible refine Le.bind ?_ (fun _ => ?_)) | (with_reducible refine Le.ite ?_ ?_) | (split <;> with_reducible exact Le.refl _) | (rename_i y; cases y <;> simp only))
def slices_IndexFunc_v2F (x_2 : Sl Int) (x_5 : Sl Gdiff_Leq) : Option Int :=
  Option.bind (iterL (slices_IndexFunc_v2_L1F x_2 x_5) 1000 0) fun y_23 =>
  match y_23 with
  | .a y_24 =>
    some (-1)
  | .b y_28 =>
    some y_28
theorem slices_IndexFunc_v2F_le (x_2 : Sl Int) (x_5 : Sl Gdiff_Leq) : Le (slices_IndexFunc_v2F x_2 x_5) (slices_IndexFunc_v2 x_2 x_5) := by
  unfold slices_IndexFunc_v2F slices_IndexFunc_v2
  repeat (first | with_reducible exact Le.refl _ | (with_reducible apply slices_IndexFunc_v2_L1F_le) | (refine Le.loop (fun _ => ?_) _) | (with_reducible refine Le.bind ?_ (fun _ => ?_)) | (with_reducible refine Le.ite ?_ ?_) | (split <;> with_reducible exact Le.refl _) | (rename_i y; cases y <;> simp only))
def slices_ContainsFunc_v2F (x_2 : Sl Int) (x_5 : Sl Gdiff_Leq) : Option Bool :=
  Option.bind (slices_IndexFunc_v2F x_2 x_5) fun r_6 =>
  some (decide (0 ≤ r_6))
theorem slices_ContainsFunc_v2F_le (x_2 : Sl Int) (x_5 : Sl Gdiff_Leq) : Le (slices_ContainsFunc_v2F x_2 x_5) (slices_ContainsFunc_v2 x_2 x_5) := by
  unfold slices_ContainsFunc_v2F slices_ContainsFunc_v2
  repeat (first | with_reducible exact Le.refl _ | (with_reducible apply slices_IndexFunc_v2F_le) | (refine Le.loop (fun _ => ?_) _) | (with_reducible refine Le.bind ?_ (fun _ => ?_)) | (with_reducible refine Le.ite ?_ ?_) | (split <;> with_reducible exact Le.refl _) | (rename_i y; cases y <;> simp only))
def cert_Circle_L1F (x_2 : Sl Int) (x_4 : Sl Gdiff_Leq) (x_31 : Int × Int × Int) : Option (Step (Int × Int × Int) (W2 (Int × Int) Unit)) :=
  if decide (x_31.2.2 < x_2.len) then
    Option.bind (gidx x_2 x_31.2.2) fun x_36 =>
    Option.bind (gidx x_4 x_36) fun x_40 =>
    if decide (x_40.X ≠ x_31.2.1) then
      some (.done (.b ()))
    else
      some (.next (IntKind.i64.wrap (x_31.1 + x_40.C), x_40.Y, IntKind.i64.wrap (x_31.2.2 + 1)))
  else
    some (.done (.a (x_31.1, x_31.2.1)))
theorem cert_Circle_L1F_le (x_2 : Sl Int) (x_4 : Sl Gdiff_Leq) (x_31 : Int × Int × Int) : Le (cert_Circle_L1F x_2 x_4 x_31) (cert_Circle_L1 x_2 x_4 x_31) := by
  unfold cert_Circle_L1F cert_Circle_L1
  repeat (first | with_reducible exact Le.refl _ | (refine Le.loop (fun _ => ?_) _) | (with_reducible refine Le.bind ?_ (fun _ => ?_)) | (with_reducible refine Le.ite ?_ ?_) | (split <;> with_reducible exact Le.refl _) | (rename_i y; cases y <;> simp only))
def cert_CircleF (x_2 : Sl Int) (x_4 : Sl Gdiff_Leq) : Option Bool :=
  Option.bind (if (decide (x_2.len = 0) || decide (65536 < x_2.len)) then
      some true
    else
      Option.bind (slices_ContainsFunc_v2F x_2 x_4) fun r_11 =>
      some r_11) fun y_10 =>
  if y_10 then
    some false
  else
    Option.bind (gidx x_2 0) fun x_23 =>
    Option.bind (gidx x_4 x_23) fun x_27 =>
    Option.bind (iterL (cert_Circle_L1F x_2 x_4) 1000 (0, x_27.X, 0)) fun y_49 =>
    match y_49 with
    | .a y_50 =>
      some (decide (y_50.2 = x_27.X) && decide (y_50.1 < 0))
    | .b y_60 =>
      some false
theorem cert_CircleF_le (x_2 : Sl Int) (x_4 : Sl Gdiff_Leq) : Le (cert_CircleF x_2 x_4) (cert_Circle x_2 x_4) := by
  unfold cert_CircleF cert_Circle
  repeat (first | with_reducible exact Le.refl _ | (with_reducible apply slices_ContainsFunc_v2F_le) | (with_reducible apply cert_Circle_L1F_le) | (refine Le.loop (fun _ => ?_) _) | (with_reducible refine Le.bind ?_ (fun _ => ?_)) | (with_reducible refine Le.ite ?_ ?_) | (split <;> with_reducible exact Le.refl _) | (rename_i y; cases y <;> simp only))
def cert_Holds_1F (f_2 : Gdiff_Leq) (f_6 : Sl Int) : Option Bool :=
  if (((decide (f_2.X < 0) || decide (f_6.len ≤ f_2.X)) || decide (f_2.Y < 0)) || decide (f_6.len ≤ f_2.Y)) then
    some true
  else
    Option.bind (gidx f_6 f_2.X) fun x_15 =>
    Option.bind (gidx f_6 f_2.Y) fun x_19 =>
    Option.bind (cert_withinF f_2.C 17592186044416) fun r_23 =>
    Option.bind (if !(decide (f_2.C ≤ 17592186044416) && decide ((IntKind.i64.wrap (0 - 17592186044416)) ≤ f_2.C)) then
        some true
      else
        Option.bind (cert_withinF x_15 4503599627370496) fun r_32 =>
        some (!(decide (x_15 ≤ 4503599627370496) && decide ((IntKind.i64.wrap (0 - 4503599627370496)) ≤ x_15)))) fun y_31 =>
    Option.bind (if y_31 then
        some true
      else
        Option.bind (cert_withinF x_19 4503599627370496) fun r_44 =>
        some (!(decide (x_19 ≤ 4503599627370496) && decide ((IntKind.i64.wrap (0 - 4503599627370496)) ≤ x_19)))) fun y_43 =>
    some (y_43 || decide (f_2.C < (IntKind.i64.wrap (x_15 - x_19))))
theorem cert_Holds_1F_le (f_2 : Gdiff_Leq) (f_6 : Sl Int) : Le (cert_Holds_1F f_2 f_6) (cert_Holds_1 f_2 f_6) := by
  unfold cert_Holds_1F cert_Holds_1
  repeat (first | with_reducible exact Le.refl _ | (with_reducible apply cert_withinF_le) | (refine Le.loop (fun _ => ?_) _) | (with_reducible refine Le.bind ?_ (fun _ => ?_)) | (with_reducible refine Le.ite ?_ ?_) | (split <;> with_reducible exact Le.refl _) | (rename_i y; cases y <;> simp only))
def slices_IndexFunc_v3_L1F (f_5 : Sl Int) (x_2 : Sl Gdiff_Leq) (x_7 : Int) : Option (Step Int (W2 Unit Int)) :=
  if decide (x_7 < x_2.len) then
    Option.bind (gidx x_2 x_7) fun x_12 =>
    Option.bind (cert_Holds_1F x_12 f_5) fun r_16 =>
    if r_16 then
      some (.done (.b x_7))
    else
      some (.next (IntKind.i64.wrap (x_7 + 1)))
  else
    some (.done (.a ()))
theorem slices_IndexFunc_v3_L1F_le (f_5 : Sl Int) (x_2 : Sl Gdiff_Leq) (x_7 : Int) : Le (slices_IndexFunc_v3_L1F f_5 x_2 x_7) (slices_IndexFunc_v3_L1 f_5 x_2 x_7) := by
  unfold slices_IndexFunc_v3_L1F slices_IndexFunc_v3_L1
  repeat (first | with_reducible exact Le.refl _ | (with_reducible apply cert_Holds_1F_le) | (refine Le.loop (fun _ => ?_) _) | (with_reducible refine Le.bind ?_ (fun _ => ?_)) | (with_reducible refine Le.ite ?_ ?_) | (split <;> with_reducible exact Le.refl _) | (rename_i y; cases y <;> simp only))
def slices_IndexFunc_v3F (x_2 : Sl Gdiff_Leq) (f_5 : Sl Int) : Option Int :=
  Option.bind (iterL (slices_IndexFunc_v3_L1F f_5 x_2) 1000 0) fun y_24 =>
  match y_24 with
  | .a y_25 =>
    some (-1)
  | .b y_29 =>
    some y_29
theorem slices_IndexFunc_v3F_le (x_2 : Sl Gdiff_Leq) (f_5 : Sl Int) : Le (slices_IndexFunc_v3F x_2 f_5) (slices_IndexFunc_v3 x_2 f_5) := by
  unfold slices_IndexFunc_v3F slices_IndexFunc_v3
  repeat (first | with_reducible exact Le.refl _ | (with_reducible apply slices_IndexFunc_v3_L1F_le) | (refine Le.loop (fun _ => ?_) _) | (with_reducible refine Le.bind ?_ (fun _ => ?_)) | (with_reducible refine Le.ite ?_ ?_) | (split <;> with_reducible exact Le.refl _) | (rename_i y; cases y <;> simp only))
def slices_ContainsFunc_v3F (x_2 : Sl Gdiff_Leq) (f_5 : Sl Int) : Option Bool :=
  Option.bind (slices_IndexFunc_v3F x_2 f_5) fun r_7 =>
  some (decide (0 ≤ r_7))
theorem slices_ContainsFunc_v3F_le (x_2 : Sl Gdiff_Leq) (f_5 : Sl Int) : Le (slices_ContainsFunc_v3F x_2 f_5) (slices_ContainsFunc_v3 x_2 f_5) := by
  unfold slices_ContainsFunc_v3F slices_ContainsFunc_v3
  repeat (first | with_reducible exact Le.refl _ | (with_reducible apply slices_IndexFunc_v3F_le) | (refine Le.loop (fun _ => ?_) _) | (with_reducible refine Le.bind ?_ (fun _ => ?_)) | (with_reducible refine Le.ite ?_ ?_) | (split <;> with_reducible exact Le.refl _) | (rename_i y; cases y <;> simp only))
def cert_HoldsF (numbers_2 : Sl Int) (x_5 : Sl Gdiff_Leq) : Option Bool :=
  Option.bind (slices_ContainsFunc_v3F x_5 numbers_2) fun r_8 =>
  some (!r_8)
theorem cert_HoldsF_le (numbers_2 : Sl Int) (x_5 : Sl Gdiff_Leq) : Le (cert_HoldsF numbers_2 x_5) (cert_Holds numbers_2 x_5) := by
  unfold cert_HoldsF cert_Holds
  repeat (first | with_reducible exact Le.refl _ | (with_reducible apply slices_ContainsFunc_v3F_le) | (refine Le.loop (fun _ => ?_) _) | (with_reducible refine Le.bind ?_ (fun _ => ?_)) | (with_reducible refine Le.ite ?_ ?_) | (split <;> with_reducible exact Le.refl _) | (rename_i y; cases y <;> simp only))
def cert_CheckF (Yes_1 : Bool) (x_3 : Sl Int) (Numbers_5 : Sl Int) (n_7 : Int) (goal_9 : Gdiff_Leq) (x_12 : Sl Gdiff_Leq) : Option Bool :=
  Option.bind (diff_EntailsF n_7 goal_9 x_12) fun r_18 =>
  if decide (r_18.2 ≠ 0) then
    some false
  else
    if Yes_1 then
      Option.bind (if decide (Numbers_5.len = 0) then
          Option.bind (slices_CloneF x_12) fun r_30 =>
          Option.bind (cert_turnedF goal_9) fun r_40 =>
          Option.bind (gapp 24 r_30 [(⟨goal_9.Y, goal_9.X, IntKind.i64.wrap ((IntKind.i64.wrap (0 - goal_9.C)) - 1)⟩ : Gdiff_Leq)]) fun s_52 =>
          Option.bind (cert_CircleF x_3 s_52) fun r_56 =>
          some r_56
        else
          some false) fun y_29 =>
      some y_29
    else
      Option.bind (if (decide (x_3.len = 0) && decide (Numbers_5.len = n_7)) then
          Option.bind (slices_CloneF x_12) fun r_73 =>
          Option.bind (cert_turnedF goal_9) fun r_83 =>
          Option.bind (gapp 24 r_73 [(⟨goal_9.Y, goal_9.X, IntKind.i64.wrap ((IntKind.i64.wrap (0 - goal_9.C)) - 1)⟩ : Gdiff_Leq)]) fun s_95 =>
          Option.bind (cert_HoldsF Numbers_5 s_95) fun r_99 =>
          some r_99
        else
          some false) fun y_72 =>
      some y_72
theorem cert_CheckF_le (Yes_1 : Bool) (x_3 : Sl Int) (Numbers_5 : Sl Int) (n_7 : Int) (goal_9 : Gdiff_Leq) (x_12 : Sl Gdiff_Leq) : Le (cert_CheckF Yes_1 x_3 Numbers_5 n_7 goal_9 x_12) (cert_Check Yes_1 x_3 Numbers_5 n_7 goal_9 x_12) := by
  unfold cert_CheckF cert_Check
  repeat (first | with_reducible exact Le.refl _ | (with_reducible apply diff_EntailsF_le) | (with_reducible apply slices_CloneF_le) | (with_reducible apply cert_turnedF_le) | (with_reducible apply cert_CircleF_le) | (with_reducible apply cert_HoldsF_le) | (refine Le.loop (fun _ => ?_) _) | (with_reducible refine Le.bind ?_ (fun _ => ?_)) | (with_reducible refine Le.ite ?_ ?_) | (split <;> with_reducible exact Le.refl _) | (rename_i y; cases y <;> simp only))
def slices_IndexFunc_v4_L1F (s_2 : Sl Int) (x_6 : Sl Gdiff_Leq) (x_7 : Int) : Option (Step Int (W2 Unit Int)) :=
  if decide (x_7 < s_2.len) then
    Option.bind (gidx s_2 x_7) fun x_12 =>
    Option.bind (cert_Circle_1F x_12 x_6) fun r_16 =>
    if r_16 then
      some (.done (.b x_7))
    else
      some (.next (IntKind.i64.wrap (x_7 + 1)))
  else
    some (.done (.a ()))
theorem slices_IndexFunc_v4_L1F_le (s_2 : Sl Int) (x_6 : Sl Gdiff_Leq) (x_7 : Int) : Le (slices_IndexFunc_v4_L1F s_2 x_6 x_7) (slices_IndexFunc_v4_L1 s_2 x_6 x_7) := by
  unfold slices_IndexFunc_v4_L1F slices_IndexFunc_v4_L1
  repeat (first | with_reducible exact Le.refl _ | (with_reducible apply cert_Circle_1F_le) | (refine Le.loop (fun _ => ?_) _) | (with_reducible refine Le.bind ?_ (fun _ => ?_)) | (with_reducible refine Le.ite ?_ ?_) | (split <;> with_reducible exact Le.refl _) | (rename_i y; cases y <;> simp only))
def slices_IndexFunc_v4F (s_2 : Sl Int) (x_6 : Sl Gdiff_Leq) : Option Int :=
  Option.bind (iterL (slices_IndexFunc_v4_L1F s_2 x_6) 1000 0) fun y_24 =>
  match y_24 with
  | .a y_25 =>
    some (-1)
  | .b y_29 =>
    some y_29
theorem slices_IndexFunc_v4F_le (s_2 : Sl Int) (x_6 : Sl Gdiff_Leq) : Le (slices_IndexFunc_v4F s_2 x_6) (slices_IndexFunc_v4 s_2 x_6) := by
  unfold slices_IndexFunc_v4F slices_IndexFunc_v4
  repeat (first | with_reducible exact Le.refl _ | (with_reducible apply slices_IndexFunc_v4_L1F_le) | (refine Le.loop (fun _ => ?_) _) | (with_reducible refine Le.bind ?_ (fun _ => ?_)) | (with_reducible refine Le.ite ?_ ?_) | (split <;> with_reducible exact Le.refl _) | (rename_i y; cases y <;> simp only))
def slices_ContainsFunc_v4F (s_2 : Sl Int) (x_6 : Sl Gdiff_Leq) : Option Bool :=
  Option.bind (slices_IndexFunc_v4F s_2 x_6) fun r_7 =>
  some (decide (0 ≤ r_7))
theorem slices_ContainsFunc_v4F_le (s_2 : Sl Int) (x_6 : Sl Gdiff_Leq) : Le (slices_ContainsFunc_v4F s_2 x_6) (slices_ContainsFunc_v4 s_2 x_6) := by
  unfold slices_ContainsFunc_v4F slices_ContainsFunc_v4
  repeat (first | with_reducible exact Le.refl _ | (with_reducible apply slices_IndexFunc_v4F_le) | (refine Le.loop (fun _ => ?_) _) | (with_reducible refine Le.bind ?_ (fun _ => ?_)) | (with_reducible refine Le.ite ?_ ?_) | (split <;> with_reducible exact Le.refl _) | (rename_i y; cases y <;> simp only))
def cert_Circle_v2_L1F (cycle_2 : Sl Int) (x_5 : Sl Gdiff_Leq) (x_32 : Int × Int × Int) : Option (Step (Int × Int × Int) (W2 (Int × Int) Unit)) :=
  if decide (x_32.2.2 < cycle_2.len) then
    Option.bind (gidx cycle_2 x_32.2.2) fun x_37 =>
    Option.bind (gidx x_5 x_37) fun x_41 =>
    if decide (x_41.X ≠ x_32.2.1) then
      some (.done (.b ()))
    else
      some (.next (IntKind.i64.wrap (x_32.1 + x_41.C), x_41.Y, IntKind.i64.wrap (x_32.2.2 + 1)))
  else
    some (.done (.a (x_32.1, x_32.2.1)))
theorem cert_Circle_v2_L1F_le (cycle_2 : Sl Int) (x_5 : Sl Gdiff_Leq) (x_32 : Int × Int × Int) : Le (cert_Circle_v2_L1F cycle_2 x_5 x_32) (cert_Circle_v2_L1 cycle_2 x_5 x_32) := by
  unfold cert_Circle_v2_L1F cert_Circle_v2_L1
  repeat (first | with_reducible exact Le.refl _ | (refine Le.loop (fun _ => ?_) _) | (with_reducible refine Le.bind ?_ (fun _ => ?_)) | (with_reducible refine Le.ite ?_ ?_) | (split <;> with_reducible exact Le.refl _) | (rename_i y; cases y <;> simp only))
def cert_Circle_v2F (cycle_2 : Sl Int) (x_5 : Sl Gdiff_Leq) : Option Bool :=
  Option.bind (if (decide (cycle_2.len = 0) || decide (65536 < cycle_2.len)) then
      some true
    else
      Option.bind (slices_ContainsFunc_v4F cycle_2 x_5) fun r_12 =>
      some r_12) fun y_11 =>
  if y_11 then
    some false
  else
    Option.bind (gidx cycle_2 0) fun x_24 =>
    Option.bind (gidx x_5 x_24) fun x_28 =>
    Option.bind (iterL (cert_Circle_v2_L1F cycle_2 x_5) 1000 (0, x_28.X, 0)) fun y_50 =>
    match y_50 with
    | .a y_51 =>
      some (decide (y_51.2 = x_28.X) && decide (y_51.1 < 0))
    | .b y_61 =>
      some false
theorem cert_Circle_v2F_le (cycle_2 : Sl Int) (x_5 : Sl Gdiff_Leq) : Le (cert_Circle_v2F cycle_2 x_5) (cert_Circle_v2 cycle_2 x_5) := by
  unfold cert_Circle_v2F cert_Circle_v2
  repeat (first | with_reducible exact Le.refl _ | (with_reducible apply slices_ContainsFunc_v4F_le) | (with_reducible apply cert_Circle_v2_L1F_le) | (refine Le.loop (fun _ => ?_) _) | (with_reducible refine Le.bind ?_ (fun _ => ?_)) | (with_reducible refine Le.ite ?_ ?_) | (split <;> with_reducible exact Le.refl _) | (rename_i y; cases y <;> simp only))
def cert_Holds_1_v2F (f_2 : Gdiff_Leq) (x_6 : Sl Int) : Option Bool :=
  if (((decide (f_2.X < 0) || decide (x_6.len ≤ f_2.X)) || decide (f_2.Y < 0)) || decide (x_6.len ≤ f_2.Y)) then
    some true
  else
    Option.bind (gidx x_6 f_2.X) fun x_14 =>
    Option.bind (gidx x_6 f_2.Y) fun x_18 =>
    Option.bind (cert_withinF f_2.C 17592186044416) fun r_22 =>
    Option.bind (if !(decide (f_2.C ≤ 17592186044416) && decide ((IntKind.i64.wrap (0 - 17592186044416)) ≤ f_2.C)) then
        some true
      else
        Option.bind (cert_withinF x_14 4503599627370496) fun r_31 =>
        some (!(decide (x_14 ≤ 4503599627370496) && decide ((IntKind.i64.wrap (0 - 4503599627370496)) ≤ x_14)))) fun y_30 =>
    Option.bind (if y_30 then
        some true
      else
        Option.bind (cert_withinF x_18 4503599627370496) fun r_43 =>
        some (!(decide (x_18 ≤ 4503599627370496) && decide ((IntKind.i64.wrap (0 - 4503599627370496)) ≤ x_18)))) fun y_42 =>
    some (y_42 || decide (f_2.C < (IntKind.i64.wrap (x_14 - x_18))))
theorem cert_Holds_1_v2F_le (f_2 : Gdiff_Leq) (x_6 : Sl Int) : Le (cert_Holds_1_v2F f_2 x_6) (cert_Holds_1_v2 f_2 x_6) := by
  unfold cert_Holds_1_v2F cert_Holds_1_v2
  repeat (first | with_reducible exact Le.refl _ | (with_reducible apply cert_withinF_le) | (refine Le.loop (fun _ => ?_) _) | (with_reducible refine Le.bind ?_ (fun _ => ?_)) | (with_reducible refine Le.ite ?_ ?_) | (split <;> with_reducible exact Le.refl _) | (rename_i y; cases y <;> simp only))
def slices_IndexFunc_v5_L1F (x_2 : Sl Gdiff_Leq) (x_5 : Sl Int) (x_6 : Int) : Option (Step Int (W2 Unit Int)) :=
  if decide (x_6 < x_2.len) then
    Option.bind (gidx x_2 x_6) fun x_11 =>
    Option.bind (cert_Holds_1_v2F x_11 x_5) fun r_15 =>
    if r_15 then
      some (.done (.b x_6))
    else
      some (.next (IntKind.i64.wrap (x_6 + 1)))
  else
    some (.done (.a ()))
theorem slices_IndexFunc_v5_L1F_le (x_2 : Sl Gdiff_Leq) (x_5 : Sl Int) (x_6 : Int) : Le (slices_IndexFunc_v5_L1F x_2 x_5 x_6) (slices_IndexFunc_v5_L1 x_2 x_5 x_6) := by
  unfold slices_IndexFunc_v5_L1F slices_IndexFunc_v5_L1
  repeat (first | with_reducible exact Le.refl _ | (with_reducible apply cert_Holds_1_v2F_le) | (refine Le.loop (fun _ => ?_) _) | (with_reducible refine Le.bind ?_ (fun _ => ?_)) | (with_reducible refine Le.ite ?_ ?_) | (split <;> with_reducible exact Le.refl _) | (rename_i y; cases y <;> simp only))
def slices_IndexFunc_v5F (x_2 : Sl Gdiff_Leq) (x_5 : Sl Int) : Option Int :=
  Option.bind (iterL (slices_IndexFunc_v5_L1F x_2 x_5) 1000 0) fun y_23 =>
  match y_23 with
  | .a y_24 =>
    some (-1)
  | .b y_28 =>
    some y_28
theorem slices_IndexFunc_v5F_le (x_2 : Sl Gdiff_Leq) (x_5 : Sl Int) : Le (slices_IndexFunc_v5F x_2 x_5) (slices_IndexFunc_v5 x_2 x_5) := by
  unfold slices_IndexFunc_v5F slices_IndexFunc_v5
  repeat (first | with_reducible exact Le.refl _ | (with_reducible apply slices_IndexFunc_v5_L1F_le) | (refine Le.loop (fun _ => ?_) _) | (with_reducible refine Le.bind ?_ (fun _ => ?_)) | (with_reducible refine Le.ite ?_ ?_) | (split <;> with_reducible exact Le.refl _) | (rename_i y; cases y <;> simp only))
def slices_ContainsFunc_v5F (x_2 : Sl Gdiff_Leq) (x_5 : Sl Int) : Option Bool :=
  Option.bind (slices_IndexFunc_v5F x_2 x_5) fun r_6 =>
  some (decide (0 ≤ r_6))
theorem slices_ContainsFunc_v5F_le (x_2 : Sl Gdiff_Leq) (x_5 : Sl Int) : Le (slices_ContainsFunc_v5F x_2 x_5) (slices_ContainsFunc_v5 x_2 x_5) := by
  unfold slices_ContainsFunc_v5F slices_ContainsFunc_v5
  repeat (first | with_reducible exact Le.refl _ | (with_reducible apply slices_IndexFunc_v5F_le) | (refine Le.loop (fun _ => ?_) _) | (with_reducible refine Le.bind ?_ (fun _ => ?_)) | (with_reducible refine Le.ite ?_ ?_) | (split <;> with_reducible exact Le.refl _) | (rename_i y; cases y <;> simp only))
def cert_Holds_v2F (x_2 : Sl Int) (x_4 : Sl Gdiff_Leq) : Option Bool :=
  Option.bind (slices_ContainsFunc_v5F x_4 x_2) fun r_8 =>
  some (!r_8)
theorem cert_Holds_v2F_le (x_2 : Sl Int) (x_4 : Sl Gdiff_Leq) : Le (cert_Holds_v2F x_2 x_4) (cert_Holds_v2 x_2 x_4) := by
  unfold cert_Holds_v2F cert_Holds_v2
  repeat (first | with_reducible exact Le.refl _ | (with_reducible apply slices_ContainsFunc_v5F_le) | (refine Le.loop (fun _ => ?_) _) | (with_reducible refine Le.bind ?_ (fun _ => ?_)) | (with_reducible refine Le.ite ?_ ?_) | (split <;> with_reducible exact Le.refl _) | (rename_i y; cases y <;> simp only))
def cert_Check_v2F (Yes_1 : Bool) (Cycle_3 : Sl Int) (x_6 : Sl Int) (n_7 : Int) (goal_9 : Gdiff_Leq) (x_12 : Sl Gdiff_Leq) : Option Bool :=
  Option.bind (diff_EntailsF n_7 goal_9 x_12) fun r_18 =>
  if decide (r_18.2 ≠ 0) then
    some false
  else
    if Yes_1 then
      Option.bind (if decide (x_6.len = 0) then
          Option.bind (slices_CloneF x_12) fun r_30 =>
          Option.bind (cert_turnedF goal_9) fun r_40 =>
          Option.bind (gapp 24 r_30 [(⟨goal_9.Y, goal_9.X, IntKind.i64.wrap ((IntKind.i64.wrap (0 - goal_9.C)) - 1)⟩ : Gdiff_Leq)]) fun s_52 =>
          Option.bind (cert_Circle_v2F Cycle_3 s_52) fun r_56 =>
          some r_56
        else
          some false) fun y_29 =>
      some y_29
    else
      Option.bind (if (decide (Cycle_3.len = 0) && decide (x_6.len = n_7)) then
          Option.bind (slices_CloneF x_12) fun r_72 =>
          Option.bind (cert_turnedF goal_9) fun r_82 =>
          Option.bind (gapp 24 r_72 [(⟨goal_9.Y, goal_9.X, IntKind.i64.wrap ((IntKind.i64.wrap (0 - goal_9.C)) - 1)⟩ : Gdiff_Leq)]) fun s_94 =>
          Option.bind (cert_Holds_v2F x_6 s_94) fun r_98 =>
          some r_98
        else
          some false) fun y_71 =>
      some y_71
theorem cert_Check_v2F_le (Yes_1 : Bool) (Cycle_3 : Sl Int) (x_6 : Sl Int) (n_7 : Int) (goal_9 : Gdiff_Leq) (x_12 : Sl Gdiff_Leq) : Le (cert_Check_v2F Yes_1 Cycle_3 x_6 n_7 goal_9 x_12) (cert_Check_v2 Yes_1 Cycle_3 x_6 n_7 goal_9 x_12) := by
  unfold cert_Check_v2F cert_Check_v2
  repeat (first | with_reducible exact Le.refl _ | (with_reducible apply diff_EntailsF_le) | (with_reducible apply slices_CloneF_le) | (with_reducible apply cert_turnedF_le) | (with_reducible apply cert_Circle_v2F_le) | (with_reducible apply cert_Holds_v2F_le) | (refine Le.loop (fun _ => ?_) _) | (with_reducible refine Le.bind ?_ (fun _ => ?_)) | (with_reducible refine Le.ite ?_ ?_) | (split <;> with_reducible exact Le.refl _) | (rename_i y; cases y <;> simp only))
def lychgatelaw05_wakesF  : Option Bool :=
  Option.bind (cert_CheckF true (⟨[0, 1, 2], true⟩ : Sl Int) (⟨[], false⟩ : Sl Int) 3 (⟨0, 2, 5⟩ : Gdiff_Leq) (⟨[(⟨0, 1, 2⟩ : Gdiff_Leq), (⟨1, 2, 3⟩ : Gdiff_Leq)], true⟩ : Sl Gdiff_Leq)) fun r_6 =>
  Option.bind (if r_6 then
      Option.bind (cert_Check_v2F false (⟨[], false⟩ : Sl Int) (⟨[5, 3, 0], true⟩ : Sl Int) 3 (⟨0, 2, 4⟩ : Gdiff_Leq) (⟨[(⟨0, 1, 2⟩ : Gdiff_Leq), (⟨1, 2, 3⟩ : Gdiff_Leq)], true⟩ : Sl Gdiff_Leq)) fun r_18 =>
      some r_18
    else
      some false) fun y_14 =>
  Option.bind (if y_14 then
      Option.bind (cert_CheckF true (⟨[0, 1, 2], true⟩ : Sl Int) (⟨[], false⟩ : Sl Int) 3 (⟨0, 2, 4⟩ : Gdiff_Leq) (⟨[(⟨0, 1, 2⟩ : Gdiff_Leq), (⟨1, 2, 3⟩ : Gdiff_Leq)], true⟩ : Sl Gdiff_Leq)) fun r_33 =>
      some (!r_33)
    else
      some false) fun y_29 =>
  some y_29
theorem lychgatelaw05_wakesF_le  : Le (lychgatelaw05_wakesF ) (lychgatelaw05_wakes ) := by
  unfold lychgatelaw05_wakesF lychgatelaw05_wakes
  repeat (first | with_reducible exact Le.refl _ | (with_reducible apply cert_CheckF_le) | (with_reducible apply cert_Check_v2F_le) | (refine Le.loop (fun _ => ?_) _) | (with_reducible refine Le.bind ?_ (fun _ => ?_)) | (with_reducible refine Le.ite ?_ ?_) | (split <;> with_reducible exact Le.refl _) | (rename_i y; cases y <;> simp only))
theorem lychgatelaw05_wakes_val : lychgatelaw05_wakes = some true := lychgatelaw05_wakesF_le _ (by decide +kernel)
end Go.Px
