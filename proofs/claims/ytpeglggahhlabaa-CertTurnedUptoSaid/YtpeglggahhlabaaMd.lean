/- The pure models. -/
import Derived.Test.YtpeglggahhlabaaTy
namespace Go.Px
open Go.Proofs
set_option linter.unusedVariables false
noncomputable def slices_Clone (x_2 : Sl Gdiff_Leq) : Option ((Sl Gdiff_Leq)) :=
  if !x_2.nn then
    some (⟨[], false⟩ : Sl Gdiff_Leq)
  else
    Option.bind (gapp 24 (⟨[], true⟩ : Sl Gdiff_Leq) x_2.xs) fun s_8 =>
    some s_8
noncomputable def diff_fit_1 (f_2 : Gdiff_Leq) (f_5 : Int) : Option Unit :=
  some ()
noncomputable def slices_IndexFunc_L1 (f_4 : Int) (x_2 : Sl Gdiff_Leq) (x_5 : Int) : Option (Step Int (W2 Unit Int)) :=
  if decide (x_5 < x_2.len) then
    Option.bind (gidx x_2 x_5) fun x_10 =>
    Option.bind (diff_fit_1 x_10 f_4) fun r_14 =>
    if (((((decide (x_10.X < 0) || decide (f_4 ≤ x_10.X)) || decide (x_10.Y < 0)) || decide (f_4 ≤ x_10.Y)) || decide (8796093022208 < x_10.C)) || decide (x_10.C < (-8796093022208))) then
      some (.done (.b x_5))
    else
      some (.next (IntKind.i64.wrap (x_5 + 1)))
  else
    some (.done (.a ()))
noncomputable def slices_IndexFunc (x_2 : Sl Gdiff_Leq) (f_4 : Int) : Option Int :=
  Option.bind (loopO (slices_IndexFunc_L1 f_4 x_2) 0) fun y_22 =>
  match y_22 with
  | .a y_23 =>
    some (-1)
  | .b y_27 =>
    some y_27
noncomputable def slices_ContainsFunc (x_2 : Sl Gdiff_Leq) (f_4 : Int) : Option Bool :=
  Option.bind (slices_IndexFunc x_2 f_4) fun r_5 =>
  some (decide (0 ≤ r_5))
noncomputable def diff_fit (n_1 : Int) (x_3 : Sl Gdiff_Leq) : Option Int :=
  if decide (768 < x_3.len) then
    some 22
  else
    if (decide (n_1 < 1) || decide (96 < n_1)) then
      some 2
    else
      Option.bind (slices_ContainsFunc x_3 n_1) fun r_9 =>
      if r_9 then
        some 2
      else
        some 0
noncomputable def diff_solve_K1 (k_39 : Sl Int) (k_43 : Sl Int) (x_17 : (Sl Int) × (Sl Int) × Int × Int) (y_45 : Unit) : Option ((Sl Int) × (Sl Int) × Int) :=
  (some (k_39, k_43, x_17.2.2.2) : Option ((Sl Int) × (Sl Int) × Int))
noncomputable def diff_solve_L1 (x_3 : Sl Gdiff_Leq) (x_17 : (Sl Int) × (Sl Int) × Int × Int) : Option (Step ((Sl Int) × (Sl Int) × Int × Int) ((Sl Int) × (Sl Int) × Int)) :=
  if decide (x_17.2.2.2 < x_3.len) then
    Option.bind (
        Option.bind (gidx x_3 x_17.2.2.2) fun x_22 =>
        Option.bind (gidx x_17.1 x_22.Y) fun x_29 =>
        Option.bind (gidx x_17.1 x_22.X) fun x_33 =>
        Option.bind (
            if decide ((IntKind.i64.wrap (x_29 + x_22.C)) < x_33) then
              Option.bind (gset x_17.1 x_22.X (IntKind.i64.wrap (x_29 + x_22.C))) fun k_39 =>
              Option.bind (gidx x_17.2.1 x_22.X) fun k_41 =>
              Option.bind (gset x_17.2.1 x_22.X x_17.2.2.2) fun k_43 =>
              diff_solve_K1 k_39 k_43 x_17 ()
            else
              (some (x_17.1, x_17.2.1, x_17.2.2.1) : Option ((Sl Int) × (Sl Int) × Int))) fun y_62 =>
        (some (y_62.1, y_62.2.1, y_62.2.2) : Option ((Sl Int) × (Sl Int) × Int))) fun y_66 =>
    some (.next (y_66.1, y_66.2.1, y_66.2.2, IntKind.i64.wrap (x_17.2.2.2 + 1)))
  else
    some (.done (x_17.1, x_17.2.1, x_17.2.2.1))
noncomputable def diff_solve_L2 (n_1 : Int) (x_3 : Sl Gdiff_Leq) (x_12 : (Sl Int) × (Sl Int) × Int × Int) : Option (Step ((Sl Int) × (Sl Int) × Int × Int) (W2 ((Sl Int) × Int) ((Sl Int)))) :=
  if decide (x_12.2.2.2 < n_1) then
    Option.bind (loopO (diff_solve_L1 x_3) (x_12.1, x_12.2.1, (-1), 0)) fun y_70 =>
    if decide (y_70.2.2 < 0) then
      some (.done (.b y_70.1))
    else
      some (.next (y_70.1, y_70.2.1, y_70.2.2, IntKind.i64.wrap (x_12.2.2.2 + 1)))
  else
    some (.done (.a (x_12.2.1, x_12.2.2.1)))
noncomputable def diff_solve_L3 (n_1 : Int) (x_3 : Sl Gdiff_Leq) (y_76 : (Sl Int) × Int) (x_84 : Int × Int) : Option (Step (Int × Int) Int) :=
  if decide (x_84.2 < n_1) then
    Option.bind (gidx y_76.1 x_84.1) fun x_89 =>
    Option.bind (gidx x_3 x_89) fun x_93 =>
    some (.next (x_93.Y, IntKind.i64.wrap (x_84.2 + 1)))
  else
    some (.done x_84.1)
noncomputable def diff_solve_L4 (x_3 : Sl Gdiff_Leq) (y_76 : (Sl Int) × Int) (y_97 : Int) (x_102 : (Sl Int) × Int) : Option (Step ((Sl Int) × Int) ((Sl Int))) :=
  Option.bind (gidx y_76.1 x_102.2) fun x_108 =>
  Option.bind (gapp 8 x_102.1 [x_108]) fun s_115 =>
  Option.bind (gidx x_3 x_108) fun x_117 =>
  if decide (x_117.Y = y_97) then
    some (.done s_115)
  else
    some (.next (s_115, x_117.Y))
noncomputable def diff_solve (n_1 : Int) (x_3 : Sl Gdiff_Leq) : Option ((Sl Int) × (Sl Int)) :=
  Option.bind (gmake 8 n_1 0) fun s_6 =>
  Option.bind (loopO (diff_solve_L2 n_1 x_3) (s_6, s_6, (-1), 0)) fun y_75 =>
  match y_75 with
  | .a y_76 =>
    Option.bind (gidx x_3 y_76.2) fun x_80 =>
    Option.bind (loopO (diff_solve_L3 n_1 x_3 y_76) (x_80.X, 0)) fun y_97 =>
    Option.bind (loopO (diff_solve_L4 x_3 y_76 y_97) ((⟨[], false⟩ : Sl Int), y_97)) fun y_122 =>
    some ((⟨[], false⟩ : Sl Int), y_122)
  | .b y_129 =>
    some (y_129, (⟨[], false⟩ : Sl Int))
noncomputable def diff_Entails_K1 (goal_3 : Gdiff_Leq) (k_12 : Sl Gdiff_Leq) (n_1 : Int) (x_6 : Sl Gdiff_Leq) (y_14 : Unit) : Option (Bool × Int) :=
  Option.bind (diff_fit n_1 k_12) fun r_20 =>
  if decide (r_20 ≠ 0) then
    some (false, r_20)
  else
    if decide (goal_3.C = 8796093022208) then
      some (false, 2)
    else
      Option.bind (gidx k_12 x_6.len) fun x_29 =>
      Option.bind (gset k_12 x_6.len (⟨goal_3.Y, goal_3.X, IntKind.i64.wrap ((IntKind.i64.wrap (0 - goal_3.C)) - 1)⟩ : Gdiff_Leq)) fun s_31 =>
      Option.bind (diff_solve n_1 s_31) fun r_33 =>
      some (r_33.2.nn, 0)
noncomputable def diff_Entails (n_1 : Int) (goal_3 : Gdiff_Leq) (x_6 : Sl Gdiff_Leq) : Option (Bool × Int) :=
  Option.bind (slices_Clone x_6) fun k_10 =>
  Option.bind (gapp 24 k_10 [goal_3]) fun k_12 =>
  diff_Entails_K1 goal_3 k_12 n_1 x_6 ()
noncomputable def cert_turned (goal_2 : Gdiff_Leq) : Option Unit :=
  some ()
noncomputable def cert_within (n_1 : Int) (most_2 : Int) : Option Unit :=
  some ()
noncomputable def cert_Circle_1 (k_1 : Int) (x_4 : Sl Gdiff_Leq) : Option Bool :=
  Option.bind (if (decide (k_1 < 0) || decide (x_4.len ≤ k_1)) then
      some true
    else
      Option.bind (gidx x_4 k_1) fun x_8 =>
      Option.bind (cert_within x_8.C 17592186044416) fun r_12 =>
      some (!(decide (x_8.C ≤ 17592186044416) && decide ((IntKind.i64.wrap (0 - 17592186044416)) ≤ x_8.C)))) fun y_7 =>
  some y_7
noncomputable def slices_IndexFunc_v2_L1 (x_2 : Sl Int) (x_5 : Sl Gdiff_Leq) (x_6 : Int) : Option (Step Int (W2 Unit Int)) :=
  if decide (x_6 < x_2.len) then
    Option.bind (gidx x_2 x_6) fun x_11 =>
    Option.bind (cert_Circle_1 x_11 x_5) fun r_15 =>
    if r_15 then
      some (.done (.b x_6))
    else
      some (.next (IntKind.i64.wrap (x_6 + 1)))
  else
    some (.done (.a ()))
noncomputable def slices_IndexFunc_v2 (x_2 : Sl Int) (x_5 : Sl Gdiff_Leq) : Option Int :=
  Option.bind (loopO (slices_IndexFunc_v2_L1 x_2 x_5) 0) fun y_23 =>
  match y_23 with
  | .a y_24 =>
    some (-1)
  | .b y_28 =>
    some y_28
noncomputable def slices_ContainsFunc_v2 (x_2 : Sl Int) (x_5 : Sl Gdiff_Leq) : Option Bool :=
  Option.bind (slices_IndexFunc_v2 x_2 x_5) fun r_6 =>
  some (decide (0 ≤ r_6))
noncomputable def cert_Circle_L1 (x_2 : Sl Int) (x_4 : Sl Gdiff_Leq) (x_31 : Int × Int × Int) : Option (Step (Int × Int × Int) (W2 (Int × Int) Unit)) :=
  if decide (x_31.2.2 < x_2.len) then
    Option.bind (gidx x_2 x_31.2.2) fun x_36 =>
    Option.bind (gidx x_4 x_36) fun x_40 =>
    if decide (x_40.X ≠ x_31.2.1) then
      some (.done (.b ()))
    else
      some (.next (IntKind.i64.wrap (x_31.1 + x_40.C), x_40.Y, IntKind.i64.wrap (x_31.2.2 + 1)))
  else
    some (.done (.a (x_31.1, x_31.2.1)))
noncomputable def cert_Circle (x_2 : Sl Int) (x_4 : Sl Gdiff_Leq) : Option Bool :=
  Option.bind (if (decide (x_2.len = 0) || decide (65536 < x_2.len)) then
      some true
    else
      Option.bind (slices_ContainsFunc_v2 x_2 x_4) fun r_11 =>
      some r_11) fun y_10 =>
  if y_10 then
    some false
  else
    Option.bind (gidx x_2 0) fun x_23 =>
    Option.bind (gidx x_4 x_23) fun x_27 =>
    Option.bind (loopO (cert_Circle_L1 x_2 x_4) (0, x_27.X, 0)) fun y_49 =>
    match y_49 with
    | .a y_50 =>
      some (decide (y_50.2 = x_27.X) && decide (y_50.1 < 0))
    | .b y_60 =>
      some false
noncomputable def cert_Holds_1 (f_2 : Gdiff_Leq) (f_6 : Sl Int) : Option Bool :=
  if (((decide (f_2.X < 0) || decide (f_6.len ≤ f_2.X)) || decide (f_2.Y < 0)) || decide (f_6.len ≤ f_2.Y)) then
    some true
  else
    Option.bind (gidx f_6 f_2.X) fun x_15 =>
    Option.bind (gidx f_6 f_2.Y) fun x_19 =>
    Option.bind (cert_within f_2.C 17592186044416) fun r_23 =>
    Option.bind (if !(decide (f_2.C ≤ 17592186044416) && decide ((IntKind.i64.wrap (0 - 17592186044416)) ≤ f_2.C)) then
        some true
      else
        Option.bind (cert_within x_15 4503599627370496) fun r_32 =>
        some (!(decide (x_15 ≤ 4503599627370496) && decide ((IntKind.i64.wrap (0 - 4503599627370496)) ≤ x_15)))) fun y_31 =>
    Option.bind (if y_31 then
        some true
      else
        Option.bind (cert_within x_19 4503599627370496) fun r_44 =>
        some (!(decide (x_19 ≤ 4503599627370496) && decide ((IntKind.i64.wrap (0 - 4503599627370496)) ≤ x_19)))) fun y_43 =>
    some (y_43 || decide (f_2.C < (IntKind.i64.wrap (x_15 - x_19))))
noncomputable def slices_IndexFunc_v3_L1 (f_5 : Sl Int) (x_2 : Sl Gdiff_Leq) (x_7 : Int) : Option (Step Int (W2 Unit Int)) :=
  if decide (x_7 < x_2.len) then
    Option.bind (gidx x_2 x_7) fun x_12 =>
    Option.bind (cert_Holds_1 x_12 f_5) fun r_16 =>
    if r_16 then
      some (.done (.b x_7))
    else
      some (.next (IntKind.i64.wrap (x_7 + 1)))
  else
    some (.done (.a ()))
noncomputable def slices_IndexFunc_v3 (x_2 : Sl Gdiff_Leq) (f_5 : Sl Int) : Option Int :=
  Option.bind (loopO (slices_IndexFunc_v3_L1 f_5 x_2) 0) fun y_24 =>
  match y_24 with
  | .a y_25 =>
    some (-1)
  | .b y_29 =>
    some y_29
noncomputable def slices_ContainsFunc_v3 (x_2 : Sl Gdiff_Leq) (f_5 : Sl Int) : Option Bool :=
  Option.bind (slices_IndexFunc_v3 x_2 f_5) fun r_7 =>
  some (decide (0 ≤ r_7))
noncomputable def cert_Holds (numbers_2 : Sl Int) (x_5 : Sl Gdiff_Leq) : Option Bool :=
  Option.bind (slices_ContainsFunc_v3 x_5 numbers_2) fun r_8 =>
  some (!r_8)
noncomputable def cert_Check (Yes_1 : Bool) (x_3 : Sl Int) (Numbers_5 : Sl Int) (n_7 : Int) (goal_9 : Gdiff_Leq) (x_12 : Sl Gdiff_Leq) : Option Bool :=
  Option.bind (diff_Entails n_7 goal_9 x_12) fun r_18 =>
  if decide (r_18.2 ≠ 0) then
    some false
  else
    if Yes_1 then
      Option.bind (if decide (Numbers_5.len = 0) then
          Option.bind (slices_Clone x_12) fun r_30 =>
          Option.bind (cert_turned goal_9) fun r_40 =>
          Option.bind (gapp 24 r_30 [(⟨goal_9.Y, goal_9.X, IntKind.i64.wrap ((IntKind.i64.wrap (0 - goal_9.C)) - 1)⟩ : Gdiff_Leq)]) fun s_52 =>
          Option.bind (cert_Circle x_3 s_52) fun r_56 =>
          some r_56
        else
          some false) fun y_29 =>
      some y_29
    else
      Option.bind (if (decide (x_3.len = 0) && decide (Numbers_5.len = n_7)) then
          Option.bind (slices_Clone x_12) fun r_73 =>
          Option.bind (cert_turned goal_9) fun r_83 =>
          Option.bind (gapp 24 r_73 [(⟨goal_9.Y, goal_9.X, IntKind.i64.wrap ((IntKind.i64.wrap (0 - goal_9.C)) - 1)⟩ : Gdiff_Leq)]) fun s_95 =>
          Option.bind (cert_Holds Numbers_5 s_95) fun r_99 =>
          some r_99
        else
          some false) fun y_72 =>
      some y_72
noncomputable def slices_IndexFunc_v4_L1 (s_2 : Sl Int) (x_6 : Sl Gdiff_Leq) (x_7 : Int) : Option (Step Int (W2 Unit Int)) :=
  if decide (x_7 < s_2.len) then
    Option.bind (gidx s_2 x_7) fun x_12 =>
    Option.bind (cert_Circle_1 x_12 x_6) fun r_16 =>
    if r_16 then
      some (.done (.b x_7))
    else
      some (.next (IntKind.i64.wrap (x_7 + 1)))
  else
    some (.done (.a ()))
noncomputable def slices_IndexFunc_v4 (s_2 : Sl Int) (x_6 : Sl Gdiff_Leq) : Option Int :=
  Option.bind (loopO (slices_IndexFunc_v4_L1 s_2 x_6) 0) fun y_24 =>
  match y_24 with
  | .a y_25 =>
    some (-1)
  | .b y_29 =>
    some y_29
noncomputable def slices_ContainsFunc_v4 (s_2 : Sl Int) (x_6 : Sl Gdiff_Leq) : Option Bool :=
  Option.bind (slices_IndexFunc_v4 s_2 x_6) fun r_7 =>
  some (decide (0 ≤ r_7))
noncomputable def cert_Circle_v2_L1 (cycle_2 : Sl Int) (x_5 : Sl Gdiff_Leq) (x_32 : Int × Int × Int) : Option (Step (Int × Int × Int) (W2 (Int × Int) Unit)) :=
  if decide (x_32.2.2 < cycle_2.len) then
    Option.bind (gidx cycle_2 x_32.2.2) fun x_37 =>
    Option.bind (gidx x_5 x_37) fun x_41 =>
    if decide (x_41.X ≠ x_32.2.1) then
      some (.done (.b ()))
    else
      some (.next (IntKind.i64.wrap (x_32.1 + x_41.C), x_41.Y, IntKind.i64.wrap (x_32.2.2 + 1)))
  else
    some (.done (.a (x_32.1, x_32.2.1)))
noncomputable def cert_Circle_v2 (cycle_2 : Sl Int) (x_5 : Sl Gdiff_Leq) : Option Bool :=
  Option.bind (if (decide (cycle_2.len = 0) || decide (65536 < cycle_2.len)) then
      some true
    else
      Option.bind (slices_ContainsFunc_v4 cycle_2 x_5) fun r_12 =>
      some r_12) fun y_11 =>
  if y_11 then
    some false
  else
    Option.bind (gidx cycle_2 0) fun x_24 =>
    Option.bind (gidx x_5 x_24) fun x_28 =>
    Option.bind (loopO (cert_Circle_v2_L1 cycle_2 x_5) (0, x_28.X, 0)) fun y_50 =>
    match y_50 with
    | .a y_51 =>
      some (decide (y_51.2 = x_28.X) && decide (y_51.1 < 0))
    | .b y_61 =>
      some false
noncomputable def cert_Holds_1_v2 (f_2 : Gdiff_Leq) (x_6 : Sl Int) : Option Bool :=
  if (((decide (f_2.X < 0) || decide (x_6.len ≤ f_2.X)) || decide (f_2.Y < 0)) || decide (x_6.len ≤ f_2.Y)) then
    some true
  else
    Option.bind (gidx x_6 f_2.X) fun x_14 =>
    Option.bind (gidx x_6 f_2.Y) fun x_18 =>
    Option.bind (cert_within f_2.C 17592186044416) fun r_22 =>
    Option.bind (if !(decide (f_2.C ≤ 17592186044416) && decide ((IntKind.i64.wrap (0 - 17592186044416)) ≤ f_2.C)) then
        some true
      else
        Option.bind (cert_within x_14 4503599627370496) fun r_31 =>
        some (!(decide (x_14 ≤ 4503599627370496) && decide ((IntKind.i64.wrap (0 - 4503599627370496)) ≤ x_14)))) fun y_30 =>
    Option.bind (if y_30 then
        some true
      else
        Option.bind (cert_within x_18 4503599627370496) fun r_43 =>
        some (!(decide (x_18 ≤ 4503599627370496) && decide ((IntKind.i64.wrap (0 - 4503599627370496)) ≤ x_18)))) fun y_42 =>
    some (y_42 || decide (f_2.C < (IntKind.i64.wrap (x_14 - x_18))))
noncomputable def slices_IndexFunc_v5_L1 (x_2 : Sl Gdiff_Leq) (x_5 : Sl Int) (x_6 : Int) : Option (Step Int (W2 Unit Int)) :=
  if decide (x_6 < x_2.len) then
    Option.bind (gidx x_2 x_6) fun x_11 =>
    Option.bind (cert_Holds_1_v2 x_11 x_5) fun r_15 =>
    if r_15 then
      some (.done (.b x_6))
    else
      some (.next (IntKind.i64.wrap (x_6 + 1)))
  else
    some (.done (.a ()))
noncomputable def slices_IndexFunc_v5 (x_2 : Sl Gdiff_Leq) (x_5 : Sl Int) : Option Int :=
  Option.bind (loopO (slices_IndexFunc_v5_L1 x_2 x_5) 0) fun y_23 =>
  match y_23 with
  | .a y_24 =>
    some (-1)
  | .b y_28 =>
    some y_28
noncomputable def slices_ContainsFunc_v5 (x_2 : Sl Gdiff_Leq) (x_5 : Sl Int) : Option Bool :=
  Option.bind (slices_IndexFunc_v5 x_2 x_5) fun r_6 =>
  some (decide (0 ≤ r_6))
noncomputable def cert_Holds_v2 (x_2 : Sl Int) (x_4 : Sl Gdiff_Leq) : Option Bool :=
  Option.bind (slices_ContainsFunc_v5 x_4 x_2) fun r_8 =>
  some (!r_8)
noncomputable def cert_Check_v2 (Yes_1 : Bool) (Cycle_3 : Sl Int) (x_6 : Sl Int) (n_7 : Int) (goal_9 : Gdiff_Leq) (x_12 : Sl Gdiff_Leq) : Option Bool :=
  Option.bind (diff_Entails n_7 goal_9 x_12) fun r_18 =>
  if decide (r_18.2 ≠ 0) then
    some false
  else
    if Yes_1 then
      Option.bind (if decide (x_6.len = 0) then
          Option.bind (slices_Clone x_12) fun r_30 =>
          Option.bind (cert_turned goal_9) fun r_40 =>
          Option.bind (gapp 24 r_30 [(⟨goal_9.Y, goal_9.X, IntKind.i64.wrap ((IntKind.i64.wrap (0 - goal_9.C)) - 1)⟩ : Gdiff_Leq)]) fun s_52 =>
          Option.bind (cert_Circle_v2 Cycle_3 s_52) fun r_56 =>
          some r_56
        else
          some false) fun y_29 =>
      some y_29
    else
      Option.bind (if (decide (Cycle_3.len = 0) && decide (x_6.len = n_7)) then
          Option.bind (slices_Clone x_12) fun r_72 =>
          Option.bind (cert_turned goal_9) fun r_82 =>
          Option.bind (gapp 24 r_72 [(⟨goal_9.Y, goal_9.X, IntKind.i64.wrap ((IntKind.i64.wrap (0 - goal_9.C)) - 1)⟩ : Gdiff_Leq)]) fun s_94 =>
          Option.bind (cert_Holds_v2 x_6 s_94) fun r_98 =>
          some r_98
        else
          some false) fun y_71 =>
      some y_71
noncomputable def lychgatelaw05_wakes  : Option Bool :=
  Option.bind (cert_Check true (⟨[0, 1, 2], true⟩ : Sl Int) (⟨[], false⟩ : Sl Int) 3 (⟨0, 2, 5⟩ : Gdiff_Leq) (⟨[(⟨0, 1, 2⟩ : Gdiff_Leq), (⟨1, 2, 3⟩ : Gdiff_Leq)], true⟩ : Sl Gdiff_Leq)) fun r_6 =>
  Option.bind (if r_6 then
      Option.bind (cert_Check_v2 false (⟨[], false⟩ : Sl Int) (⟨[5, 3, 0], true⟩ : Sl Int) 3 (⟨0, 2, 4⟩ : Gdiff_Leq) (⟨[(⟨0, 1, 2⟩ : Gdiff_Leq), (⟨1, 2, 3⟩ : Gdiff_Leq)], true⟩ : Sl Gdiff_Leq)) fun r_18 =>
      some r_18
    else
      some false) fun y_14 =>
  Option.bind (if y_14 then
      Option.bind (cert_Check true (⟨[0, 1, 2], true⟩ : Sl Int) (⟨[], false⟩ : Sl Int) 3 (⟨0, 2, 4⟩ : Gdiff_Leq) (⟨[(⟨0, 1, 2⟩ : Gdiff_Leq), (⟨1, 2, 3⟩ : Gdiff_Leq)], true⟩ : Sl Gdiff_Leq)) fun r_33 =>
      some (!r_33)
    else
      some false) fun y_29 =>
  some y_29
noncomputable def cert_Circle_1_v2 (k_1 : Int) (f_4 : Sl Gdiff_Leq) : Option Bool :=
  Option.bind (if (decide (k_1 < 0) || decide (f_4.len ≤ k_1)) then
      some true
    else
      Option.bind (gidx f_4 k_1) fun x_9 =>
      Option.bind (cert_within x_9.C 17592186044416) fun r_13 =>
      some (!(decide (x_9.C ≤ 17592186044416) && decide ((IntKind.i64.wrap (0 - 17592186044416)) ≤ x_9.C)))) fun y_8 =>
  some y_8
noncomputable def slices_IndexFunc_v6_L1 (f_6 : Sl Gdiff_Leq) (s_2 : Sl Int) (x_8 : Int) : Option (Step Int (W2 Unit Int)) :=
  if decide (x_8 < s_2.len) then
    Option.bind (gidx s_2 x_8) fun x_13 =>
    Option.bind (cert_Circle_1_v2 x_13 f_6) fun r_17 =>
    if r_17 then
      some (.done (.b x_8))
    else
      some (.next (IntKind.i64.wrap (x_8 + 1)))
  else
    some (.done (.a ()))
noncomputable def slices_IndexFunc_v6 (s_2 : Sl Int) (f_6 : Sl Gdiff_Leq) : Option Int :=
  Option.bind (loopO (slices_IndexFunc_v6_L1 f_6 s_2) 0) fun y_25 =>
  match y_25 with
  | .a y_26 =>
    some (-1)
  | .b y_30 =>
    some y_30
noncomputable def slices_ContainsFunc_v6 (s_2 : Sl Int) (f_6 : Sl Gdiff_Leq) : Option Bool :=
  Option.bind (slices_IndexFunc_v6 s_2 f_6) fun r_8 =>
  some (decide (0 ≤ r_8))
noncomputable def cert_Circle_v3_L1 (cycle_2 : Sl Int) (facts_5 : Sl Gdiff_Leq) (x_32 : Int × Int × Int) : Option (Step (Int × Int × Int) (W2 (Int × Int) Unit)) :=
  if decide (x_32.2.2 < cycle_2.len) then
    Option.bind (gidx cycle_2 x_32.2.2) fun x_37 =>
    Option.bind (gidx facts_5 x_37) fun x_41 =>
    if decide (x_41.X ≠ x_32.2.1) then
      some (.done (.b ()))
    else
      some (.next (IntKind.i64.wrap (x_32.1 + x_41.C), x_41.Y, IntKind.i64.wrap (x_32.2.2 + 1)))
  else
    some (.done (.a (x_32.1, x_32.2.1)))
noncomputable def cert_Circle_v3 (cycle_2 : Sl Int) (facts_5 : Sl Gdiff_Leq) : Option Bool :=
  Option.bind (if (decide (cycle_2.len = 0) || decide (65536 < cycle_2.len)) then
      some true
    else
      Option.bind (slices_ContainsFunc_v6 cycle_2 facts_5) fun r_12 =>
      some r_12) fun y_11 =>
  if y_11 then
    some false
  else
    Option.bind (gidx cycle_2 0) fun x_24 =>
    Option.bind (gidx facts_5 x_24) fun x_28 =>
    Option.bind (loopO (cert_Circle_v3_L1 cycle_2 facts_5) (0, x_28.X, 0)) fun y_50 =>
    match y_50 with
    | .a y_51 =>
      some (decide (y_51.2 = x_28.X) && decide (y_51.1 < 0))
    | .b y_61 =>
      some false
noncomputable def lychgatelaw05_CertTurned_L1 (steps_2 : Sl Int) (x_15 : (Sl Gdiff_Leq) × Int × Int) : Option (Step ((Sl Gdiff_Leq) × Int × Int) ((Sl Gdiff_Leq) × Int)) :=
  if decide (x_15.2.2 < (if 50 < steps_2.len then 50 else steps_2.len)) then
    Option.bind (gidx steps_2 x_15.2.2) fun x_22 =>
    Option.bind (gmod .i64 (IntKind.i64.wrap (x_15.2.2 + 1)) (if 50 < steps_2.len then 50 else steps_2.len)) fun q_26 =>
    Option.bind (gapp 24 x_15.1 [(⟨x_15.2.2, q_26, (if (-1099511627776) < (if 1099511627776 < x_22 then 1099511627776 else x_22) then (if 1099511627776 < x_22 then 1099511627776 else x_22) else (-1099511627776))⟩ : Gdiff_Leq)]) fun s_31 =>
    some (.next (s_31, IntKind.i64.wrap (x_15.2.1 + (if (-1099511627776) < (if 1099511627776 < x_22 then 1099511627776 else x_22) then (if 1099511627776 < x_22 then 1099511627776 else x_22) else (-1099511627776))), IntKind.i64.wrap (x_15.2.2 + 1)))
  else
    some (.done (x_15.1, x_15.2.1))
noncomputable def lychgatelaw05_CertTurned_L2 (q_39 : Int) (steps_2 : Sl Int) (x_42 : (Sl Int) × Int) : Option (Step ((Sl Int) × Int) ((Sl Int))) :=
  if decide (x_42.2 < (if 50 < steps_2.len then 50 else steps_2.len)) then
    Option.bind (gmod .i64 (IntKind.i64.wrap (x_42.2 + q_39)) (if 50 < steps_2.len then 50 else steps_2.len)) fun q_49 =>
    Option.bind (gapp 8 x_42.1 [q_49]) fun s_54 =>
    some (.next (s_54, IntKind.i64.wrap (x_42.2 + 1)))
  else
    some (.done x_42.1)
noncomputable def lychgatelaw05_CertTurned (steps_2 : Sl Int) (by_4 : Int) : Option Bool :=
  Option.bind (lychgatelaw05_wakes) fun r_5 =>
  if !r_5 then
    some false
  else
    if decide ((if 50 < steps_2.len then 50 else steps_2.len) < 2) then
      some true
    else
      Option.bind (loopO (lychgatelaw05_CertTurned_L1 steps_2) ((⟨[], false⟩ : Sl Gdiff_Leq), 0, 0)) fun y_33 =>
      Option.bind (gmod .i64 (if 0 < by_4 then by_4 else 0) (if 50 < steps_2.len then 50 else steps_2.len)) fun q_39 =>
      Option.bind (loopO (lychgatelaw05_CertTurned_L2 q_39 steps_2) ((⟨[], false⟩ : Sl Int), 0)) fun y_56 =>
      Option.bind (cert_Circle_v3 y_56 y_33.1) fun r_69 =>
      Option.bind (if (r_69 == (decide (y_33.2 < 0))) then
          Option.bind (gslice y_56 1 y_56.len) fun s_80 =>
          Option.bind (cert_Circle_v3 s_80 y_33.1) fun r_89 =>
          some (!r_89)
        else
          some false) fun y_79 =>
      Option.bind (if y_79 then
          Option.bind (gapp 8 y_56 y_56.xs) fun s_104 =>
          Option.bind (cert_Circle_v3 s_104 y_33.1) fun r_113 =>
          some (r_113 == (decide (y_33.2 < 0)))
        else
          some false) fun y_102 =>
      some y_102
end Go.Px
