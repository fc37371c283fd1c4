/- The pure models. -/
import Derived.Test.YtpeglggahhlabaaTy
namespace Go.Px
open Go.Proofs
set_option linter.unusedVariables false
noncomputable def slices_Clone (s_1 : Sl Gdiff_Leq) : Option (Sl Gdiff_Leq) :=
  if !s_1.nn then
    some (⟨[], false⟩ : Sl Gdiff_Leq)
  else
    Option.bind (gapp 24 (⟨[], true⟩ : Sl Gdiff_Leq) s_1.xs) fun s_8 =>
    some s_8
noncomputable def diff_fit_1 (f_1 : Gdiff_Leq) (a_4 : Int) : Option Bool :=
  some (((((decide (f_1.X < 0) || decide (a_4 ≤ f_1.X)) || decide (f_1.Y < 0)) || decide (a_4 ≤ f_1.Y)) || decide (8796093022208 < f_1.C)) || decide (f_1.C < (-8796093022208)))
noncomputable def slices_IndexFunc_L1 (f_4 : Gdiff_Leq → Option Bool) (s_1 : Sl Gdiff_Leq) (x_14 : Int) : Option (Step Int (W2 Unit Int)) :=
  if decide (x_14 < s_1.len) then
    Option.bind (gidx s_1 x_14) fun x_18 =>
    Option.bind (f_4 x_18) fun r_22 =>
    if r_22 then
      some (.done (.b x_14))
    else
      some (.next (IntKind.i64.wrap (x_14 + 1)))
  else
    some (.done (.a ()))
noncomputable def slices_IndexFunc (s_1 : Sl Gdiff_Leq) (f_4 : Gdiff_Leq → Option Bool) : Option Int :=
  Option.bind (loopO (slices_IndexFunc_L1 f_4 s_1) 0) fun y_30 =>
  match y_30 with
  | .a y_31 =>
    some (-1)
  | .b y_34 =>
    some y_34
noncomputable def slices_ContainsFunc (s_1 : Sl Gdiff_Leq) (f_4 : Gdiff_Leq → Option Bool) : Option Bool :=
  Option.bind (slices_IndexFunc s_1 f_4) fun r_14 =>
  some (decide (0 ≤ r_14))
noncomputable def diff_fit (n_1 : Int) (facts_2 : Sl Gdiff_Leq) : Option Int :=
  if decide (768 < facts_2.len) then
    some 22
  else
    if (decide (n_1 < 1) || decide (96 < n_1)) then
      some 2
    else
      Option.bind (slices_ContainsFunc facts_2 (fun x0 => diff_fit_1 x0 n_1)) fun r_13 =>
      if r_13 then
        some 2
      else
        some 0
noncomputable def diff_solve_L1 (facts_2 : Sl Gdiff_Leq) (x_19 : (Sl Int) × (Sl Int) × Int × Int) : Option (Step ((Sl Int) × (Sl Int) × Int × Int) ((Sl Int) × (Sl Int) × Int)) :=
  if decide (x_19.2.2.2 < facts_2.len) then
    Option.bind (
        Option.bind (gidx facts_2 x_19.2.2.2) fun x_25 =>
        Option.bind (gidx x_19.2.1 x_25.Y) fun x_32 =>
        Option.bind (gidx x_19.2.1 x_25.X) fun x_36 =>
        Option.bind (
            if decide ((IntKind.i64.wrap (x_32 + x_25.C)) < x_36) then
              Option.bind (gidx x_19.2.1 x_25.X) fun x_42 =>
              Option.bind (gset x_19.2.1 x_25.X (IntKind.i64.wrap (x_32 + x_25.C))) fun s_45 =>
              Option.bind (gidx x_19.1 x_25.X) fun x_48 =>
              Option.bind (gset x_19.1 x_25.X x_19.2.2.2) fun s_51 =>
              (some (s_51, s_45, x_19.2.2.2) : Option ((Sl Int) × (Sl Int) × Int))
            else
              (some (x_19.1, x_19.2.1, x_19.2.2.1) : Option ((Sl Int) × (Sl Int) × Int))) fun y_54 =>
        (some (y_54.1, y_54.2.1, y_54.2.2) : Option ((Sl Int) × (Sl Int) × Int))) fun y_59 =>
    some (.next (y_59.1, y_59.2.1, y_59.2.2, IntKind.i64.wrap (x_19.2.2.2 + 1)))
  else
    some (.done (x_19.1, x_19.2.1, x_19.2.2.1))
noncomputable def diff_solve_L2 (facts_2 : Sl Gdiff_Leq) (n_1 : Int) (x_13 : (Sl Int) × (Sl Int) × Int × Int) : Option (Step ((Sl Int) × (Sl Int) × Int × Int) (W2 ((Sl Int) × Int) ((Sl Int)))) :=
  if decide (x_13.2.2.2 < n_1) then
    Option.bind (loopO (diff_solve_L1 facts_2) (x_13.1, x_13.2.1, (-1), 0)) fun y_64 =>
    if decide (y_64.2.2 < 0) then
      some (.done (.b y_64.2.1))
    else
      some (.next (y_64.1, y_64.2.1, y_64.2.2, IntKind.i64.wrap (x_13.2.2.2 + 1)))
  else
    some (.done (.a (x_13.1, x_13.2.2.1)))
noncomputable def diff_solve_L3 (facts_2 : Sl Gdiff_Leq) (n_1 : Int) (y_71 : (Sl Int) × Int) (x_79 : Int × Int) : Option (Step (Int × Int) Int) :=
  if decide (x_79.2 < n_1) then
    Option.bind (gidx y_71.1 x_79.1) fun x_83 =>
    Option.bind (gidx facts_2 x_83) fun x_87 =>
    some (.next (x_87.Y, IntKind.i64.wrap (x_79.2 + 1)))
  else
    some (.done x_79.1)
noncomputable def diff_solve_L4 (facts_2 : Sl Gdiff_Leq) (y_71 : (Sl Int) × Int) (y_91 : Int) (x_95 : (Sl Int) × Int) : Option (Step ((Sl Int) × Int) ((Sl Int))) :=
  Option.bind (gidx y_71.1 x_95.2) fun x_100 =>
  Option.bind (gapp 8 x_95.1 [x_100]) fun s_106 =>
  Option.bind (gidx facts_2 x_100) fun x_109 =>
  if decide (x_109.Y = y_91) then
    some (.done s_106)
  else
    some (.next (s_106, x_109.Y))
noncomputable def diff_solve (n_1 : Int) (facts_2 : Sl Gdiff_Leq) : Option ((Sl Int) × (Sl Int)) :=
  Option.bind (gmake 8 n_1 0) fun s_5 =>
  Option.bind (gmake 8 n_1 0) fun s_9 =>
  Option.bind (loopO (diff_solve_L2 facts_2 n_1) (s_9, s_5, (-1), 0)) fun y_70 =>
  match y_70 with
  | .a y_71 =>
    Option.bind (gidx facts_2 y_71.2) fun x_75 =>
    Option.bind (loopO (diff_solve_L3 facts_2 n_1 y_71) (x_75.X, 0)) fun y_91 =>
    Option.bind (loopO (diff_solve_L4 facts_2 y_71 y_91) ((⟨[], false⟩ : Sl Int), y_91)) fun y_114 =>
    some ((⟨[], false⟩ : Sl Int), y_114)
  | .b y_120 =>
    some (y_120, (⟨[], false⟩ : Sl Int))
noncomputable def diff_Entails_K1 (facts_5 : Sl Gdiff_Leq) (goal_2 : Gdiff_Leq) (n_1 : Int) (y_11 : (Sl Gdiff_Leq)) : Option (Bool × Int) :=
  Option.bind (diff_fit n_1 y_11) fun r_16 =>
  if decide (r_16 ≠ 0) then
    some (false, r_16)
  else
    if decide (goal_2.C = 8796093022208) then
      some (false, 2)
    else
      Option.bind (gidx y_11 facts_5.len) fun x_25 =>
      Option.bind (gset y_11 facts_5.len (⟨goal_2.Y, goal_2.X, IntKind.i64.wrap ((IntKind.i64.wrap (0 - goal_2.C)) - 1)⟩ : Gdiff_Leq)) fun s_27 =>
      Option.bind (diff_solve n_1 s_27) fun r_29 =>
      some (r_29.2.nn, 0)
noncomputable def diff_Entails (n_1 : Int) (goal_2 : Gdiff_Leq) (facts_5 : Sl Gdiff_Leq) : Option (Bool × Int) :=
  Option.bind (slices_Clone facts_5) fun r_40 =>
  Option.bind (gapp 24 r_40 [goal_2]) fun s_52 =>
  diff_Entails_K1 facts_5 goal_2 n_1 s_52
noncomputable def cert_turned (goal_1 : Gdiff_Leq) : Option Gdiff_Leq :=
  some (⟨goal_1.Y, goal_1.X, IntKind.i64.wrap ((IntKind.i64.wrap (0 - goal_1.C)) - 1)⟩ : Gdiff_Leq)
noncomputable def cert_within (n_1 : Int) (most_2 : Int) : Option Bool :=
  some (decide (n_1 ≤ most_2) && decide ((IntKind.i64.wrap (0 - most_2)) ≤ n_1))
noncomputable def cert_Circle_1 (k_1 : Int) (a_2 : Sl Gdiff_Leq) : Option Bool :=
  Option.bind (if (decide (k_1 < 0) || decide (a_2.len ≤ k_1)) then
      some true
    else
      Option.bind (gidx a_2 k_1) fun x_10 =>
      Option.bind (cert_within x_10.C 17592186044416) fun r_14 =>
      some (!r_14)) fun b_9 =>
  some b_9
noncomputable def slices_IndexFunc_f30_L1 (f_4 : Int → Option Bool) (s_1 : Sl Int) (x_14 : Int) : Option (Step Int (W2 Unit Int)) :=
  if decide (x_14 < s_1.len) then
    Option.bind (gidx s_1 x_14) fun x_18 =>
    Option.bind (f_4 x_18) fun r_22 =>
    if r_22 then
      some (.done (.b x_14))
    else
      some (.next (IntKind.i64.wrap (x_14 + 1)))
  else
    some (.done (.a ()))
noncomputable def slices_IndexFunc_f30 (s_1 : Sl Int) (f_4 : Int → Option Bool) : Option Int :=
  Option.bind (loopO (slices_IndexFunc_f30_L1 f_4 s_1) 0) fun y_30 =>
  match y_30 with
  | .a y_31 =>
    some (-1)
  | .b y_34 =>
    some y_34
noncomputable def slices_ContainsFunc_f19 (s_1 : Sl Int) (f_4 : Int → Option Bool) : Option Bool :=
  Option.bind (slices_IndexFunc_f30 s_1 f_4) fun r_14 =>
  some (decide (0 ≤ r_14))
noncomputable def cert_Circle_L1 (cycle_1 : Sl Int) (facts_4 : Sl Gdiff_Leq) (x_34 : Int × Int × Int) : Option (Step (Int × Int × Int) (W2 (Int × Int) Unit)) :=
  if decide (x_34.2.2 < cycle_1.len) then
    Option.bind (gidx cycle_1 x_34.2.2) fun x_38 =>
    Option.bind (gidx facts_4 x_38) fun x_42 =>
    if decide (x_42.X ≠ x_34.2.1) then
      some (.done (.b ()))
    else
      Option.bind (gidx facts_4 x_38) fun x_47 =>
      Option.bind (gidx facts_4 x_38) fun x_51 =>
      some (.next (IntKind.i64.wrap (x_34.1 + x_51.C), x_47.Y, IntKind.i64.wrap (x_34.2.2 + 1)))
  else
    some (.done (.a (x_34.1, x_34.2.1)))
noncomputable def cert_Circle (cycle_1 : Sl Int) (facts_4 : Sl Gdiff_Leq) : Option Bool :=
  Option.bind (if (decide (cycle_1.len = 0) || decide (65536 < cycle_1.len)) then
      some true
    else
      Option.bind (slices_ContainsFunc_f19 cycle_1 (fun x0 => cert_Circle_1 x0 facts_4)) fun r_15 =>
      some r_15) fun b_14 =>
  if b_14 then
    some false
  else
    Option.bind (gidx cycle_1 0) fun x_26 =>
    Option.bind (gidx facts_4 x_26) fun x_30 =>
    Option.bind (loopO (cert_Circle_L1 cycle_1 facts_4) (0, x_30.X, 0)) fun y_55 =>
    match y_55 with
    | .a y_56 =>
      Option.bind (gidx cycle_1 0) fun x_60 =>
      Option.bind (gidx facts_4 x_60) fun x_64 =>
      some (decide (y_56.2 = x_64.X) && decide (y_56.1 < 0))
    | .b y_69 =>
      some false
noncomputable def cert_Holds_1 (f_1 : Gdiff_Leq) (a_4 : Sl Int) : Option Bool :=
  if (((decide (f_1.X < 0) || decide (a_4.len ≤ f_1.X)) || decide (f_1.Y < 0)) || decide (a_4.len ≤ f_1.Y)) then
    some true
  else
    Option.bind (gidx a_4 f_1.X) fun x_16 =>
    Option.bind (gidx a_4 f_1.Y) fun x_20 =>
    Option.bind (cert_within f_1.C 17592186044416) fun r_24 =>
    Option.bind (if !r_24 then
        some true
      else
        Option.bind (cert_within x_16 4503599627370496) fun r_33 =>
        some (!r_33)) fun b_32 =>
    Option.bind (if b_32 then
        some true
      else
        Option.bind (cert_within x_20 4503599627370496) fun r_44 =>
        some (!r_44)) fun b_43 =>
    some (b_43 || decide (f_1.C < (IntKind.i64.wrap (x_16 - x_20))))
noncomputable def cert_Holds (numbers_1 : Sl Int) (facts_4 : Sl Gdiff_Leq) : Option Bool :=
  Option.bind (slices_ContainsFunc facts_4 (fun x0 => cert_Holds_1 x0 numbers_1)) fun r_12 =>
  some (!r_12)
noncomputable def cert_Check (p_1 : Gcert_Proof) (n_8 : Int) (goal_9 : Gdiff_Leq) (facts_12 : Sl Gdiff_Leq) : Option Bool :=
  Option.bind (diff_Entails n_8 goal_9 facts_12) fun r_19 =>
  if decide (r_19.2 ≠ 0) then
    some false
  else
    if p_1.Yes then
      Option.bind (if decide (p_1.Numbers.len = 0) then
          Option.bind (slices_Clone facts_12) fun r_31 =>
          Option.bind (cert_turned goal_9) fun r_40 =>
          Option.bind (gapp 24 r_31 [r_40]) fun s_52 =>
          Option.bind (cert_Circle p_1.Cycle s_52) fun r_56 =>
          some r_56
        else
          some false) fun b_30 =>
      some b_30
    else
      Option.bind (if (decide (p_1.Cycle.len = 0) && decide (p_1.Numbers.len = n_8)) then
          Option.bind (slices_Clone facts_12) fun r_71 =>
          Option.bind (cert_turned goal_9) fun r_80 =>
          Option.bind (gapp 24 r_71 [r_80]) fun s_92 =>
          Option.bind (cert_Holds p_1.Numbers s_92) fun r_96 =>
          some r_96
        else
          some false) fun b_70 =>
      some b_70
noncomputable def lychgatelaw05_wakes  : Option Bool :=
  Option.bind (cert_Check (⟨true, (⟨[0, 1, 2], true⟩ : Sl Int), (⟨[], false⟩ : Sl Int)⟩ : Gcert_Proof) 3 (⟨0, 2, 5⟩ : Gdiff_Leq) (⟨[(⟨0, 1, 2⟩ : Gdiff_Leq), (⟨1, 2, 3⟩ : Gdiff_Leq)], true⟩ : Sl Gdiff_Leq)) fun r_8 =>
  Option.bind (if r_8 then
      Option.bind (cert_Check (⟨false, (⟨[], false⟩ : Sl Int), (⟨[5, 3, 0], true⟩ : Sl Int)⟩ : Gcert_Proof) 3 (⟨0, 2, 4⟩ : Gdiff_Leq) (⟨[(⟨0, 1, 2⟩ : Gdiff_Leq), (⟨1, 2, 3⟩ : Gdiff_Leq)], true⟩ : Sl Gdiff_Leq)) fun r_22 =>
      some r_22
    else
      some false) fun b_16 =>
  Option.bind (if b_16 then
      Option.bind (cert_Check (⟨true, (⟨[0, 1, 2], true⟩ : Sl Int), (⟨[], false⟩ : Sl Int)⟩ : Gcert_Proof) 3 (⟨0, 2, 4⟩ : Gdiff_Leq) (⟨[(⟨0, 1, 2⟩ : Gdiff_Leq), (⟨1, 2, 3⟩ : Gdiff_Leq)], true⟩ : Sl Gdiff_Leq)) fun r_38 =>
      some (!r_38)
    else
      some false) fun b_32 =>
  some b_32
noncomputable def lychgatelaw05_refs_L1 (l_1 : Sl Gdiff_Leq) (x_5 : (Sl Glychgateref04_Leq) × Int) : Option (Step ((Sl Glychgateref04_Leq) × Int) ((Sl Glychgateref04_Leq))) :=
  if decide (x_5.2 < l_1.len) then
    Option.bind (gidx l_1 x_5.2) fun x_11 =>
    Option.bind (gapp 24 x_5.1 [(⟨x_11.X, x_11.Y, x_11.C⟩ : Glychgateref04_Leq)]) fun s_19 =>
    some (.next (s_19, IntKind.i64.wrap (x_5.2 + 1)))
  else
    some (.done x_5.1)
noncomputable def lychgatelaw05_refs (l_1 : Sl Gdiff_Leq) : Option (Sl Glychgateref04_Leq) :=
  Option.bind (loopO (lychgatelaw05_refs_L1 l_1) ((⟨[], false⟩ : Sl Glychgateref04_Leq), 0)) fun y_22 =>
  some y_22
noncomputable def lychgateref05_Circle_L1 (cycle_1 : Sl Int) (facts_4 : Sl Glychgateref04_Leq) (x_9 : Int) : Option (Step Int (W2 Unit Unit)) :=
  if decide (x_9 < cycle_1.len) then
    Option.bind (gidx cycle_1 x_9) fun x_13 =>
    Option.bind (if decide (x_13 < 0) then
        some true
      else
        Option.bind (gidx cycle_1 x_9) fun x_19 =>
        some (decide (facts_4.len ≤ x_19))) fun b_18 =>
    if b_18 then
      some (.done (.b ()))
    else
      Option.bind (gidx cycle_1 x_9) fun x_26 =>
      Option.bind (gidx facts_4 x_26) fun x_30 =>
      if (decide (17592186044416 < x_30.C) || decide (x_30.C < (-17592186044416))) then
        some (.done (.b ()))
      else
        some (.next (IntKind.i64.wrap (x_9 + 1)))
  else
    some (.done (.a ()))
noncomputable def lychgateref05_Circle_L2 (cycle_1 : Sl Int) (facts_4 : Sl Glychgateref04_Leq) (x_40 : Int × Int) : Option (Step (Int × Int) (W2 Int Unit)) :=
  if decide (x_40.2 < cycle_1.len) then
    Option.bind (
        if decide (x_40.2 < (IntKind.i64.wrap (cycle_1.len - 1))) then
          (some (IntKind.i64.wrap (x_40.2 + 1)) : Option Int)
        else
          (some 0 : Option Int)) fun y_45 =>
    Option.bind (gidx cycle_1 x_40.2) fun x_49 =>
    Option.bind (gidx facts_4 x_49) fun x_53 =>
    Option.bind (gidx cycle_1 y_45) fun x_57 =>
    Option.bind (gidx facts_4 x_57) fun x_61 =>
    if decide (x_53.Y ≠ x_61.X) then
      some (.done (.b ()))
    else
      Option.bind (gidx cycle_1 x_40.2) fun x_66 =>
      Option.bind (gidx facts_4 x_66) fun x_70 =>
      some (.next (IntKind.i64.wrap (x_40.1 + x_70.C), IntKind.i64.wrap (x_40.2 + 1)))
  else
    some (.done (.a x_40.1))
noncomputable def lychgateref05_Circle (cycle_1 : Sl Int) (facts_4 : Sl Glychgateref04_Leq) : Option Bool :=
  if (decide (cycle_1.len < 1) || decide (65536 < cycle_1.len)) then
    some false
  else
    Option.bind (loopO (lychgateref05_Circle_L1 cycle_1 facts_4) 0) fun y_36 =>
    match y_36 with
    | .a y_37 =>
      Option.bind (loopO (lychgateref05_Circle_L2 cycle_1 facts_4) (0, 0)) fun y_74 =>
      match y_74 with
      | .a y_75 =>
        some (decide (y_75 < 0))
      | .b y_78 =>
        some false
    | .b y_81 =>
      some false
noncomputable def lychgatelaw05_CertCircles (cycle_1 : Sl Int) (facts_4 : Sl Gdiff_Leq) : Option Bool :=
  Option.bind (lychgatelaw05_wakes ) fun r_7 =>
  Option.bind (if r_7 then
      Option.bind (cert_Circle cycle_1 facts_4) fun r_16 =>
      Option.bind (lychgatelaw05_refs facts_4) fun r_23 =>
      Option.bind (lychgateref05_Circle cycle_1 r_23) fun r_31 =>
      some (r_16 == r_31)
    else
      some false) fun b_15 =>
  some b_15
noncomputable def lychgateref05_Holds_L1 (facts_4 : Sl Glychgateref04_Leq) (numbers_1 : Sl Int) (x_7 : Int) : Option (Step Int (W2 Unit Unit)) :=
  if decide (x_7 < facts_4.len) then
    Option.bind (gidx facts_4 x_7) fun x_11 =>
    if (((((decide (x_11.X < 0) || decide (numbers_1.len ≤ x_11.X)) || decide (x_11.Y < 0)) || decide (numbers_1.len ≤ x_11.Y)) || decide (17592186044416 < x_11.C)) || decide (x_11.C < (-17592186044416))) then
      some (.done (.b ()))
    else
      Option.bind (gidx numbers_1 x_11.X) fun x_23 =>
      Option.bind (gidx numbers_1 x_11.Y) fun x_27 =>
      if ((((decide (4503599627370496 < x_23) || decide (x_23 < (-4503599627370496))) || decide (4503599627370496 < x_27)) || decide (x_27 < (-4503599627370496))) || decide (x_11.C < (IntKind.i64.wrap (x_23 - x_27)))) then
        some (.done (.b ()))
      else
        some (.next (IntKind.i64.wrap (x_7 + 1)))
  else
    some (.done (.a ()))
noncomputable def lychgateref05_Holds (numbers_1 : Sl Int) (facts_4 : Sl Glychgateref04_Leq) : Option Bool :=
  Option.bind (loopO (lychgateref05_Holds_L1 facts_4 numbers_1) 0) fun y_36 =>
  match y_36 with
  | .a y_37 =>
    some true
  | .b y_40 =>
    some false
noncomputable def lychgatelaw05_CertHolds (numbers_1 : Sl Int) (facts_4 : Sl Gdiff_Leq) : Option Bool :=
  Option.bind (lychgatelaw05_wakes ) fun r_7 =>
  Option.bind (if r_7 then
      Option.bind (cert_Holds numbers_1 facts_4) fun r_16 =>
      Option.bind (lychgatelaw05_refs facts_4) fun r_23 =>
      Option.bind (lychgateref05_Holds numbers_1 r_23) fun r_31 =>
      some (r_16 == r_31)
    else
      some false) fun b_15 =>
  some b_15
noncomputable def lychgatelaw05_CertOne (b_1 : Glychgatelaw05_Both) (goal_8 : Gdiff_Leq) (facts_11 : Sl Gdiff_Leq) : Option Bool :=
  Option.bind (cert_Check (⟨true, b_1.Cycle, (⟨[], false⟩ : Sl Int)⟩ : Gcert_Proof) b_1.Numbers.len goal_8 facts_11) fun r_18 =>
  Option.bind (cert_Check (⟨false, (⟨[], false⟩ : Sl Int), b_1.Numbers⟩ : Gcert_Proof) b_1.Numbers.len goal_8 facts_11) fun r_25 =>
  Option.bind (lychgatelaw05_wakes ) fun r_32 =>
  some (r_32 && !(r_18 && r_25))
noncomputable def diff_Solve_L1 (r_15 : (Sl Int) × (Sl Int)) (x_28 : Int) (x_32 : (Sl Int) × Int) : Option (Step ((Sl Int) × Int) ((Sl Int))) :=
  if decide (x_32.2 < r_15.1.len) then
    Option.bind (gidx x_32.1 x_32.2) fun x_37 =>
    Option.bind (gidx x_32.1 x_32.2) fun x_41 =>
    Option.bind (gset x_32.1 x_32.2 (IntKind.i64.wrap (x_37 - x_28))) fun s_43 =>
    some (.next (s_43, IntKind.i64.wrap (x_32.2 + 1)))
  else
    some (.done x_32.1)
noncomputable def diff_Solve (n_1 : Int) (facts_2 : Sl Gdiff_Leq) : Option ((Sl Int) × (Sl Int) × Int) :=
  Option.bind (diff_fit n_1 facts_2) fun r_5 =>
  if decide (r_5 ≠ 0) then
    some ((⟨[], false⟩ : Sl Int), (⟨[], false⟩ : Sl Int), r_5)
  else
    Option.bind (diff_solve n_1 facts_2) fun r_15 =>
    if r_15.2.nn then
      some ((⟨[], false⟩ : Sl Int), r_15.2, 0)
    else
      Option.bind (gidx r_15.1 0) fun x_28 =>
      Option.bind (loopO (diff_Solve_L1 r_15 x_28) (r_15.1, 0)) fun y_45 =>
      some (y_45, (⟨[], false⟩ : Sl Int), 0)
noncomputable def cert_Prove (n_1 : Int) (goal_2 : Gdiff_Leq) (facts_5 : Sl Gdiff_Leq) : Option (Gcert_Proof × Int) :=
  Option.bind (diff_Entails n_1 goal_2 facts_5) fun r_12 =>
  if decide (r_12.2 ≠ 0) then
    some ((⟨false, (⟨[], false⟩ : Sl Int), (⟨[], false⟩ : Sl Int)⟩ : Gcert_Proof), r_12.2)
  else
    Option.bind (slices_Clone facts_5) fun r_21 =>
    Option.bind (cert_turned goal_2) fun r_30 =>
    Option.bind (gapp 24 r_21 [r_30]) fun s_42 =>
    Option.bind (diff_Solve n_1 s_42) fun r_46 =>
    some ((⟨r_12.1, r_46.2.1, r_46.1⟩ : Gcert_Proof), r_46.2.2)
noncomputable def lychgatelaw05_CertProves (n_1 : Int) (goal_2 : Gdiff_Leq) (facts_5 : Sl Gdiff_Leq) : Option Bool :=
  Option.bind (cert_Prove n_1 goal_2 facts_5) fun r_10 =>
  Option.bind (diff_Entails n_1 goal_2 facts_5) fun r_25 =>
  Option.bind (lychgatelaw05_wakes ) fun r_32 =>
  if (!r_32 || decide (r_10.2 ≠ r_25.2)) then
    some false
  else
    if decide (r_10.2 ≠ 0) then
      some (!r_10.1.Yes && decide ((IntKind.i64.wrap (r_10.1.Cycle.len + r_10.1.Numbers.len)) = 0))
    else
      Option.bind (if (r_10.1.Yes == r_25.1) then
          Option.bind (cert_Check r_10.1 n_1 goal_2 facts_5) fun r_45 =>
          some r_45
        else
          some false) fun b_44 =>
      some b_44
noncomputable def lychgateref04_Table_L1 (n_1 : Int) (x_9 : (Sl Int) × Int) : Option (Step ((Sl Int) × Int) ((Sl Int))) :=
  if decide (x_9.2 < (IntKind.i64.wrap (n_1 * n_1))) then
    Option.bind (
        Option.bind (gidx x_9.1 x_9.2) fun x_14 =>
        Option.bind (gset x_9.1 x_9.2 4611686018427387904) fun s_16 =>
        Option.bind (gmod .i64 x_9.2 (IntKind.i64.wrap (n_1 + 1))) fun q_18 =>
        Option.bind (
            if decide (q_18 = 0) then
              Option.bind (gidx s_16 x_9.2) fun x_21 =>
              Option.bind (gset s_16 x_9.2 0) fun s_23 =>
              (some s_23 : Option ((Sl Int)))
            else
              (some s_16 : Option ((Sl Int)))) fun y_25 =>
        (some y_25 : Option ((Sl Int)))) fun y_29 =>
    some (.next (y_29, IntKind.i64.wrap (x_9.2 + 1)))
  else
    some (.done x_9.1)
noncomputable def lychgateref04_Table_L2 (facts_2 : Sl Glychgateref04_Leq) (n_1 : Int) (x_37 : (Sl Int) × Int) : Option (Step ((Sl Int) × Int) ((Sl Int))) :=
  if decide (x_37.2 < facts_2.len) then
    Option.bind (
        Option.bind (gidx facts_2 x_37.2) fun x_43 =>
        Option.bind (gidx facts_2 x_37.2) fun x_47 =>
        Option.bind (gidx facts_2 x_37.2) fun x_52 =>
        Option.bind (gidx x_37.1 (IntKind.i64.wrap ((IntKind.i64.wrap (x_43.X * n_1)) + x_47.Y))) fun x_56 =>
        Option.bind (
            if decide (x_52.C < x_56) then
              Option.bind (gidx facts_2 x_37.2) fun x_61 =>
              Option.bind (gidx x_37.1 (IntKind.i64.wrap ((IntKind.i64.wrap (x_43.X * n_1)) + x_47.Y))) fun x_65 =>
              Option.bind (gset x_37.1 (IntKind.i64.wrap ((IntKind.i64.wrap (x_43.X * n_1)) + x_47.Y)) x_61.C) fun s_67 =>
              (some s_67 : Option ((Sl Int)))
            else
              (some x_37.1 : Option ((Sl Int)))) fun y_69 =>
        (some y_69 : Option ((Sl Int)))) fun y_73 =>
    some (.next (y_73, IntKind.i64.wrap (x_37.2 + 1)))
  else
    some (.done x_37.1)
noncomputable def lychgateref04_Table_L3 (n_1 : Int) (x_81 : (Sl Int) × Int) (x_86 : (Sl Int) × Int) (x_96 : (Sl Int) × Int) : Option (Step ((Sl Int) × Int) ((Sl Int))) :=
  if decide (x_96.2 < n_1) then
    Option.bind (
        Option.bind (gidx x_96.1 (IntKind.i64.wrap ((IntKind.i64.wrap (x_81.2 * n_1)) + x_96.2))) fun x_101 =>
        if decide (x_101 = 4611686018427387904) then
          (some x_96.1 : Option ((Sl Int)))
        else
          Option.bind (gidx x_96.1 (IntKind.i64.wrap ((IntKind.i64.wrap (x_86.2 * n_1)) + x_81.2))) fun x_107 =>
          Option.bind (gidx x_96.1 (IntKind.i64.wrap ((IntKind.i64.wrap (x_81.2 * n_1)) + x_96.2))) fun x_111 =>
          Option.bind (gidx x_96.1 (IntKind.i64.wrap ((IntKind.i64.wrap (x_86.2 * n_1)) + x_96.2))) fun x_115 =>
          Option.bind (
              if decide ((IntKind.i64.wrap (x_107 + x_111)) < x_115) then
                Option.bind (gidx x_96.1 (IntKind.i64.wrap ((IntKind.i64.wrap (x_86.2 * n_1)) + x_96.2))) fun x_120 =>
                Option.bind (gset x_96.1 (IntKind.i64.wrap ((IntKind.i64.wrap (x_86.2 * n_1)) + x_96.2)) (IntKind.i64.wrap (x_107 + x_111))) fun s_122 =>
                (some s_122 : Option ((Sl Int)))
              else
                (some x_96.1 : Option ((Sl Int)))) fun y_124 =>
          (some y_124 : Option ((Sl Int)))) fun y_128 =>
    some (.next (y_128, IntKind.i64.wrap (x_96.2 + 1)))
  else
    some (.done x_96.1)
noncomputable def lychgateref04_Table_L4 (n_1 : Int) (x_81 : (Sl Int) × Int) (x_86 : (Sl Int) × Int) : Option (Step ((Sl Int) × Int) (W2 ((Sl Int)) Unit)) :=
  if decide (x_86.2 < n_1) then
    Option.bind (
        Option.bind (gidx x_86.1 (IntKind.i64.wrap ((IntKind.i64.wrap (x_86.2 * n_1)) + x_81.2))) fun x_91 =>
        if decide (x_91 = 4611686018427387904) then
          (some (.a x_86.1) : Option (W2 ((Sl Int)) Unit))
        else
          Option.bind (loopO (lychgateref04_Table_L3 n_1 x_81 x_86) (x_86.1, 0)) fun y_132 =>
          Option.bind (gidx y_132 (IntKind.i64.wrap ((IntKind.i64.wrap (x_86.2 * n_1)) + x_86.2))) fun x_136 =>
          if decide (x_136 < 0) then
            (some (.b ()) : Option (W2 ((Sl Int)) Unit))
          else
            (some (.a y_132) : Option (W2 ((Sl Int)) Unit))) fun y_141 =>
    match y_141 with
    | .a y_142 =>
      some (.next (y_142, IntKind.i64.wrap (x_86.2 + 1)))
    | .b y_146 =>
      some (.done (.b ()))
  else
    some (.done (.a x_86.1))
noncomputable def lychgateref04_Table_L5 (n_1 : Int) (x_81 : (Sl Int) × Int) : Option (Step ((Sl Int) × Int) (W2 ((Sl Int)) Unit)) :=
  if decide (x_81.2 < n_1) then
    Option.bind (loopO (lychgateref04_Table_L4 n_1 x_81) (x_81.1, 0)) fun y_149 =>
    match y_149 with
    | .a y_150 =>
      some (.next (y_150, IntKind.i64.wrap (x_81.2 + 1)))
    | .b y_154 =>
      some (.done (.b ()))
  else
    some (.done (.a x_81.1))
noncomputable def lychgateref04_Table (n_1 : Int) (facts_2 : Sl Glychgateref04_Leq) : Option ((Sl Int) × Bool) :=
  Option.bind (gmake 8 (IntKind.i64.wrap (n_1 * n_1)) 0) fun s_5 =>
  Option.bind (loopO (lychgateref04_Table_L1 n_1) (s_5, 0)) fun y_33 =>
  Option.bind (loopO (lychgateref04_Table_L2 facts_2 n_1) (y_33, 0)) fun y_77 =>
  Option.bind (loopO (lychgateref04_Table_L5 n_1) (y_77, 0)) fun y_157 =>
  match y_157 with
  | .a y_158 =>
    some (y_158, true)
  | .b y_162 =>
    some ((⟨[], false⟩ : Sl Int), false)
noncomputable def lychgateref04_Entails (n_1 : Int) (goal_2 : Glychgateref04_Leq) (facts_5 : Sl Glychgateref04_Leq) : Option Bool :=
  Option.bind (lychgateref04_Table n_1 facts_5) fun r_10 =>
  if !r_10.2 then
    some true
  else
    Option.bind (gidx r_10.1 (IntKind.i64.wrap ((IntKind.i64.wrap (goal_2.X * n_1)) + goal_2.Y))) fun x_21 =>
    some (decide (x_21 ≤ goal_2.C))
noncomputable def lychgatelaw05_CertSound (p_1 : Gcert_Proof) (goal_8 : Gdiff_Leq) (facts_11 : Sl Gdiff_Leq) : Option Bool :=
  Option.bind (lychgatelaw05_wakes ) fun r_18 =>
  Option.bind (if (!r_18 || decide (40 < (if 3 < p_1.Numbers.len then p_1.Numbers.len else 3))) then
      some true
    else
      Option.bind (cert_Check p_1 (if 3 < p_1.Numbers.len then p_1.Numbers.len else 3) goal_8 facts_11) fun r_28 =>
      some (!r_28)) fun b_27 =>
  if b_27 then
    Option.bind (lychgatelaw05_wakes ) fun r_38 =>
    some r_38
  else
    Option.bind (lychgatelaw05_refs facts_11) fun r_46 =>
    Option.bind (lychgateref04_Entails (if 3 < p_1.Numbers.len then p_1.Numbers.len else 3) (⟨goal_8.X, goal_8.Y, goal_8.C⟩ : Glychgateref04_Leq) r_46) fun r_55 =>
    some (p_1.Yes == r_55)
end Go.Px
