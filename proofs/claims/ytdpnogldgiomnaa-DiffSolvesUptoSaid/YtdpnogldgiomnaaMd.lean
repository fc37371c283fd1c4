/- The pure models. -/
import Derived.Test.YtdpnogldgiomnaaTy
namespace Go.Px
open Go.Proofs
set_option linter.unusedVariables false
noncomputable def diff_fit_1 (f_1 : Gdiff_Leq) (a_4 : Int) : Option Bool :=
  some (((((decide (f_1.X < 0) || decide (a_4 ≤ f_1.X)) || decide (f_1.Y < 0)) || decide (a_4 ≤ f_1.Y)) || decide (8796093022208 < f_1.C)) || decide (f_1.C < (-8796093022208)))
noncomputable def slices_IndexFunc_L1 (f_4 : Gdiff_Leq → Option Bool) (s_1 : Sl Gdiff_Leq) (x_14 : Int) : Option (Step Int (W2 Unit Int)) :=
  if decide (x_14 < s_1.len) then
    Option.bind (gidx s_1 x_14) fun x_18 =>
    Option.bind (f_4 x_18) fun r_22 =>
    if r_22 then
      some (.done (.b x_14))
    else
      some (.next (IntKind.i64.wrap (x_14 + 1)))
  else
    some (.done (.a ()))
noncomputable def slices_IndexFunc (s_1 : Sl Gdiff_Leq) (f_4 : Gdiff_Leq → Option Bool) : Option Int :=
  Option.bind (loopO (slices_IndexFunc_L1 f_4 s_1) 0) fun y_30 =>
  match y_30 with
  | .a y_31 =>
    some (-1)
  | .b y_34 =>
    some y_34
noncomputable def slices_ContainsFunc (s_1 : Sl Gdiff_Leq) (f_4 : Gdiff_Leq → Option Bool) : Option Bool :=
  Option.bind (slices_IndexFunc s_1 f_4) fun r_14 =>
  some (decide (0 ≤ r_14))
noncomputable def diff_fit (n_1 : Int) (facts_2 : Sl Gdiff_Leq) : Option Int :=
  if decide (768 < facts_2.len) then
    some 22
  else
    if (decide (n_1 < 1) || decide (96 < n_1)) then
      some 2
    else
      Option.bind (slices_ContainsFunc facts_2 (fun x0 => diff_fit_1 x0 n_1)) fun r_13 =>
      if r_13 then
        some 2
      else
        some 0
noncomputable def diff_solve_L1 (facts_2 : Sl Gdiff_Leq) (x_19 : (Sl Int) × (Sl Int) × Int × Int) : Option (Step ((Sl Int) × (Sl Int) × Int × Int) ((Sl Int) × (Sl Int) × Int)) :=
  if decide (x_19.2.2.2 < facts_2.len) then
    Option.bind (
        Option.bind (gidx facts_2 x_19.2.2.2) fun x_25 =>
        Option.bind (gidx x_19.2.1 x_25.Y) fun x_32 =>
        Option.bind (gidx x_19.2.1 x_25.X) fun x_36 =>
        Option.bind (
            if decide ((IntKind.i64.wrap (x_32 + x_25.C)) < x_36) then
              Option.bind (gidx x_19.2.1 x_25.X) fun x_42 =>
              Option.bind (gset x_19.2.1 x_25.X (IntKind.i64.wrap (x_32 + x_25.C))) fun s_45 =>
              Option.bind (gidx x_19.1 x_25.X) fun x_48 =>
              Option.bind (gset x_19.1 x_25.X x_19.2.2.2) fun s_51 =>
              (some (s_51, s_45, x_19.2.2.2) : Option ((Sl Int) × (Sl Int) × Int))
            else
              (some (x_19.1, x_19.2.1, x_19.2.2.1) : Option ((Sl Int) × (Sl Int) × Int))) fun y_54 =>
        (some (y_54.1, y_54.2.1, y_54.2.2) : Option ((Sl Int) × (Sl Int) × Int))) fun y_59 =>
    some (.next (y_59.1, y_59.2.1, y_59.2.2, IntKind.i64.wrap (x_19.2.2.2 + 1)))
  else
    some (.done (x_19.1, x_19.2.1, x_19.2.2.1))
noncomputable def diff_solve_L2 (facts_2 : Sl Gdiff_Leq) (n_1 : Int) (x_13 : (Sl Int) × (Sl Int) × Int × Int) : Option (Step ((Sl Int) × (Sl Int) × Int × Int) (W2 ((Sl Int) × Int) ((Sl Int)))) :=
  if decide (x_13.2.2.2 < n_1) then
    Option.bind (loopO (diff_solve_L1 facts_2) (x_13.1, x_13.2.1, (-1), 0)) fun y_64 =>
    if decide (y_64.2.2 < 0) then
      some (.done (.b y_64.2.1))
    else
      some (.next (y_64.1, y_64.2.1, y_64.2.2, IntKind.i64.wrap (x_13.2.2.2 + 1)))
  else
    some (.done (.a (x_13.1, x_13.2.2.1)))
noncomputable def diff_solve_L3 (facts_2 : Sl Gdiff_Leq) (n_1 : Int) (y_71 : (Sl Int) × Int) (x_79 : Int × Int) : Option (Step (Int × Int) Int) :=
  if decide (x_79.2 < n_1) then
    Option.bind (gidx y_71.1 x_79.1) fun x_83 =>
    Option.bind (gidx facts_2 x_83) fun x_87 =>
    some (.next (x_87.Y, IntKind.i64.wrap (x_79.2 + 1)))
  else
    some (.done x_79.1)
noncomputable def diff_solve_L4 (facts_2 : Sl Gdiff_Leq) (y_71 : (Sl Int) × Int) (y_91 : Int) (x_95 : (Sl Int) × Int) : Option (Step ((Sl Int) × Int) ((Sl Int))) :=
  Option.bind (gidx y_71.1 x_95.2) fun x_100 =>
  Option.bind (gapp 8 x_95.1 [x_100]) fun s_106 =>
  Option.bind (gidx facts_2 x_100) fun x_109 =>
  if decide (x_109.Y = y_91) then
    some (.done s_106)
  else
    some (.next (s_106, x_109.Y))
noncomputable def diff_solve (n_1 : Int) (facts_2 : Sl Gdiff_Leq) : Option ((Sl Int) × (Sl Int)) :=
  Option.bind (gmake 8 n_1 0) fun s_5 =>
  Option.bind (gmake 8 n_1 0) fun s_9 =>
  Option.bind (loopO (diff_solve_L2 facts_2 n_1) (s_9, s_5, (-1), 0)) fun y_70 =>
  match y_70 with
  | .a y_71 =>
    Option.bind (gidx facts_2 y_71.2) fun x_75 =>
    Option.bind (loopO (diff_solve_L3 facts_2 n_1 y_71) (x_75.X, 0)) fun y_91 =>
    Option.bind (loopO (diff_solve_L4 facts_2 y_71 y_91) ((⟨[], false⟩ : Sl Int), y_91)) fun y_114 =>
    some ((⟨[], false⟩ : Sl Int), y_114)
  | .b y_120 =>
    some (y_120, (⟨[], false⟩ : Sl Int))
noncomputable def diff_Solve_L1 (r_15 : (Sl Int) × (Sl Int)) (x_28 : Int) (x_32 : (Sl Int) × Int) : Option (Step ((Sl Int) × Int) ((Sl Int))) :=
  if decide (x_32.2 < r_15.1.len) then
    Option.bind (gidx x_32.1 x_32.2) fun x_37 =>
    Option.bind (gidx x_32.1 x_32.2) fun x_41 =>
    Option.bind (gset x_32.1 x_32.2 (IntKind.i64.wrap (x_37 - x_28))) fun s_43 =>
    some (.next (s_43, IntKind.i64.wrap (x_32.2 + 1)))
  else
    some (.done x_32.1)
noncomputable def diff_Solve (n_1 : Int) (facts_2 : Sl Gdiff_Leq) : Option ((Sl Int) × (Sl Int) × Int) :=
  Option.bind (diff_fit n_1 facts_2) fun r_5 =>
  if decide (r_5 ≠ 0) then
    some ((⟨[], false⟩ : Sl Int), (⟨[], false⟩ : Sl Int), r_5)
  else
    Option.bind (diff_solve n_1 facts_2) fun r_15 =>
    if r_15.2.nn then
      some ((⟨[], false⟩ : Sl Int), r_15.2, 0)
    else
      Option.bind (gidx r_15.1 0) fun x_28 =>
      Option.bind (loopO (diff_Solve_L1 r_15 x_28) (r_15.1, 0)) fun y_45 =>
      some (y_45, (⟨[], false⟩ : Sl Int), 0)
noncomputable def lychgatelaw04_refs_L1 (l_1 : Sl Gdiff_Leq) (x_5 : (Sl Glychgateref04_Leq) × Int) : Option (Step ((Sl Glychgateref04_Leq) × Int) ((Sl Glychgateref04_Leq))) :=
  if decide (x_5.2 < l_1.len) then
    Option.bind (gidx l_1 x_5.2) fun x_11 =>
    Option.bind (gapp 24 x_5.1 [(⟨x_11.X, x_11.Y, x_11.C⟩ : Glychgateref04_Leq)]) fun s_19 =>
    some (.next (s_19, IntKind.i64.wrap (x_5.2 + 1)))
  else
    some (.done x_5.1)
noncomputable def lychgatelaw04_refs (l_1 : Sl Gdiff_Leq) : Option (Sl Glychgateref04_Leq) :=
  Option.bind (loopO (lychgatelaw04_refs_L1 l_1) ((⟨[], false⟩ : Sl Glychgateref04_Leq), 0)) fun y_22 =>
  some y_22
noncomputable def lychgateref04_Fit_L1 (facts_2 : Sl Glychgateref04_Leq) (n_1 : Int) (x_8 : Int) : Option (Step Int (W2 Unit Unit)) :=
  if decide (x_8 < facts_2.len) then
    Option.bind (gidx facts_2 x_8) fun x_12 =>
    if (((((decide (x_12.X < 0) || decide (n_1 ≤ x_12.X)) || decide (x_12.Y < 0)) || decide (n_1 ≤ x_12.Y)) || decide (8796093022208 < x_12.C)) || decide (x_12.C < (-8796093022208))) then
      some (.done (.b ()))
    else
      some (.next (IntKind.i64.wrap (x_8 + 1)))
  else
    some (.done (.a ()))
noncomputable def lychgateref04_Fit (n_1 : Int) (facts_2 : Sl Glychgateref04_Leq) : Option Int :=
  if decide (768 < facts_2.len) then
    some 22
  else
    if (decide (n_1 < 1) || decide (96 < n_1)) then
      some 2
    else
      Option.bind (loopO (lychgateref04_Fit_L1 facts_2 n_1) 0) fun y_24 =>
      match y_24 with
      | .a y_25 =>
        some 0
      | .b y_28 =>
        some 2
noncomputable def slices_Clone (s_1 : Sl Gdiff_Leq) : Option (Sl Gdiff_Leq) :=
  if !s_1.nn then
    some (⟨[], false⟩ : Sl Gdiff_Leq)
  else
    Option.bind (gapp 24 (⟨[], true⟩ : Sl Gdiff_Leq) s_1.xs) fun s_8 =>
    some s_8
noncomputable def diff_Entails_K1 (facts_5 : Sl Gdiff_Leq) (goal_2 : Gdiff_Leq) (n_1 : Int) (y_11 : (Sl Gdiff_Leq)) : Option (Bool × Int) :=
  Option.bind (diff_fit n_1 y_11) fun r_16 =>
  if decide (r_16 ≠ 0) then
    some (false, r_16)
  else
    if decide (goal_2.C = 8796093022208) then
      some (false, 2)
    else
      Option.bind (gidx y_11 facts_5.len) fun x_25 =>
      Option.bind (gset y_11 facts_5.len (⟨goal_2.Y, goal_2.X, IntKind.i64.wrap ((IntKind.i64.wrap (0 - goal_2.C)) - 1)⟩ : Gdiff_Leq)) fun s_27 =>
      Option.bind (diff_solve n_1 s_27) fun r_29 =>
      some (r_29.2.nn, 0)
noncomputable def diff_Entails (n_1 : Int) (goal_2 : Gdiff_Leq) (facts_5 : Sl Gdiff_Leq) : Option (Bool × Int) :=
  Option.bind (slices_Clone facts_5) fun r_40 =>
  Option.bind (gapp 24 r_40 [goal_2]) fun s_52 =>
  diff_Entails_K1 facts_5 goal_2 n_1 s_52
noncomputable def lychgatelaw04_wakes  : Option Bool :=
  Option.bind (diff_Entails 3 (⟨0, 2, 5⟩ : Gdiff_Leq) (⟨[(⟨0, 1, 2⟩ : Gdiff_Leq), (⟨1, 2, 3⟩ : Gdiff_Leq)], true⟩ : Sl Gdiff_Leq)) fun r_3 =>
  Option.bind (diff_Entails 3 (⟨0, 2, 4⟩ : Gdiff_Leq) (⟨[(⟨0, 1, 2⟩ : Gdiff_Leq), (⟨1, 2, 3⟩ : Gdiff_Leq)], true⟩ : Sl Gdiff_Leq)) fun r_12 =>
  Option.bind (diff_Solve 2 (⟨[(⟨0, 1, (-1)⟩ : Gdiff_Leq), (⟨1, 0, 0⟩ : Gdiff_Leq)], true⟩ : Sl Gdiff_Leq)) fun r_21 =>
  some (((((r_3.1 && !r_12.1) && decide (r_3.2 = 0)) && decide (r_12.2 = 0)) && decide (r_21.2.2 = 0)) && decide (r_21.2.1.len = 2))
noncomputable def lychgateref04_Table_L1 (n_1 : Int) (x_9 : (Sl Int) × Int) : Option (Step ((Sl Int) × Int) ((Sl Int))) :=
  if decide (x_9.2 < (IntKind.i64.wrap (n_1 * n_1))) then
    Option.bind (
        Option.bind (gidx x_9.1 x_9.2) fun x_14 =>
        Option.bind (gset x_9.1 x_9.2 4611686018427387904) fun s_16 =>
        Option.bind (gmod .i64 x_9.2 (IntKind.i64.wrap (n_1 + 1))) fun q_18 =>
        Option.bind (
            if decide (q_18 = 0) then
              Option.bind (gidx s_16 x_9.2) fun x_21 =>
              Option.bind (gset s_16 x_9.2 0) fun s_23 =>
              (some s_23 : Option ((Sl Int)))
            else
              (some s_16 : Option ((Sl Int)))) fun y_25 =>
        (some y_25 : Option ((Sl Int)))) fun y_29 =>
    some (.next (y_29, IntKind.i64.wrap (x_9.2 + 1)))
  else
    some (.done x_9.1)
noncomputable def lychgateref04_Table_L2 (facts_2 : Sl Glychgateref04_Leq) (n_1 : Int) (x_37 : (Sl Int) × Int) : Option (Step ((Sl Int) × Int) ((Sl Int))) :=
  if decide (x_37.2 < facts_2.len) then
    Option.bind (
        Option.bind (gidx facts_2 x_37.2) fun x_43 =>
        Option.bind (gidx facts_2 x_37.2) fun x_47 =>
        Option.bind (gidx facts_2 x_37.2) fun x_52 =>
        Option.bind (gidx x_37.1 (IntKind.i64.wrap ((IntKind.i64.wrap (x_43.X * n_1)) + x_47.Y))) fun x_56 =>
        Option.bind (
            if decide (x_52.C < x_56) then
              Option.bind (gidx facts_2 x_37.2) fun x_61 =>
              Option.bind (gidx x_37.1 (IntKind.i64.wrap ((IntKind.i64.wrap (x_43.X * n_1)) + x_47.Y))) fun x_65 =>
              Option.bind (gset x_37.1 (IntKind.i64.wrap ((IntKind.i64.wrap (x_43.X * n_1)) + x_47.Y)) x_61.C) fun s_67 =>
              (some s_67 : Option ((Sl Int)))
            else
              (some x_37.1 : Option ((Sl Int)))) fun y_69 =>
        (some y_69 : Option ((Sl Int)))) fun y_73 =>
    some (.next (y_73, IntKind.i64.wrap (x_37.2 + 1)))
  else
    some (.done x_37.1)
noncomputable def lychgateref04_Table_L3 (n_1 : Int) (x_81 : (Sl Int) × Int) (x_86 : (Sl Int) × Int) (x_96 : (Sl Int) × Int) : Option (Step ((Sl Int) × Int) ((Sl Int))) :=
  if decide (x_96.2 < n_1) then
    Option.bind (
        Option.bind (gidx x_96.1 (IntKind.i64.wrap ((IntKind.i64.wrap (x_81.2 * n_1)) + x_96.2))) fun x_101 =>
        if decide (x_101 = 4611686018427387904) then
          (some x_96.1 : Option ((Sl Int)))
        else
          Option.bind (gidx x_96.1 (IntKind.i64.wrap ((IntKind.i64.wrap (x_86.2 * n_1)) + x_81.2))) fun x_107 =>
          Option.bind (gidx x_96.1 (IntKind.i64.wrap ((IntKind.i64.wrap (x_81.2 * n_1)) + x_96.2))) fun x_111 =>
          Option.bind (gidx x_96.1 (IntKind.i64.wrap ((IntKind.i64.wrap (x_86.2 * n_1)) + x_96.2))) fun x_115 =>
          Option.bind (
              if decide ((IntKind.i64.wrap (x_107 + x_111)) < x_115) then
                Option.bind (gidx x_96.1 (IntKind.i64.wrap ((IntKind.i64.wrap (x_86.2 * n_1)) + x_96.2))) fun x_120 =>
                Option.bind (gset x_96.1 (IntKind.i64.wrap ((IntKind.i64.wrap (x_86.2 * n_1)) + x_96.2)) (IntKind.i64.wrap (x_107 + x_111))) fun s_122 =>
                (some s_122 : Option ((Sl Int)))
              else
                (some x_96.1 : Option ((Sl Int)))) fun y_124 =>
          (some y_124 : Option ((Sl Int)))) fun y_128 =>
    some (.next (y_128, IntKind.i64.wrap (x_96.2 + 1)))
  else
    some (.done x_96.1)
noncomputable def lychgateref04_Table_L4 (n_1 : Int) (x_81 : (Sl Int) × Int) (x_86 : (Sl Int) × Int) : Option (Step ((Sl Int) × Int) (W2 ((Sl Int)) Unit)) :=
  if decide (x_86.2 < n_1) then
    Option.bind (
        Option.bind (gidx x_86.1 (IntKind.i64.wrap ((IntKind.i64.wrap (x_86.2 * n_1)) + x_81.2))) fun x_91 =>
        if decide (x_91 = 4611686018427387904) then
          (some (.a x_86.1) : Option (W2 ((Sl Int)) Unit))
        else
          Option.bind (loopO (lychgateref04_Table_L3 n_1 x_81 x_86) (x_86.1, 0)) fun y_132 =>
          Option.bind (gidx y_132 (IntKind.i64.wrap ((IntKind.i64.wrap (x_86.2 * n_1)) + x_86.2))) fun x_136 =>
          if decide (x_136 < 0) then
            (some (.b ()) : Option (W2 ((Sl Int)) Unit))
          else
            (some (.a y_132) : Option (W2 ((Sl Int)) Unit))) fun y_141 =>
    match y_141 with
    | .a y_142 =>
      some (.next (y_142, IntKind.i64.wrap (x_86.2 + 1)))
    | .b y_146 =>
      some (.done (.b ()))
  else
    some (.done (.a x_86.1))
noncomputable def lychgateref04_Table_L5 (n_1 : Int) (x_81 : (Sl Int) × Int) : Option (Step ((Sl Int) × Int) (W2 ((Sl Int)) Unit)) :=
  if decide (x_81.2 < n_1) then
    Option.bind (loopO (lychgateref04_Table_L4 n_1 x_81) (x_81.1, 0)) fun y_149 =>
    match y_149 with
    | .a y_150 =>
      some (.next (y_150, IntKind.i64.wrap (x_81.2 + 1)))
    | .b y_154 =>
      some (.done (.b ()))
  else
    some (.done (.a x_81.1))
noncomputable def lychgateref04_Table (n_1 : Int) (facts_2 : Sl Glychgateref04_Leq) : Option ((Sl Int) × Bool) :=
  Option.bind (gmake 8 (IntKind.i64.wrap (n_1 * n_1)) 0) fun s_5 =>
  Option.bind (loopO (lychgateref04_Table_L1 n_1) (s_5, 0)) fun y_33 =>
  Option.bind (loopO (lychgateref04_Table_L2 facts_2 n_1) (y_33, 0)) fun y_77 =>
  Option.bind (loopO (lychgateref04_Table_L5 n_1) (y_77, 0)) fun y_157 =>
  match y_157 with
  | .a y_158 =>
    some (y_158, true)
  | .b y_162 =>
    some ((⟨[], false⟩ : Sl Int), false)
noncomputable def lychgateref04_Plain_L1 (n_1 : Int) (r_5 : (Sl Int) × Bool) (x_20 : (Sl Int) × Int) (x_25 : (Sl Int) × Int) : Option (Step ((Sl Int) × Int) ((Sl Int))) :=
  if decide (x_25.2 < n_1) then
    Option.bind (
        Option.bind (gidx r_5.1 (IntKind.i64.wrap ((IntKind.i64.wrap (x_20.2 * n_1)) + x_25.2))) fun x_31 =>
        Option.bind (gidx x_25.1 x_20.2) fun x_35 =>
        Option.bind (
            if decide (x_31 < x_35) then
              Option.bind (gidx r_5.1 (IntKind.i64.wrap ((IntKind.i64.wrap (x_20.2 * n_1)) + x_25.2))) fun x_40 =>
              Option.bind (gidx x_25.1 x_20.2) fun x_44 =>
              Option.bind (gset x_25.1 x_20.2 x_40) fun s_46 =>
              (some s_46 : Option ((Sl Int)))
            else
              (some x_25.1 : Option ((Sl Int)))) fun y_48 =>
        (some y_48 : Option ((Sl Int)))) fun y_52 =>
    some (.next (y_52, IntKind.i64.wrap (x_25.2 + 1)))
  else
    some (.done x_25.1)
noncomputable def lychgateref04_Plain_L2 (n_1 : Int) (r_5 : (Sl Int) × Bool) (x_20 : (Sl Int) × Int) : Option (Step ((Sl Int) × Int) ((Sl Int))) :=
  if decide (x_20.2 < n_1) then
    Option.bind (loopO (lychgateref04_Plain_L1 n_1 r_5 x_20) (x_20.1, 0)) fun y_56 =>
    some (.next (y_56, IntKind.i64.wrap (x_20.2 + 1)))
  else
    some (.done x_20.1)
noncomputable def lychgateref04_Plain_L3 (n_1 : Int) (x_64 : Int) (x_68 : (Sl Int) × Int) : Option (Step ((Sl Int) × Int) ((Sl Int))) :=
  if decide (x_68.2 < n_1) then
    Option.bind (gidx x_68.1 x_68.2) fun x_73 =>
    Option.bind (gidx x_68.1 x_68.2) fun x_77 =>
    Option.bind (gset x_68.1 x_68.2 (IntKind.i64.wrap (x_73 - x_64))) fun s_79 =>
    some (.next (s_79, IntKind.i64.wrap (x_68.2 + 1)))
  else
    some (.done x_68.1)
noncomputable def lychgateref04_Plain (n_1 : Int) (facts_2 : Sl Glychgateref04_Leq) : Option ((Sl Int) × Bool) :=
  Option.bind (lychgateref04_Table n_1 facts_2) fun r_5 =>
  if !r_5.2 then
    some ((⟨[], false⟩ : Sl Int), false)
  else
    Option.bind (gmake 8 n_1 0) fun s_16 =>
    Option.bind (loopO (lychgateref04_Plain_L2 n_1 r_5) (s_16, 0)) fun y_60 =>
    Option.bind (gidx y_60 0) fun x_64 =>
    Option.bind (loopO (lychgateref04_Plain_L3 n_1 x_64) (y_60, 0)) fun y_81 =>
    some (y_81, true)
noncomputable def lychgatelaw04_circle_L1 (cycle_4 : Sl Int) (facts_1 : Sl Gdiff_Leq) (x_7 : Int × Int) : Option (Step (Int × Int) (W2 Int Unit)) :=
  if decide (x_7.2 < cycle_4.len) then
    Option.bind (gidx cycle_4 x_7.2) fun x_11 =>
    if (decide (x_11 < 0) || decide (facts_1.len ≤ x_11)) then
      some (.done (.b ()))
    else
      Option.bind (gmod .i64 (IntKind.i64.wrap (x_7.2 + 1)) cycle_4.len) fun q_17 =>
      Option.bind (gidx cycle_4 q_17) fun x_19 =>
      Option.bind (if (decide (x_19 < 0) || decide (facts_1.len ≤ x_19)) then
          some true
        else
          Option.bind (gidx facts_1 x_11) fun x_27 =>
          Option.bind (gidx facts_1 x_19) fun x_31 =>
          some (decide (x_27.Y ≠ x_31.X))) fun b_26 =>
      if b_26 then
        some (.done (.b ()))
      else
        Option.bind (gidx facts_1 x_11) fun x_39 =>
        some (.next (IntKind.i64.wrap (x_7.1 + x_39.C), IntKind.i64.wrap (x_7.2 + 1)))
  else
    some (.done (.a x_7.1))
noncomputable def lychgatelaw04_circle (facts_1 : Sl Gdiff_Leq) (cycle_4 : Sl Int) : Option Bool :=
  Option.bind (loopO (lychgatelaw04_circle_L1 cycle_4 facts_1) (0, 0)) fun y_43 =>
  match y_43 with
  | .a y_44 =>
    some (decide (0 < cycle_4.len) && decide (y_44 < 0))
  | .b y_48 =>
    some false
noncomputable def lychgatelaw04_DiffSolves_L1 (r_55 : (Sl Int) × Bool) (r_9 : (Sl Int) × (Sl Int) × Int) (x_79 : Int) : Option (Step Int (W2 Unit Unit)) :=
  if decide (x_79 < r_9.1.len) then
    Option.bind (gidx r_9.1 x_79) fun x_84 =>
    Option.bind (gidx r_55.1 x_79) fun x_88 =>
    if decide (x_84 ≠ x_88) then
      some (.done (.b ()))
    else
      some (.next (IntKind.i64.wrap (x_79 + 1)))
  else
    some (.done (.a ()))
noncomputable def lychgatelaw04_DiffSolves (n_1 : Int) (facts_2 : Sl Gdiff_Leq) : Option Bool :=
  Option.bind (gapp 24 (⟨[], false⟩ : Sl Gdiff_Leq) facts_2.xs) fun s_6 =>
  Option.bind (diff_Solve n_1 s_6) fun r_9 =>
  Option.bind (lychgatelaw04_refs facts_2) fun r_20 =>
  Option.bind (lychgateref04_Fit n_1 r_20) fun r_28 =>
  Option.bind (lychgatelaw04_wakes ) fun r_35 =>
  if (!r_35 || decide (r_9.2.2 ≠ r_28)) then
    some false
  else
    if decide (r_28 ≠ 0) then
      some (decide (r_9.1.len = 0) && decide (r_9.2.1.len = 0))
    else
      if decide (40 < n_1) then
        some true
      else
        Option.bind (lychgatelaw04_refs facts_2) fun r_47 =>
        Option.bind (lychgateref04_Plain n_1 r_47) fun r_55 =>
        if !r_55.2 then
          Option.bind (if decide (r_9.1.len = 0) then
              Option.bind (lychgatelaw04_circle facts_2 r_9.2.1) fun r_67 =>
              some r_67
            else
              some false) fun b_66 =>
          some (b_66 && decide (r_9.2.1.len ≤ n_1))
        else
          if (decide (r_9.2.1.len ≠ 0) || decide (r_9.1.len ≠ r_55.1.len)) then
            some false
          else
            Option.bind (loopO (lychgatelaw04_DiffSolves_L1 r_55 r_9) 0) fun y_93 =>
            match y_93 with
            | .a y_94 =>
              some true
            | .b y_97 =>
              some false
noncomputable def lychgateref04_Entails (n_1 : Int) (goal_2 : Glychgateref04_Leq) (facts_5 : Sl Glychgateref04_Leq) : Option Bool :=
  Option.bind (lychgateref04_Table n_1 facts_5) fun r_10 =>
  if !r_10.2 then
    some true
  else
    Option.bind (gidx r_10.1 (IntKind.i64.wrap ((IntKind.i64.wrap (goal_2.X * n_1)) + goal_2.Y))) fun x_21 =>
    some (decide (x_21 ≤ goal_2.C))
noncomputable def lychgatelaw04_DiffEntails_K1 (facts_5 : Sl Gdiff_Leq) (goal_2 : Gdiff_Leq) (n_1 : Int) (r_10 : Bool × Int) (y_18 : Int) : Option Bool :=
  Option.bind (
      if (decide (y_18 = 0) && decide (goal_2.C = 8796093022208)) then
        (some 2 : Option Int)
      else
        (some y_18 : Option Int)) fun y_23 =>
  Option.bind (lychgatelaw04_wakes ) fun r_26 =>
  if (!r_26 || decide (r_10.2 ≠ y_23)) then
    some false
  else
    if (decide (y_23 ≠ 0) || decide (40 < n_1)) then
      some (decide (y_23 = 0) || !r_10.1)
    else
      Option.bind (lychgatelaw04_refs facts_5) fun r_39 =>
      Option.bind (lychgateref04_Entails n_1 (⟨goal_2.X, goal_2.Y, goal_2.C⟩ : Glychgateref04_Leq) r_39) fun r_48 =>
      some (r_10.1 == r_48)
noncomputable def lychgatelaw04_DiffEntails (n_1 : Int) (goal_2 : Gdiff_Leq) (facts_5 : Sl Gdiff_Leq) : Option Bool :=
  Option.bind (diff_Entails n_1 goal_2 facts_5) fun r_10 =>
  Option.bind (gapp 24 (⟨[], false⟩ : Sl Gdiff_Leq) facts_5.xs) fun s_58 =>
  Option.bind (gapp 24 s_58 [goal_2]) fun s_65 =>
  Option.bind (lychgatelaw04_refs s_65) fun r_69 =>
  Option.bind (lychgateref04_Fit n_1 r_69) fun r_78 =>
  lychgatelaw04_DiffEntails_K1 facts_5 goal_2 n_1 r_10 r_78
noncomputable def lychgatelaw04_DiffHolds_L1 (facts_2 : Sl Gdiff_Leq) (r_5 : (Sl Int) × (Sl Int) × Int) (x_50 : Int) : Option (Step Int (W2 Unit Unit)) :=
  if decide (x_50 < facts_2.len) then
    Option.bind (gidx facts_2 x_50) fun x_54 =>
    Option.bind (gidx r_5.1 x_54.X) fun x_61 =>
    Option.bind (gidx r_5.1 x_54.Y) fun x_65 =>
    if decide (x_54.C < (IntKind.i64.wrap (x_61 - x_65))) then
      some (.done (.b ()))
    else
      some (.next (IntKind.i64.wrap (x_50 + 1)))
  else
    some (.done (.a ()))
noncomputable def lychgatelaw04_DiffHolds (n_1 : Int) (facts_2 : Sl Gdiff_Leq) : Option Bool :=
  Option.bind (diff_Solve n_1 facts_2) fun r_5 =>
  Option.bind (lychgatelaw04_wakes ) fun r_16 =>
  if (!r_16 || decide (r_5.2.2 ≠ 0)) then
    Option.bind (lychgatelaw04_wakes ) fun r_25 =>
    some r_25
  else
    if decide (r_5.1.len = 0) then
      Option.bind (lychgatelaw04_circle facts_2 r_5.2.1) fun r_33 =>
      some r_33
    else
      Option.bind (if decide (r_5.1.len ≠ n_1) then
          some true
        else
          Option.bind (gidx r_5.1 0) fun x_42 =>
          some (decide (x_42 ≠ 0))) fun b_41 =>
      if (b_41 || decide (r_5.2.1.len ≠ 0)) then
        some false
      else
        Option.bind (loopO (lychgatelaw04_DiffHolds_L1 facts_2 r_5) 0) fun y_70 =>
        match y_70 with
        | .a y_71 =>
          some true
        | .b y_74 =>
          some false
noncomputable def lychgatelaw04_DiffSound_L1 (numbers_1 : Sl Int) (s_21 : Sl Int) (x_25 : (Sl Int) × Int) : Option (Step ((Sl Int) × Int) ((Sl Int))) :=
  if decide (x_25.2 < s_21.len) then
    Option.bind (gidx numbers_1 x_25.2) fun x_30 =>
    Option.bind (gidx x_25.1 x_25.2) fun x_34 =>
    Option.bind (gset x_25.1 x_25.2 (if (-1099511627776) < (if 1099511627776 < x_30 then 1099511627776 else x_30) then (if 1099511627776 < x_30 then 1099511627776 else x_30) else (-1099511627776))) fun s_36 =>
    some (.next (s_36, IntKind.i64.wrap (x_25.2 + 1)))
  else
    some (.done x_25.1)
noncomputable def lychgatelaw04_DiffSound_L2 (numbers_1 : Sl Int) (s_42 : Sl Gdiff_Leq) (y_38 : (Sl Int)) (x_47 : (Sl Gdiff_Leq) × Int) : Option (Step ((Sl Gdiff_Leq) × Int) ((Sl Gdiff_Leq))) :=
  if decide (x_47.2 < s_42.len) then
    Option.bind (
        Option.bind (gidx s_42 x_47.2) fun x_53 =>
        Option.bind (if (((((decide (0 ≤ x_53.X) && decide (x_53.X < (if 30 < numbers_1.len then 30 else numbers_1.len))) && decide (0 ≤ x_53.Y)) && decide (x_53.Y < (if 30 < numbers_1.len then 30 else numbers_1.len))) && decide (x_53.C ≤ 8796093022208)) && decide ((-8796093022208) ≤ x_53.C)) then
            Option.bind (gidx y_38 x_53.X) fun x_67 =>
            Option.bind (gidx y_38 x_53.Y) fun x_71 =>
            some (decide ((IntKind.i64.wrap (x_67 - x_71)) ≤ x_53.C))
          else
            some false) fun b_66 =>
        Option.bind (
            if b_66 then
              Option.bind (gapp 24 x_47.1 [x_53]) fun s_81 =>
              (some s_81 : Option ((Sl Gdiff_Leq)))
            else
              (some x_47.1 : Option ((Sl Gdiff_Leq)))) fun y_84 =>
        (some y_84 : Option ((Sl Gdiff_Leq)))) fun y_88 =>
    some (.next (y_88, IntKind.i64.wrap (x_47.2 + 1)))
  else
    some (.done x_47.1)
noncomputable def lychgatelaw04_DiffSound (numbers_1 : Sl Int) (facts_4 : Sl Gdiff_Leq) (goal_7 : Gdiff_Leq) : Option Bool :=
  Option.bind (lychgatelaw04_wakes ) fun r_12 =>
  if !r_12 then
    some false
  else
    if decide ((if 30 < numbers_1.len then 30 else numbers_1.len) < 1) then
      some true
    else
      Option.bind (gmake 8 (if 30 < numbers_1.len then 30 else numbers_1.len) 0) fun s_21 =>
      Option.bind (loopO (lychgatelaw04_DiffSound_L1 numbers_1 s_21) (s_21, 0)) fun y_38 =>
      Option.bind (gslice facts_4 0 (if 500 < facts_4.len then 500 else facts_4.len)) fun s_42 =>
      Option.bind (loopO (lychgatelaw04_DiffSound_L2 numbers_1 s_42 y_38) ((⟨[], false⟩ : Sl Gdiff_Leq), 0)) fun y_92 =>
      Option.bind (diff_Solve (if 30 < numbers_1.len then 30 else numbers_1.len) y_92) fun r_97 =>
      Option.bind (diff_Entails (if 30 < numbers_1.len then 30 else numbers_1.len) goal_7 y_92) fun r_108 =>
      if (decide (r_97.2.2 ≠ 0) || decide (r_97.1.len ≠ (if 30 < numbers_1.len then 30 else numbers_1.len))) then
        some false
      else
        Option.bind (if (decide (r_108.2 ≠ 0) || !r_108.1) then
            some true
          else
            Option.bind (gidx y_38 goal_7.X) fun x_121 =>
            Option.bind (gidx y_38 goal_7.Y) fun x_125 =>
            some (decide ((IntKind.i64.wrap (x_121 - x_125)) ≤ goal_7.C))) fun b_120 =>
        some b_120
noncomputable def lychgatelaw04_DiffChain_L1 (steps_1 : Sl Int) (x_13 : Int × (Sl Gdiff_Leq) × Int) : Option (Step (Int × (Sl Gdiff_Leq) × Int) (Int × (Sl Gdiff_Leq))) :=
  if decide (x_13.2.2 < (if 95 < steps_1.len then 95 else steps_1.len)) then
    Option.bind (gidx steps_1 x_13.2.2) fun x_19 =>
    Option.bind (gapp 24 x_13.2.1 [(⟨x_13.2.2, IntKind.i64.wrap (x_13.2.2 + 1), (if (-1073741824) < (if 1073741824 < x_19 then 1073741824 else x_19) then (if 1073741824 < x_19 then 1073741824 else x_19) else (-1073741824))⟩ : Gdiff_Leq)]) fun s_25 =>
    some (.next (IntKind.i64.wrap (x_13.1 + (if (-1073741824) < (if 1073741824 < x_19 then 1073741824 else x_19) then (if 1073741824 < x_19 then 1073741824 else x_19) else (-1073741824))), s_25, IntKind.i64.wrap (x_13.2.2 + 1)))
  else
    some (.done (x_13.1, x_13.2.1))
noncomputable def lychgatelaw04_DiffChain (steps_1 : Sl Int) : Option Bool :=
  Option.bind (lychgatelaw04_wakes ) fun r_4 =>
  if !r_4 then
    some false
  else
    Option.bind (loopO (lychgatelaw04_DiffChain_L1 steps_1) (0, (⟨[], false⟩ : Sl Gdiff_Leq), 0)) fun y_28 =>
    if decide ((if 95 < steps_1.len then 95 else steps_1.len) = 0) then
      some true
    else
      Option.bind (diff_Entails (IntKind.i64.wrap ((if 95 < steps_1.len then 95 else steps_1.len) + 1)) (⟨0, (if 95 < steps_1.len then 95 else steps_1.len), y_28.1⟩ : Gdiff_Leq) y_28.2) fun r_34 =>
      Option.bind (diff_Entails (IntKind.i64.wrap ((if 95 < steps_1.len then 95 else steps_1.len) + 1)) (⟨0, (if 95 < steps_1.len then 95 else steps_1.len), IntKind.i64.wrap (y_28.1 - 1)⟩ : Gdiff_Leq) y_28.2) fun r_41 =>
      Option.bind (diff_Entails (IntKind.i64.wrap ((if 95 < steps_1.len then 95 else steps_1.len) + 1)) (⟨(if 95 < steps_1.len then 95 else steps_1.len), 0, 1099511627776⟩ : Gdiff_Leq) y_28.2) fun r_48 =>
      some (((((r_34.1 && !r_41.1) && !r_48.1) && decide (r_34.2 = 0)) && decide (r_41.2 = 0)) && decide (r_48.2 = 0))
noncomputable def lychgatelaw04_DiffMore_L1 (facts_5 : Sl Gdiff_Leq) (x_26 : (Sl Gdiff_Leq) × Int) : Option (Step ((Sl Gdiff_Leq) × Int) ((Sl Gdiff_Leq))) :=
  if decide (0 ≤ x_26.2) then
    Option.bind (gidx facts_5 x_26.2) fun x_32 =>
    Option.bind (gapp 24 x_26.1 [x_32]) fun s_38 =>
    some (.next (s_38, IntKind.i64.wrap (x_26.2 - 1)))
  else
    some (.done x_26.1)
noncomputable def lychgatelaw04_DiffMore_K1 (facts_5 : Sl Gdiff_Leq) (n_1 : Int) (y_11 : Gdiff_Leq × Gdiff_Leq) : Option Bool :=
  Option.bind (diff_Entails n_1 y_11.1 facts_5) fun r_18 =>
  Option.bind (loopO (lychgatelaw04_DiffMore_L1 facts_5) ((⟨[], false⟩ : Sl Gdiff_Leq), IntKind.i64.wrap (facts_5.len - 1))) fun y_41 =>
  Option.bind (diff_Entails n_1 y_11.1 y_41) fun r_46 =>
  Option.bind (gslice facts_5 0 (if 3 < facts_5.len then 3 else facts_5.len)) fun s_54 =>
  Option.bind (gapp 24 y_41 [y_11.2]) fun s_61 =>
  Option.bind (gapp 24 s_61 s_54.xs) fun s_65 =>
  Option.bind (diff_Entails n_1 y_11.1 s_65) fun r_69 =>
  Option.bind (lychgatelaw04_wakes ) fun r_77 =>
  if ((!r_77 || (r_18.1 != r_46.1)) || decide (r_18.2 ≠ r_46.2)) then
    some false
  else
    some (((decide (r_18.2 ≠ 0) || decide (r_69.2 ≠ 0)) || !r_18.1) || r_69.1)
noncomputable def lychgatelaw04_DiffMore (n_1 : Int) (goals_2 : GSt45) (facts_5 : Sl Gdiff_Leq) : Option Bool :=
  lychgatelaw04_DiffMore_K1 facts_5 n_1 (goals_2.e0, goals_2.e1)
noncomputable def lychgatelaw04_DiffTurned_L1 (facts_2 : Sl Gdiff_Leq) (x_22 : (Sl Gdiff_Leq) × Int) : Option (Step ((Sl Gdiff_Leq) × Int) ((Sl Gdiff_Leq))) :=
  if decide (0 ≤ x_22.2) then
    Option.bind (gidx facts_2 x_22.2) fun x_29 =>
    Option.bind (gidx facts_2 x_22.2) fun x_33 =>
    Option.bind (gapp 24 x_22.1 [x_29, x_33]) fun s_40 =>
    some (.next (s_40, IntKind.i64.wrap (x_22.2 - 1)))
  else
    some (.done x_22.1)
noncomputable def lychgatelaw04_DiffTurned_L2 (r_49 : (Sl Int) × (Sl Int) × Int) (r_60 : (Sl Int) × (Sl Int) × Int) (x_74 : Int) : Option (Step Int (W2 Unit Unit)) :=
  if decide (x_74 < r_49.1.len) then
    Option.bind (gidx r_49.1 x_74) fun x_79 =>
    Option.bind (gidx r_60.1 x_74) fun x_83 =>
    if decide (x_79 ≠ x_83) then
      some (.done (.b ()))
    else
      some (.next (IntKind.i64.wrap (x_74 + 1)))
  else
    some (.done (.a ()))
noncomputable def lychgatelaw04_DiffTurned (n_1 : Int) (facts_2 : Sl Gdiff_Leq) : Option Bool :=
  Option.bind (lychgatelaw04_wakes ) fun r_5 =>
  if (!r_5 || decide (384 < facts_2.len)) then
    Option.bind (lychgatelaw04_wakes ) fun r_14 =>
    some r_14
  else
    Option.bind (loopO (lychgatelaw04_DiffTurned_L1 facts_2) ((⟨[], false⟩ : Sl Gdiff_Leq), IntKind.i64.wrap (facts_2.len - 1))) fun y_44 =>
    Option.bind (diff_Solve n_1 facts_2) fun r_49 =>
    Option.bind (diff_Solve n_1 y_44) fun r_60 =>
    if ((decide (r_49.2.2 ≠ r_60.2.2) || decide (r_49.1.len ≠ r_60.1.len)) || ((decide (0 < r_49.2.1.len)) != (decide (0 < r_60.2.1.len)))) then
      some false
    else
      Option.bind (loopO (lychgatelaw04_DiffTurned_L2 r_49 r_60) 0) fun y_88 =>
      match y_88 with
      | .a y_89 =>
        Option.bind (if decide (r_60.2.1.len = 0) then
            some true
          else
            Option.bind (lychgatelaw04_circle y_44 r_60.2.1) fun r_94 =>
            some r_94) fun b_93 =>
        some b_93
      | .b y_103 =>
        some false
end Go.Px
