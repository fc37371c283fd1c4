/- The pure models. -/
import Derived.Test.YtdgfgjdoahoadaaTy
import Derived.Test.YtdgfgjdoahoadaaCS
namespace Go.Px
open Go.Proofs
set_option linter.unusedVariables false
noncomputable def slices_Clone (x_2 : Sl Gheap_Sym) : Option ((Sl Gheap_Sym)) :=
  if !x_2.nn then
    some (⟨[], false⟩ : Sl Gheap_Sym)
  else
    Option.bind (gapp 32 (⟨[], true⟩ : Sl Gheap_Sym) x_2.xs) fun s_8 =>
    some s_8
noncomputable def slices_Clip (x_2 : Sl Gheap_Chunk) : Option Unit :=
  some ()
noncomputable def heap_Heap_Put_K1 (k_36 : Sl Gheap_Chunk) (y_38 : Unit) : Option (Gheap_Sym × (Sl Gheap_Chunk)) :=
  some ((⟨2, 0, 0, IntKind.i64.wrap (k_36.len - 1)⟩ : Gheap_Sym), k_36)
noncomputable def heap_Heap_Put (x_3 : Sl Gheap_Chunk) (Vars_4 : Int) (x_6 : Sl Gdiff_Leq) (Origin_7 : Int) (Type_8 : Int) (At_9 : Int) (Live_10 : Bool) (Held_11 : Bool) (Array_12 : Bool) (Size_14 : Gheap_Sym) (x_17 : Sl Gheap_Sym) : Option (Gheap_Sym × (Sl Gheap_Chunk)) :=
  Option.bind (slices_Clone x_17) fun r_23 =>
  Option.bind (slices_Clip x_3) fun k_34 =>
  Option.bind (gapp 88 x_3 [(⟨Origin_7, Type_8, At_9, Live_10, Held_11, Array_12, Size_14, r_23⟩ : Gheap_Chunk)]) fun k_36 =>
  heap_Heap_Put_K1 k_36 ()
noncomputable def heap_Number (n_1 : Int) : Option Unit :=
  some ()
noncomputable def heap_Sym_of (s_2 : Gheap_Sym) (k_4 : Int) : Option Int :=
  if decide (s_2.Kind = k_4) then
    some 0
  else
    if decide (s_2.Kind = 0) then
      some 41
    else
      some 40
noncomputable def heap_Heap_chunk (x_3 : Sl Gheap_Chunk) (Vars_4 : Int) (x_6 : Sl Gdiff_Leq) (p_8 : Gheap_Sym) : Option ((Option Int) × Int) :=
  Option.bind (heap_Sym_of p_8 2) fun r_12 =>
  if decide (r_12 ≠ 0) then
    some ((none : Option Int), r_12)
  else
    Option.bind (if (decide (p_8.Block < 0) || decide (x_3.len ≤ p_8.Block)) then
        some true
      else
        Option.bind (gidx x_3 p_8.Block) fun x_24 =>
        some (!x_24.Live)) fun y_23 =>
    if y_23 then
      some ((none : Option Int), 43)
    else
      Option.bind (gidx x_3 p_8.Block) fun x_34 =>
      some ((some p_8.Block), 0)
noncomputable def slices_Clone_v2 (x_2 : Sl Gdiff_Leq) : Option ((Sl Gdiff_Leq)) :=
  if !x_2.nn then
    some (⟨[], false⟩ : Sl Gdiff_Leq)
  else
    Option.bind (gapp 24 (⟨[], true⟩ : Sl Gdiff_Leq) x_2.xs) fun s_8 =>
    some s_8
noncomputable def diff_fit_1 (f_2 : Gdiff_Leq) (f_5 : Int) : Option Unit :=
  some ()
noncomputable def slices_IndexFunc_L1 (f_4 : Int) (x_2 : Sl Gdiff_Leq) (x_5 : Int) : Option (Step Int (W2 Unit Int)) :=
  if decide (x_5 < x_2.len) then
    Option.bind (gidx x_2 x_5) fun x_10 =>
    Option.bind (diff_fit_1 x_10 f_4) fun r_14 =>
    if (((((decide (x_10.X < 0) || decide (f_4 ≤ x_10.X)) || decide (x_10.Y < 0)) || decide (f_4 ≤ x_10.Y)) || decide (8796093022208 < x_10.C)) || decide (x_10.C < (-8796093022208))) then
      some (.done (.b x_5))
    else
      some (.next (IntKind.i64.wrap (x_5 + 1)))
  else
    some (.done (.a ()))
noncomputable def slices_IndexFunc (x_2 : Sl Gdiff_Leq) (f_4 : Int) : Option Int :=
  Option.bind (loopO (slices_IndexFunc_L1 f_4 x_2) 0) fun y_22 =>
  match y_22 with
  | .a y_23 =>
    some (-1)
  | .b y_27 =>
    some y_27
noncomputable def slices_ContainsFunc (x_2 : Sl Gdiff_Leq) (f_4 : Int) : Option Bool :=
  Option.bind (slices_IndexFunc x_2 f_4) fun r_5 =>
  some (decide (0 ≤ r_5))
noncomputable def diff_fit (n_1 : Int) (x_3 : Sl Gdiff_Leq) : Option Int :=
  if decide (768 < x_3.len) then
    some 22
  else
    if (decide (n_1 < 1) || decide (96 < n_1)) then
      some 2
    else
      Option.bind (slices_ContainsFunc x_3 n_1) fun r_9 =>
      if r_9 then
        some 2
      else
        some 0
noncomputable def diff_solve_K1 (k_39 : Sl Int) (k_43 : Sl Int) (x_17 : (Sl Int) × (Sl Int) × Int × Int) (y_45 : Unit) : Option ((Sl Int) × (Sl Int) × Int) :=
  (some (k_39, k_43, x_17.2.2.2) : Option ((Sl Int) × (Sl Int) × Int))
noncomputable def diff_solve_L1 (x_3 : Sl Gdiff_Leq) (x_17 : (Sl Int) × (Sl Int) × Int × Int) : Option (Step ((Sl Int) × (Sl Int) × Int × Int) ((Sl Int) × (Sl Int) × Int)) :=
  if decide (x_17.2.2.2 < x_3.len) then
    Option.bind (
        Option.bind (gidx x_3 x_17.2.2.2) fun x_22 =>
        Option.bind (gidx x_17.1 x_22.Y) fun x_29 =>
        Option.bind (gidx x_17.1 x_22.X) fun x_33 =>
        Option.bind (
            if decide ((IntKind.i64.wrap (x_29 + x_22.C)) < x_33) then
              Option.bind (gset x_17.1 x_22.X (IntKind.i64.wrap (x_29 + x_22.C))) fun k_39 =>
              Option.bind (gidx x_17.2.1 x_22.X) fun k_41 =>
              Option.bind (gset x_17.2.1 x_22.X x_17.2.2.2) fun k_43 =>
              diff_solve_K1 k_39 k_43 x_17 ()
            else
              (some (x_17.1, x_17.2.1, x_17.2.2.1) : Option ((Sl Int) × (Sl Int) × Int))) fun y_62 =>
        (some (y_62.1, y_62.2.1, y_62.2.2) : Option ((Sl Int) × (Sl Int) × Int))) fun y_66 =>
    some (.next (y_66.1, y_66.2.1, y_66.2.2, IntKind.i64.wrap (x_17.2.2.2 + 1)))
  else
    some (.done (x_17.1, x_17.2.1, x_17.2.2.1))
noncomputable def diff_solve_L2 (n_1 : Int) (x_3 : Sl Gdiff_Leq) (x_12 : (Sl Int) × (Sl Int) × Int × Int) : Option (Step ((Sl Int) × (Sl Int) × Int × Int) (W2 ((Sl Int) × Int) ((Sl Int)))) :=
  if decide (x_12.2.2.2 < n_1) then
    Option.bind (loopO (diff_solve_L1 x_3) (x_12.1, x_12.2.1, (-1), 0)) fun y_70 =>
    if decide (y_70.2.2 < 0) then
      some (.done (.b y_70.1))
    else
      some (.next (y_70.1, y_70.2.1, y_70.2.2, IntKind.i64.wrap (x_12.2.2.2 + 1)))
  else
    some (.done (.a (x_12.2.1, x_12.2.2.1)))
noncomputable def diff_solve_L3 (n_1 : Int) (x_3 : Sl Gdiff_Leq) (y_76 : (Sl Int) × Int) (x_84 : Int × Int) : Option (Step (Int × Int) Int) :=
  if decide (x_84.2 < n_1) then
    Option.bind (gidx y_76.1 x_84.1) fun x_89 =>
    Option.bind (gidx x_3 x_89) fun x_93 =>
    some (.next (x_93.Y, IntKind.i64.wrap (x_84.2 + 1)))
  else
    some (.done x_84.1)
noncomputable def diff_solve_L4 (x_3 : Sl Gdiff_Leq) (y_76 : (Sl Int) × Int) (y_97 : Int) (x_102 : (Sl Int) × Int) : Option (Step ((Sl Int) × Int) ((Sl Int))) :=
  Option.bind (gidx y_76.1 x_102.2) fun x_108 =>
  Option.bind (gapp 8 x_102.1 [x_108]) fun s_115 =>
  Option.bind (gidx x_3 x_108) fun x_117 =>
  if decide (x_117.Y = y_97) then
    some (.done s_115)
  else
    some (.next (s_115, x_117.Y))
noncomputable def diff_solve (n_1 : Int) (x_3 : Sl Gdiff_Leq) : Option ((Sl Int) × (Sl Int)) :=
  Option.bind (gmake 8 n_1 0) fun s_6 =>
  Option.bind (loopO (diff_solve_L2 n_1 x_3) (s_6, s_6, (-1), 0)) fun y_75 =>
  match y_75 with
  | .a y_76 =>
    Option.bind (gidx x_3 y_76.2) fun x_80 =>
    Option.bind (loopO (diff_solve_L3 n_1 x_3 y_76) (x_80.X, 0)) fun y_97 =>
    Option.bind (loopO (diff_solve_L4 x_3 y_76 y_97) ((⟨[], false⟩ : Sl Int), y_97)) fun y_122 =>
    some ((⟨[], false⟩ : Sl Int), y_122)
  | .b y_129 =>
    some (y_129, (⟨[], false⟩ : Sl Int))
noncomputable def diff_Entails_K1 (goal_3 : Gdiff_Leq) (k_12 : Sl Gdiff_Leq) (n_1 : Int) (x_6 : Sl Gdiff_Leq) (y_14 : Unit) : Option (Bool × Int) :=
  Option.bind (diff_fit n_1 k_12) fun r_20 =>
  if decide (r_20 ≠ 0) then
    some (false, r_20)
  else
    if decide (goal_3.C = 8796093022208) then
      some (false, 2)
    else
      Option.bind (gidx k_12 x_6.len) fun x_29 =>
      Option.bind (gset k_12 x_6.len (⟨goal_3.Y, goal_3.X, IntKind.i64.wrap ((IntKind.i64.wrap (0 - goal_3.C)) - 1)⟩ : Gdiff_Leq)) fun s_31 =>
      Option.bind (diff_solve n_1 s_31) fun r_33 =>
      some (r_33.2.nn, 0)
noncomputable def diff_Entails (n_1 : Int) (goal_3 : Gdiff_Leq) (x_6 : Sl Gdiff_Leq) : Option (Bool × Int) :=
  Option.bind (slices_Clone_v2 x_6) fun k_10 =>
  Option.bind (gapp 24 k_10 [goal_3]) fun k_12 =>
  diff_Entails_K1 goal_3 k_12 n_1 x_6 ()
noncomputable def heap_Heap_Entails (x_3 : Sl Gheap_Chunk) (Vars_4 : Int) (x_6 : Sl Gdiff_Leq) (f_8 : Gdiff_Leq) : Option Bool :=
  Option.bind (diff_Entails Vars_4 f_8 x_6) fun r_13 =>
  some (r_13.1 && decide (r_13.2 = 0))
noncomputable def heap_Heap_within (x_3 : Sl Gheap_Chunk) (Vars_4 : Int) (x_6 : Sl Gdiff_Leq) (index_8 : Gheap_Sym) (size_11 : Gheap_Sym) : Option Bool :=
  Option.bind (heap_Heap_Entails x_3 Vars_4 x_6 (⟨0, index_8.Var, index_8.K⟩ : Gdiff_Leq)) fun r_17 =>
  Option.bind (if r_17 then
      Option.bind (heap_Heap_Entails x_3 Vars_4 x_6 (⟨index_8.Var, size_11.Var, IntKind.i64.wrap ((IntKind.i64.wrap (size_11.K - index_8.K)) - 1)⟩ : Gdiff_Leq)) fun r_26 =>
      some r_26
    else
      some false) fun y_25 =>
  some y_25
noncomputable def heap_Heap_reach (x_3 : Sl Gheap_Chunk) (Vars_4 : Int) (x_6 : Sl Gdiff_Leq) (p_8 : Gheap_Sym) (index_11 : Gheap_Sym) (write_13 : Bool) : Option ((Option Int) × Int) :=
  Option.bind (heap_Sym_of p_8 2) fun r_18 =>
  if decide (r_18 ≠ 0) then
    some ((none : Option Int), r_18)
  else
    Option.bind (heap_Sym_of index_11 1) fun r_26 =>
    if decide (r_26 ≠ 0) then
      some ((none : Option Int), r_26)
    else
      Option.bind (heap_Heap_chunk x_3 Vars_4 x_6 p_8) fun r_34 =>
      Option.bind (
          Option.bind (
              if decide (r_34.2 ≠ 0) then
                (some (.b r_34.2) : Option (W2 Unit Int))
              else
                Option.bind (if write_13 then
                    Option.bind (r_34.1) fun i_44 =>
                    Option.bind (gidx x_3 i_44) fun x_46 =>
                    some (decide (x_46.Origin = 3) || decide (x_46.Origin = 8))
                  else
                    some false) fun y_43 =>
                Option.bind (
                    if y_43 then
                      (some (.b 44) : Option (W2 Unit Int))
                    else
                      Option.bind (r_34.1) fun i_57 =>
                      Option.bind (gidx x_3 i_57) fun x_59 =>
                      Option.bind (
                          if (decide (x_59.Origin = 6) && !x_59.Held) then
                            (some (.b 45) : Option (W2 Unit Int))
                          else
                            Option.bind (
                                if x_59.Array then
                                  Option.bind (heap_Heap_within x_3 Vars_4 x_6 index_11 x_59.Size) fun r_73 =>
                                  if !r_73 then
                                    (some (.b 42) : Option (W2 Unit Int))
                                  else
                                    (some (.a ()) : Option (W2 Unit Int))
                                else
                                  Option.bind (if (decide (index_11.Var ≠ 0) || decide (index_11.K < 0)) then
                                      some true
                                    else
                                      some (decide (x_59.Cells.len ≤ index_11.K))) fun y_85 =>
                                  if y_85 then
                                    (some (.b 42) : Option (W2 Unit Int))
                                  else
                                    if (decide (x_59.Origin = 6) && decide (index_11.K = x_59.At)) then
                                      (some (.b 45) : Option (W2 Unit Int))
                                    else
                                      (some (.a ()) : Option (W2 Unit Int))) fun y_104 =>
                            match y_104 with
                            | .a y_105 =>
                              (some (.a ()) : Option (W2 Unit Int))
                            | .b y_109 =>
                              (some (.b y_109) : Option (W2 Unit Int))) fun y_113 =>
                      match y_113 with
                      | .a y_114 =>
                        (some (.a ()) : Option (W2 Unit Int))
                      | .b y_118 =>
                        (some (.b y_118) : Option (W2 Unit Int))) fun y_122 =>
                match y_122 with
                | .a y_123 =>
                  (some (.a ()) : Option (W2 Unit Int))
                | .b y_127 =>
                  (some (.b y_127) : Option (W2 Unit Int))) fun y_131 =>
          match y_131 with
          | .a y_132 =>
            (some (.a ()) : Option (W2 Unit Int))
          | .b y_136 =>
            (some (.b y_136) : Option (W2 Unit Int))) fun y_140 =>
      match y_140 with
      | .a y_141 =>
        some (r_34.1, 0)
      | .b y_145 =>
        some ((none : Option Int), y_145)
noncomputable def slices_Clip_v2 (x_2 : Sl Gdiff_Leq) : Option Unit :=
  some ()
noncomputable def heap_Heap_Assume (x_3 : Sl Gheap_Chunk) (Vars_4 : Int) (x_6 : Sl Gdiff_Leq) (x_8 : Sl Gdiff_Leq) : Option (Int × (Sl Gdiff_Leq)) :=
  if decide (768 < (IntKind.i64.wrap (x_6.len + x_8.len))) then
    some (22, x_6)
  else
    Option.bind (slices_Clip_v2 x_6) fun r_10 =>
    Option.bind (gapp 24 x_6 x_8.xs) fun s_19 =>
    some (0, s_19)
noncomputable def heap_Heap_Fresh (x_3 : Sl Gheap_Chunk) (Vars_4 : Int) (x_6 : Sl Gdiff_Leq) : Option (Gheap_Sym × Int × Int × (Sl Gdiff_Leq)) :=
  if decide (96 ≤ Vars_4) then
    some ((⟨0, 0, 0, 0⟩ : Gheap_Sym), 22, Vars_4, x_6)
  else
    Option.bind (heap_Heap_Assume x_3 Vars_4 x_6 (⟨[(⟨Vars_4, 0, 1099511627776⟩ : Gdiff_Leq), (⟨0, Vars_4, 1099511627776⟩ : Gdiff_Leq)], true⟩ : Sl Gdiff_Leq)) fun r_12 =>
    if decide (r_12.1 ≠ 0) then
      some ((⟨0, 0, 0, 0⟩ : Gheap_Sym), r_12.1, Vars_4, r_12.2)
    else
      some ((⟨1, Vars_4, 0, 0⟩ : Gheap_Sym), 0, IntKind.i64.wrap (Vars_4 + 1), r_12.2)
noncomputable def heap_Heap_Load (x_3 : Sl Gheap_Chunk) (Vars_4 : Int) (x_6 : Sl Gdiff_Leq) (p_8 : Gheap_Sym) (index_11 : Gheap_Sym) : Option (Gheap_Sym × Int × Int × (Sl Gdiff_Leq)) :=
  Option.bind (heap_Heap_reach x_3 Vars_4 x_6 p_8 index_11 false) fun r_19 =>
  if decide (r_19.2 ≠ 0) then
    some ((⟨0, 0, 0, 0⟩ : Gheap_Sym), r_19.2, Vars_4, x_6)
  else
    Option.bind (r_19.1) fun i_27 =>
    Option.bind (gidx x_3 i_27) fun x_29 =>
    if x_29.Array then
      Option.bind (heap_Heap_Fresh x_3 Vars_4 x_6) fun r_34 =>
      some (r_34.1, r_34.2.1, r_34.2.2.1, r_34.2.2.2)
    else
      Option.bind (gidx x_29.Cells index_11.K) fun x_48 =>
      if decide (x_48.Kind = 0) then
        some ((⟨0, 0, 0, 0⟩ : Gheap_Sym), 41, Vars_4, x_6)
      else
        some (x_48, 0, Vars_4, x_6)
noncomputable def heap_Heap_lock (x_3 : Sl Gheap_Chunk) (Vars_4 : Int) (x_6 : Sl Gdiff_Leq) (p_8 : Gheap_Sym) (n_10 : Int) (held_11 : Bool) : Option ((Option Int) × Int) :=
  Option.bind (heap_Heap_chunk x_3 Vars_4 x_6 p_8) fun r_14 =>
  if decide (r_14.2 ≠ 0) then
    some ((none : Option Int), r_14.2)
  else
    Option.bind (r_14.1) fun i_22 =>
    Option.bind (gidx x_3 i_22) fun x_24 =>
    if (decide (x_24.Origin ≠ 6) || (x_24.Held != held_11)) then
      some ((none : Option Int), 45)
    else
      if decide (n_10 ≠ x_24.At) then
        some ((none : Option Int), 42)
      else
        some (r_14.1, 0)
noncomputable def slices_Clone_v3 (s_2 : Sl Gheap_Chunk) : Option ((Sl (Gheap_Chunk × Bool))) :=
  if !s_2.nn then
    some (⟨[], false⟩ : Sl (Gheap_Chunk × Bool))
  else
    Option.bind (gapp 88 (⟨[], true⟩ : Sl (Gheap_Chunk × Bool)) (tag0 s_2.xs)) fun s_9 =>
    some s_9
noncomputable def slices_Clone_v4 (s_2 : Sl Gdiff_Leq) : Option ((Sl Gdiff_Leq)) :=
  if !s_2.nn then
    some (⟨[], false⟩ : Sl Gdiff_Leq)
  else
    Option.bind (gapp 24 (⟨[], true⟩ : Sl Gdiff_Leq) s_2.xs) fun s_9 =>
    some s_9
noncomputable def slices_Clone_v5 (s_2 : Sl Gheap_Sym) : Option ((Sl Gheap_Sym)) :=
  if !s_2.nn then
    some (⟨[], false⟩ : Sl Gheap_Sym)
  else
    Option.bind (gapp 32 (⟨[], true⟩ : Sl Gheap_Sym) s_2.xs) fun s_9 =>
    some s_9
noncomputable def heap_Heap_Copy_L1 (r_10 : (Sl (Gheap_Chunk × Bool))) (x_37 : (Sl (Gheap_Chunk × Bool)) × Int) : Option (Step ((Sl (Gheap_Chunk × Bool)) × Int) ((Sl (Gheap_Chunk × Bool)))) :=
  if decide (x_37.2 < r_10.len) then
    Option.bind (gidx x_37.1 x_37.2) fun x_43 =>
    Option.bind (untag0 x_43) fun x_46 =>
    Option.bind (slices_Clone_v5 x_46.Cells) fun r_56 =>
    some (.next ((Sl.set x_37.1 x_37.2 ((⟨x_46.Origin, x_46.Type_, x_46.At, x_46.Live, x_46.Held, x_46.Array, x_46.Size, r_56⟩ : Gheap_Chunk), true)), IntKind.i64.wrap (x_37.2 + 1)))
  else
    some (.done x_37.1)
noncomputable def heap_Heap_Copy (Chunks_3 : Sl Gheap_Chunk) (Vars_5 : Int) (Facts_7 : Sl Gdiff_Leq) : Option ((Sl Gheap_Chunk) × (Sl Gdiff_Leq)) :=
  Option.bind (slices_Clone_v3 Chunks_3) fun r_10 =>
  Option.bind (slices_Clone_v4 Facts_7) fun r_20 =>
  Option.bind (loopO (heap_Heap_Copy_L1 r_10) (r_10, 0)) fun y_76 =>
  Option.bind (untag y_76) fun s_80 =>
  some (s_80, r_20)
noncomputable def heap_Heap_Assume_v2 (Vars_3 : Int) (x_5 : Sl Gdiff_Leq) (x_7 : Sl Gdiff_Leq) : Option (Int × (Sl Gdiff_Leq)) :=
  if decide (768 < (IntKind.i64.wrap (x_5.len + x_7.len))) then
    some (22, x_5)
  else
    Option.bind (slices_Clip_v2 x_5) fun r_9 =>
    Option.bind (gapp 24 x_5 x_7.xs) fun s_18 =>
    some (0, s_18)
noncomputable def heap_Heap_Fresh_v2 (Vars_3 : Int) (x_5 : Sl Gdiff_Leq) : Option (Gheap_Sym × Int × Int × (Sl Gdiff_Leq)) :=
  if decide (96 ≤ Vars_3) then
    some ((⟨0, 0, 0, 0⟩ : Gheap_Sym), 22, Vars_3, x_5)
  else
    Option.bind (heap_Heap_Assume_v2 Vars_3 x_5 (⟨[(⟨Vars_3, 0, 1099511627776⟩ : Gdiff_Leq), (⟨0, Vars_3, 1099511627776⟩ : Gdiff_Leq)], true⟩ : Sl Gdiff_Leq)) fun r_11 =>
    if decide (r_11.1 ≠ 0) then
      some ((⟨0, 0, 0, 0⟩ : Gheap_Sym), r_11.1, Vars_3, r_11.2)
    else
      some ((⟨1, Vars_3, 0, 0⟩ : Gheap_Sym), 0, IntKind.i64.wrap (Vars_3 + 1), r_11.2)
noncomputable def heap_Over_1 (v_1 : Int) (x_4 : Sl Gheap_Sym) : Option (Int × Int) :=
  Option.bind (if decide (v_1 = 0) then
      some true
    else
      Option.bind (gidx x_4 (IntKind.i64.wrap (v_1 - 1))) fun x_7 =>
      some (decide (x_7.Kind ≠ 1))) fun y_6 =>
  if y_6 then
    some (0, 0)
  else
    Option.bind (gidx x_4 (IntKind.i64.wrap (v_1 - 1))) fun x_16 =>
    some (x_16.Var, x_16.K)
noncomputable def heap_Over_L1 (facts_2 : Sl Gdiff_Leq) (x_5 : Sl Gheap_Sym) (x_10 : (Sl Gdiff_Leq) × Int) : Option (Step ((Sl Gdiff_Leq) × Int) ((Sl Gdiff_Leq))) :=
  if decide (x_10.2 < facts_2.len) then
    Option.bind (gidx facts_2 x_10.2) fun x_17 =>
    Option.bind (heap_Over_1 x_17.X x_5) fun r_23 =>
    Option.bind (heap_Over_1 x_17.Y x_5) fun r_30 =>
    Option.bind (gapp 24 x_10.1 [(⟨r_23.1, r_30.1, IntKind.i64.wrap ((IntKind.i64.wrap (x_17.C - r_23.2)) + r_30.2)⟩ : Gdiff_Leq)]) fun s_40 =>
    some (.next (s_40, IntKind.i64.wrap (x_10.2 + 1)))
  else
    some (.done x_10.1)
noncomputable def heap_Over (facts_2 : Sl Gdiff_Leq) (x_5 : Sl Gheap_Sym) : Option ((Sl Gdiff_Leq)) :=
  Option.bind (loopO (heap_Over_L1 facts_2 x_5) ((⟨[], false⟩ : Sl Gdiff_Leq), 0)) fun y_42 =>
  some y_42
noncomputable def heap_Heap_Lock_L1 (p_8 : Gheap_Sym) (x_41 : Gheap_Chunk) (x_46 : (Sl Gheap_Chunk) × Int × (Sl Gdiff_Leq) × Int) : Option (Step ((Sl Gheap_Chunk) × Int × (Sl Gdiff_Leq) × Int) (W2 ((Sl Gheap_Chunk) × Int × (Sl Gdiff_Leq)) Int)) :=
  if decide (x_46.2.2.2 < x_41.Cells.len) then
    Option.bind (
        Option.bind (gidx x_46.1 p_8.Block) fun x_52 =>
        if decide (x_46.2.2.2 = x_52.At) then
          (some (.a (x_46.1, x_46.2.1, x_46.2.2.1)) : Option (W2 ((Sl Gheap_Chunk) × Int × (Sl Gdiff_Leq)) Int))
        else
          Option.bind (heap_Heap_Fresh x_46.1 x_46.2.1 x_46.2.2.1) fun r_57 =>
          if decide (r_57.2.1 ≠ 0) then
            (some (.b r_57.2.1) : Option (W2 ((Sl Gheap_Chunk) × Int × (Sl Gdiff_Leq)) Int))
          else
            Option.bind (gidx x_52.Cells x_46.2.2.2) fun x_74 =>
            Option.bind (gset x_52.Cells x_46.2.2.2 r_57.1) fun s_77 =>
            (some (.a ((Sl.set x_46.1 p_8.Block (⟨x_52.Origin, x_52.Type_, x_52.At, x_52.Live, x_52.Held, x_52.Array, x_52.Size, s_77⟩ : Gheap_Chunk)), r_57.2.2.1, r_57.2.2.2)) : Option (W2 ((Sl Gheap_Chunk) × Int × (Sl Gdiff_Leq)) Int))) fun y_80 =>
    match y_80 with
    | .a y_81 =>
      some (.next (y_81.1, y_81.2.1, y_81.2.2, IntKind.i64.wrap (x_46.2.2.2 + 1)))
    | .b y_86 =>
      some (.done (.b y_86))
  else
    some (.done (.a (x_46.1, x_46.2.1, x_46.2.2.1)))
noncomputable def heap_Heap_Lock (x_3 : Sl Gheap_Chunk) (Vars_4 : Int) (x_6 : Sl Gdiff_Leq) (p_8 : Gheap_Sym) (n_10 : Int) (facts_12 : Sl Gdiff_Leq) : Option (Int × (Sl Gheap_Chunk) × Int × (Sl Gdiff_Leq)) :=
  Option.bind (heap_Heap_lock x_3 Vars_4 x_6 p_8 n_10 false) fun r_16 =>
  if decide (r_16.2 ≠ 0) then
    some (r_16.2, x_3, Vars_4, x_6)
  else
    Option.bind (heap_Heap_Copy x_3 Vars_4 x_6) fun r_26 =>
    Option.bind (gidx r_26.1 p_8.Block) fun x_41 =>
    Option.bind (loopO (heap_Heap_Lock_L1 p_8 x_41) (r_26.1, Vars_4, r_26.2, 0)) fun y_90 =>
    match y_90 with
    | .a y_91 =>
      Option.bind (gidx y_91.1 p_8.Block) fun x_96 =>
      Option.bind (heap_Over facts_12 x_96.Cells) fun r_101 =>
      Option.bind (heap_Heap_Assume_v2 y_91.2.1 y_91.2.2 r_101) fun r_110 =>
      if decide (r_110.1 ≠ 0) then
        some (r_110.1, x_3, Vars_4, x_6)
      else
        some (0, (Sl.set y_91.1 p_8.Block (⟨x_96.Origin, x_96.Type_, x_96.At, x_96.Live, true, x_96.Array, x_96.Size, x_96.Cells⟩ : Gheap_Chunk)), y_91.2.1, r_110.2)
    | .b y_121 =>
      some (y_121, x_3, Vars_4, x_6)
noncomputable def lychgatelaw13_wakes_K1 (k_23 : Gheap_Sym × Int × Int × (Sl Gdiff_Leq)) (k_44 : Gheap_Sym × Int × Int × (Sl Gdiff_Leq)) (k_56 : Gheap_Sym × Int × Int × (Sl Gdiff_Leq)) (r_30 : Int × (Sl Gheap_Chunk) × Int × (Sl Gdiff_Leq)) (y_58 : Unit) : Option Bool :=
  some (((((decide (k_23.2.1 = 45) && decide (r_30.1 = 0)) && decide (k_44.2.1 = 0)) && decide (k_44.1 = (⟨1, 1, 0, 0⟩ : Gheap_Sym))) && decide (k_56.2.1 = 45)) && decide (k_56.2.2.1 = 2))
noncomputable def lychgatelaw13_wakes_K2 (k_23 : Gheap_Sym × Int × Int × (Sl Gdiff_Leq)) (k_44 : Gheap_Sym × Int × Int × (Sl Gdiff_Leq)) (r_10 : Gheap_Sym × (Sl Gheap_Chunk)) (r_30 : Int × (Sl Gheap_Chunk) × Int × (Sl Gdiff_Leq)) (y_46 : Unit) : Option Bool :=
  Option.bind (heap_Number 0) fun k_54 =>
  Option.bind (heap_Heap_Load r_30.2.1 k_44.2.2.1 k_44.2.2.2 r_10.1 (⟨1, 0, 0, 0⟩ : Gheap_Sym)) fun k_56 =>
  lychgatelaw13_wakes_K1 k_23 k_44 k_56 r_30 ()
noncomputable def lychgatelaw13_wakes_K3 (k_23 : Gheap_Sym × Int × Int × (Sl Gdiff_Leq)) (r_10 : Gheap_Sym × (Sl Gheap_Chunk)) (y_25 : Unit) : Option Bool :=
  Option.bind (heap_Heap_Lock r_10.2 k_23.2.2.1 k_23.2.2.2 r_10.1 0 (⟨[], false⟩ : Sl Gdiff_Leq)) fun r_30 =>
  Option.bind (heap_Number 1) fun k_42 =>
  Option.bind (heap_Heap_Load r_30.2.1 r_30.2.2.1 r_30.2.2.2 r_10.1 (⟨1, 0, 1, 0⟩ : Gheap_Sym)) fun k_44 =>
  lychgatelaw13_wakes_K2 k_23 k_44 r_10 r_30 ()
noncomputable def lychgatelaw13_wakes  : Option Bool :=
  Option.bind (gmake 32 2 (⟨0, 0, 0, 0⟩ : Gheap_Sym)) fun s_5 =>
  Option.bind (heap_Heap_Put (⟨[], false⟩ : Sl Gheap_Chunk) 1 (⟨[], false⟩ : Sl Gdiff_Leq) 6 0 0 true false false (⟨0, 0, 0, 0⟩ : Gheap_Sym) s_5) fun r_10 =>
  Option.bind (heap_Number 1) fun k_21 =>
  Option.bind (heap_Heap_Load r_10.2 1 (⟨[], false⟩ : Sl Gdiff_Leq) r_10.1 (⟨1, 0, 1, 0⟩ : Gheap_Sym)) fun k_23 =>
  lychgatelaw13_wakes_K3 k_23 r_10 ()
noncomputable def lychgatelaw13_cut (n_1 : Int) : Option Unit :=
  some ()
noncomputable def lychgatelaw13_sym (x_3 : Sl Gheap_Chunk) (Vars_4 : Int) (x_6 : Sl Gdiff_Leq) (s_8 : Gheap_Sym) : Option Gheap_Sym :=
  Option.bind (
      Option.bind (
          if decide (s_8.Kind = 1) then
            Option.bind (gmod .i64 (if 0 < s_8.Var then s_8.Var else 0) Vars_4) fun q_16 =>
            Option.bind (lychgatelaw13_cut s_8.K) fun r_18 =>
            (some (.b (⟨1, q_16, (if (-1099511627776) < (if 1099511627776 < s_8.K then 1099511627776 else s_8.K) then (if 1099511627776 < s_8.K then 1099511627776 else s_8.K) else (-1099511627776)), 0⟩ : Gheap_Sym)) : Option (W2 Unit Gheap_Sym))
          else
            Option.bind (
                if decide (s_8.Kind = 2) then
                  if decide (0 < x_3.len) then
                    Option.bind (gmod .i64 (if 0 < s_8.Block then s_8.Block else 0) x_3.len) fun q_28 =>
                    (some (.b (⟨2, 0, 0, q_28⟩ : Gheap_Sym)) : Option (W2 Unit Gheap_Sym))
                  else
                    (some (.a ()) : Option (W2 Unit Gheap_Sym))
                else
                  (some (.a ()) : Option (W2 Unit Gheap_Sym))) fun y_30 =>
            match y_30 with
            | .a y_31 =>
              (some (.a ()) : Option (W2 Unit Gheap_Sym))
            | .b y_35 =>
              (some (.b y_35) : Option (W2 Unit Gheap_Sym))) fun y_39 =>
      match y_39 with
      | .a y_40 =>
        (some (.a ()) : Option (W2 Unit Gheap_Sym))
      | .b y_44 =>
        (some (.b y_44) : Option (W2 Unit Gheap_Sym))) fun y_48 =>
  match y_48 with
  | .a y_49 =>
    some (⟨0, 0, 0, 0⟩ : Gheap_Sym)
  | .b y_53 =>
    some y_53
noncomputable def lychgatelaw13_facts_L1 (n_4 : Int) (s_7 : Sl Gdiff_Leq) (x_10 : (Sl Gdiff_Leq) × Int) : Option (Step ((Sl Gdiff_Leq) × Int) ((Sl Gdiff_Leq))) :=
  if decide (x_10.2 < s_7.len) then
    Option.bind (gidx s_7 x_10.2) fun x_17 =>
    Option.bind (gmod .i64 (if 0 < x_17.X then x_17.X else 0) n_4) fun q_24 =>
    Option.bind (gmod .i64 (if 0 < x_17.Y then x_17.Y else 0) n_4) fun q_26 =>
    Option.bind (lychgatelaw13_cut x_17.C) fun r_28 =>
    Option.bind (gapp 24 x_10.1 [(⟨q_24, q_26, (if (-1099511627776) < (if 1099511627776 < x_17.C then 1099511627776 else x_17.C) then (if 1099511627776 < x_17.C then 1099511627776 else x_17.C) else (-1099511627776))⟩ : Gdiff_Leq)]) fun s_40 =>
    some (.next (s_40, IntKind.i64.wrap (x_10.2 + 1)))
  else
    some (.done x_10.1)
noncomputable def lychgatelaw13_facts (l_2 : Sl Gdiff_Leq) (n_4 : Int) : Option ((Sl Gdiff_Leq)) :=
  Option.bind (gslice l_2 0 (if 9 < l_2.len then 9 else l_2.len)) fun s_7 =>
  Option.bind (loopO (lychgatelaw13_facts_L1 n_4 s_7) ((⟨[], false⟩ : Sl Gdiff_Leq), 0)) fun y_43 =>
  some y_43
noncomputable def heap_Over_v2_L1 (x_2 : Sl Gdiff_Leq) (x_4 : Sl Gheap_Sym) (x_9 : (Sl Gdiff_Leq) × Int) : Option (Step ((Sl Gdiff_Leq) × Int) ((Sl Gdiff_Leq))) :=
  if decide (x_9.2 < x_2.len) then
    Option.bind (gidx x_2 x_9.2) fun x_16 =>
    Option.bind (heap_Over_1 x_16.X x_4) fun r_22 =>
    Option.bind (heap_Over_1 x_16.Y x_4) fun r_29 =>
    Option.bind (gapp 24 x_9.1 [(⟨r_22.1, r_29.1, IntKind.i64.wrap ((IntKind.i64.wrap (x_16.C - r_22.2)) + r_29.2)⟩ : Gdiff_Leq)]) fun s_39 =>
    some (.next (s_39, IntKind.i64.wrap (x_9.2 + 1)))
  else
    some (.done x_9.1)
noncomputable def heap_Over_v2 (x_2 : Sl Gdiff_Leq) (x_4 : Sl Gheap_Sym) : Option ((Sl Gdiff_Leq)) :=
  Option.bind (loopO (heap_Over_v2_L1 x_2 x_4) ((⟨[], false⟩ : Sl Gdiff_Leq), 0)) fun y_41 =>
  some y_41
noncomputable def lychgatelaw13_HeapOver_1 (v_1 : Int) (x_4 : Sl Int) (x_7 : Sl Gheap_Sym) : Option Int :=
  if decide (v_1 = 0) then
    some 0
  else
    Option.bind (gidx x_7 (IntKind.i64.wrap (v_1 - 1))) fun x_10 =>
    Option.bind (gidx x_4 x_10.Var) fun x_14 =>
    some (IntKind.i64.wrap (x_14 + x_10.K))
noncomputable def lychgatelaw13_HeapOver_L1 (numbers_8 : Sl Int) (x_29 : (Sl Gheap_Chunk) × (Sl Gdiff_Leq) × (Sl Int) × Int) : Option (Step ((Sl Gheap_Chunk) × (Sl Gdiff_Leq) × (Sl Int) × Int) ((Sl Gheap_Chunk) × (Sl Gdiff_Leq) × (Sl Int))) :=
  if decide (x_29.2.2.2 < (IntKind.i64.wrap ((IntKind.i64.wrap (1 + (if 9 < numbers_8.len then 9 else numbers_8.len))) - 1))) then
    Option.bind (gidx numbers_8 x_29.2.2.2) fun x_39 =>
    Option.bind (lychgatelaw13_cut x_39) fun r_43 =>
    Option.bind (gidx x_29.2.2.1 (IntKind.i64.wrap (x_29.2.2.2 + 1))) fun x_51 =>
    Option.bind (gset x_29.2.2.1 (IntKind.i64.wrap (x_29.2.2.2 + 1)) (if (-1099511627776) < (if 1099511627776 < x_39 then 1099511627776 else x_39) then (if 1099511627776 < x_39 then 1099511627776 else x_39) else (-1099511627776))) fun s_53 =>
    some (.next (x_29.1, x_29.2.1, s_53, IntKind.i64.wrap (x_29.2.2.2 + 1)))
  else
    some (.done (x_29.1, x_29.2.1, x_29.2.2.1))
noncomputable def lychgatelaw13_HeapOver_L2 (s_68 : Sl Gheap_Sym) (y_56 : (Sl Gheap_Chunk) × (Sl Gdiff_Leq) × (Sl Int)) (x_71 : Int × (Sl Gheap_Sym) × Int) : Option (Step (Int × (Sl Gheap_Sym) × Int) ((Sl Gheap_Sym))) :=
  if decide (x_71.2.2 < s_68.len) then
    Option.bind (gidx s_68 x_71.2.2) fun x_78 =>
    Option.bind (lychgatelaw13_sym y_56.1 x_71.1 y_56.2.1 (⟨1, x_78.Var, x_78.K, 0⟩ : Gheap_Sym)) fun r_85 =>
    Option.bind (gapp 32 x_71.2.1 [r_85]) fun s_98 =>
    some (.next (x_71.1, s_98, IntKind.i64.wrap (x_71.2.2 + 1)))
  else
    some (.done x_71.2.1)
noncomputable def lychgatelaw13_HeapOver_L3 (r_109 : (Sl Gdiff_Leq)) (r_118 : (Sl Gdiff_Leq)) (y_103 : (Sl Gheap_Sym)) (y_56 : (Sl Gheap_Chunk) × (Sl Gdiff_Leq) × (Sl Int)) (x_128 : Int) : Option (Step Int (W2 Unit Unit)) :=
  if decide (x_128 < r_109.len) then
    Option.bind (gidx r_109 x_128) fun x_133 =>
    Option.bind (gidx r_118 x_128) fun x_139 =>
    Option.bind (gidx y_56.2.2 x_139.X) fun x_146 =>
    Option.bind (gidx y_56.2.2 x_139.Y) fun x_150 =>
    Option.bind (lychgatelaw13_HeapOver_1 x_133.X y_56.2.2 y_103) fun r_154 =>
    Option.bind (lychgatelaw13_HeapOver_1 x_133.Y y_56.2.2 y_103) fun r_163 =>
    if ((decide ((IntKind.i64.wrap (r_154 - r_163)) ≤ x_133.C)) != (decide ((IntKind.i64.wrap (x_146 - x_150)) ≤ x_139.C))) then
      some (.done (.b ()))
    else
      some (.next (IntKind.i64.wrap (x_128 + 1)))
  else
    some (.done (.a ()))
noncomputable def lychgatelaw13_HeapOver (l_2 : Sl Gdiff_Leq) (cells_5 : Sl Gheap_Sym) (numbers_8 : Sl Int) : Option Bool :=
  Option.bind (lychgatelaw13_wakes) fun r_12 =>
  if !r_12 then
    some false
  else
    Option.bind (gmake 8 (IntKind.i64.wrap (1 + (if 9 < numbers_8.len then 9 else numbers_8.len))) 0) fun s_22 =>
    Option.bind (loopO (lychgatelaw13_HeapOver_L1 numbers_8) ((⟨[], false⟩ : Sl Gheap_Chunk), (⟨[], false⟩ : Sl Gdiff_Leq), s_22, 0)) fun y_56 =>
    Option.bind (gslice cells_5 0 (if 9 < cells_5.len then 9 else cells_5.len)) fun s_68 =>
    Option.bind (loopO (lychgatelaw13_HeapOver_L2 s_68 y_56) (IntKind.i64.wrap (1 + (if 9 < numbers_8.len then 9 else numbers_8.len)), (⟨[], false⟩ : Sl Gheap_Sym), 0)) fun y_103 =>
    Option.bind (lychgatelaw13_facts l_2 (IntKind.i64.wrap (y_103.len + 1))) fun r_109 =>
    Option.bind (heap_Over_v2 r_109 y_103) fun r_118 =>
    if decide (r_118.len ≠ r_109.len) then
      some false
    else
      Option.bind (loopO (lychgatelaw13_HeapOver_L3 r_109 r_118 y_103 y_56) 0) fun y_172 =>
      match y_172 with
      | .a y_173 =>
        some true
      | .b y_177 =>
        some false
noncomputable def lychgatelaw13_sym_v2 (x_3 : Sl Gheap_Chunk) (Vars_4 : Int) (x_6 : Sl Gdiff_Leq) (s_8 : Gheap_Sym) : Option Gheap_Sym :=
  Option.bind (
      Option.bind (
          if decide (s_8.Kind = 1) then
            Option.bind (gmod .i64 (if 0 < s_8.Var then s_8.Var else 0) Vars_4) fun q_16 =>
            Option.bind (lychgatelaw13_cut s_8.K) fun r_18 =>
            (some (.b (⟨1, q_16, (if (-1099511627776) < (if 1099511627776 < s_8.K then 1099511627776 else s_8.K) then (if 1099511627776 < s_8.K then 1099511627776 else s_8.K) else (-1099511627776)), 0⟩ : Gheap_Sym)) : Option (W2 Unit Gheap_Sym))
          else
            Option.bind (
                if decide (s_8.Kind = 2) then
                  if decide (0 < x_3.len) then
                    Option.bind (gmod .i64 (if 0 < s_8.Block then s_8.Block else 0) x_3.len) fun q_28 =>
                    (some (.b (⟨2, 0, 0, q_28⟩ : Gheap_Sym)) : Option (W2 Unit Gheap_Sym))
                  else
                    (some (.a ()) : Option (W2 Unit Gheap_Sym))
                else
                  (some (.a ()) : Option (W2 Unit Gheap_Sym))) fun y_30 =>
            match y_30 with
            | .a y_31 =>
              (some (.a ()) : Option (W2 Unit Gheap_Sym))
            | .b y_35 =>
              (some (.b y_35) : Option (W2 Unit Gheap_Sym))) fun y_39 =>
      match y_39 with
      | .a y_40 =>
        (some (.a ()) : Option (W2 Unit Gheap_Sym))
      | .b y_44 =>
        (some (.b y_44) : Option (W2 Unit Gheap_Sym))) fun y_48 =>
  match y_48 with
  | .a y_49 =>
    some (⟨0, 0, 0, 0⟩ : Gheap_Sym)
  | .b y_53 =>
    some y_53
noncomputable def lychgatelaw13_chunk_L1 (Vars_4 : Int) (s_31 : Sl Gheap_Sym) (x_3 : Sl Gheap_Chunk) (x_6 : Sl Gdiff_Leq) (x_35 : (Sl Gheap_Sym) × (Sl Gheap_Sym) × Int) : Option (Step ((Sl Gheap_Sym) × (Sl Gheap_Sym) × Int) ((Sl Gheap_Sym) × (Sl Gheap_Sym))) :=
  if decide (x_35.2.2 < s_31.len) then
    Option.bind (gidx s_31 x_35.2.2) fun x_44 =>
    Option.bind (lychgatelaw13_sym_v2 x_3 Vars_4 x_6 x_44) fun r_51 =>
    Option.bind (gapp 32 x_35.2.1 [r_51]) fun s_64 =>
    some (.next (x_35.1, s_64, IntKind.i64.wrap (x_35.2.2 + 1)))
  else
    some (.done (x_35.1, x_35.2.1))
noncomputable def lychgatelaw13_chunk (x_3 : Sl Gheap_Chunk) (Vars_4 : Int) (x_6 : Sl Gdiff_Leq) (c_8 : Gheap_Chunk) : Option (Int × Gheap_Sym × (Sl Gheap_Sym)) :=
  Option.bind (gmod .i64 (if 0 < c_8.Type_ then c_8.Type_ else 0) 9) fun q_16 =>
  if c_8.Array then
    Option.bind (lychgatelaw13_sym_v2 x_3 Vars_4 x_6 (⟨1, c_8.Size.Var, c_8.Size.K, 0⟩ : Gheap_Sym)) fun r_21 =>
    some (q_16, r_21, (⟨[], false⟩ : Sl Gheap_Sym))
  else
    Option.bind (gslice c_8.Cells 0 (if 9 < c_8.Cells.len then 9 else c_8.Cells.len)) fun s_31 =>
    Option.bind (loopO (lychgatelaw13_chunk_L1 Vars_4 s_31 x_3 x_6) ((⟨[], false⟩ : Sl Gheap_Sym), (⟨[], false⟩ : Sl Gheap_Sym), 0)) fun y_69 =>
    some (q_16, (⟨0, 0, 0, 0⟩ : Gheap_Sym), y_69.2)
noncomputable def heap_Heap_Put_v2_K1 (k_36 : Sl Gheap_Chunk) (y_38 : Unit) : Option (Gheap_Sym × (Sl Gheap_Chunk)) :=
  some ((⟨2, 0, 0, IntKind.i64.wrap (k_36.len - 1)⟩ : Gheap_Sym), k_36)
noncomputable def heap_Heap_Put_v2 (x_3 : Sl Gheap_Chunk) (Vars_4 : Int) (x_6 : Sl Gdiff_Leq) (Origin_7 : Int) (Type_8 : Int) (At_9 : Int) (Live_10 : Bool) (Held_11 : Bool) (Array_12 : Bool) (Size_14 : Gheap_Sym) (x_17 : Sl Gheap_Sym) : Option (Gheap_Sym × (Sl Gheap_Chunk)) :=
  Option.bind (slices_Clone x_17) fun r_23 =>
  Option.bind (slices_Clip x_3) fun k_34 =>
  Option.bind (gapp 88 x_3 [(⟨Origin_7, Type_8, At_9, Live_10, Held_11, Array_12, Size_14, r_23⟩ : Gheap_Chunk)]) fun k_36 =>
  heap_Heap_Put_v2_K1 k_36 ()
noncomputable def lychgatelaw13_symRef (s_2 : Gheap_Sym) : Option Unit :=
  some ()
noncomputable def lychgatelaw13_chunkRef_L1 (x_11 : Sl Gheap_Sym) (x_30 : (Sl Glychgateref13_Sym) × Int) : Option (Step ((Sl Glychgateref13_Sym) × Int) ((Sl Glychgateref13_Sym))) :=
  if decide (x_30.2 < x_11.len) then
    Option.bind (gidx x_11 x_30.2) fun x_36 =>
    Option.bind (lychgatelaw13_symRef x_36) fun r_43 =>
    Option.bind (gapp 32 x_30.1 [(⟨x_36.Kind, x_36.Var, x_36.K, x_36.Block⟩ : Glychgateref13_Sym)]) fun s_55 =>
    some (.next (s_55, IntKind.i64.wrap (x_30.2 + 1)))
  else
    some (.done x_30.1)
noncomputable def lychgatelaw13_chunkRef_K1 (x_11 : Sl Gheap_Sym) (y_20 : (Sl Glychgateref13_Sym) × (Sl Glychgateref13_Sym)) : Option ((Sl Glychgateref13_Sym)) :=
  Option.bind (loopO (lychgatelaw13_chunkRef_L1 x_11) (y_20.2, 0)) fun y_60 =>
  some y_60
noncomputable def lychgatelaw13_chunkRef (Origin_1 : Int) (Type_2 : Int) (At_3 : Int) (Live_4 : Bool) (Held_5 : Bool) (Array_6 : Bool) (Size_8 : Gheap_Sym) (x_11 : Sl Gheap_Sym) : Option ((Sl Glychgateref13_Sym)) :=
  Option.bind (lychgatelaw13_symRef Size_8) fun k_18 =>
  lychgatelaw13_chunkRef_K1 x_11 ((⟨[], false⟩ : Sl Glychgateref13_Sym), (⟨[], false⟩ : Sl Glychgateref13_Sym))
noncomputable def lychgateref13_Put_L1 (x_17 : Sl Glychgateref13_Sym) (x_24 : (Sl Glychgateref13_Sym) × Int) : Option (Step ((Sl Glychgateref13_Sym) × Int) ((Sl Glychgateref13_Sym))) :=
  if decide (x_24.2 < x_17.len) then
    Option.bind (gidx x_17 x_24.2) fun x_31 =>
    Option.bind (gapp 32 x_24.1 [x_31]) fun s_38 =>
    some (.next (s_38, IntKind.i64.wrap (x_24.2 + 1)))
  else
    some (.done x_24.1)
noncomputable def lychgateref13_Put_K1 (k_48 : Sl Glychgateref13_Chunk) (y_50 : Unit) : Option (Glychgateref13_Sym × (Sl Glychgateref13_Chunk)) :=
  some ((⟨2, 0, 0, IntKind.i64.wrap (k_48.len - 1)⟩ : Glychgateref13_Sym), k_48)
noncomputable def lychgateref13_Put (x_3 : Sl Glychgateref13_Chunk) (Vars_4 : Int) (x_6 : Sl Glychgateref04_Leq) (Origin_7 : Int) (Type_8 : Int) (At_9 : Int) (Live_10 : Bool) (Held_11 : Bool) (Array_12 : Bool) (Size_14 : Glychgateref13_Sym) (x_17 : Sl Glychgateref13_Sym) : Option (Glychgateref13_Sym × (Sl Glychgateref13_Chunk)) :=
  Option.bind (loopO (lychgateref13_Put_L1 x_17) ((⟨[], false⟩ : Sl Glychgateref13_Sym), 0)) fun y_40 =>
  Option.bind (gapp 88 x_3 [(⟨Origin_7, Type_8, At_9, Live_10, Held_11, Array_12, Size_14, y_40⟩ : Glychgateref13_Chunk)]) fun k_48 =>
  lychgateref13_Put_K1 k_48 ()
noncomputable def lychgateref13_Variable (x_3 : Sl Glychgateref13_Chunk) (Vars_4 : Int) (x_6 : Sl Glychgateref04_Leq) : Option (Glychgateref13_Sym × Int × Int × (Sl Glychgateref04_Leq)) :=
  if (decide (96 ≤ Vars_4) || decide (766 < x_6.len)) then
    some ((⟨0, 0, 0, 0⟩ : Glychgateref13_Sym), 22, Vars_4, x_6)
  else
    Option.bind (gapp 24 x_6 [(⟨Vars_4, 0, 1099511627776⟩ : Glychgateref04_Leq)]) fun s_14 =>
    Option.bind (gapp 24 s_14 [(⟨0, Vars_4, 1099511627776⟩ : Glychgateref04_Leq)]) fun s_20 =>
    some ((⟨1, Vars_4, 0, 0⟩ : Glychgateref13_Sym), 0, IntKind.i64.wrap (Vars_4 + 1), s_20)
noncomputable def lychgatelaw13_facts_v2_L1 (n_4 : Int) (s_7 : Sl Gdiff_Leq) (x_10 : (Sl Gdiff_Leq) × Int) : Option (Step ((Sl Gdiff_Leq) × Int) ((Sl Gdiff_Leq))) :=
  if decide (x_10.2 < s_7.len) then
    Option.bind (gidx s_7 x_10.2) fun x_17 =>
    Option.bind (gmod .i64 (if 0 < x_17.X then x_17.X else 0) n_4) fun q_24 =>
    Option.bind (gmod .i64 (if 0 < x_17.Y then x_17.Y else 0) n_4) fun q_26 =>
    Option.bind (lychgatelaw13_cut x_17.C) fun r_28 =>
    Option.bind (gapp 24 x_10.1 [(⟨q_24, q_26, (if (-1099511627776) < (if 1099511627776 < x_17.C then 1099511627776 else x_17.C) then (if 1099511627776 < x_17.C then 1099511627776 else x_17.C) else (-1099511627776))⟩ : Gdiff_Leq)]) fun s_40 =>
    some (.next (s_40, IntKind.i64.wrap (x_10.2 + 1)))
  else
    some (.done x_10.1)
noncomputable def lychgatelaw13_facts_v2 (l_2 : Sl Gdiff_Leq) (n_4 : Int) : Option ((Sl Gdiff_Leq)) :=
  Option.bind (gslice l_2 0 (if 9 < l_2.len then 9 else l_2.len)) fun s_7 =>
  Option.bind (loopO (lychgatelaw13_facts_v2_L1 n_4 s_7) ((⟨[], false⟩ : Sl Gdiff_Leq), 0)) fun y_43 =>
  some y_43
noncomputable def lychgatelaw13_leqs_L1 (x_2 : Sl Gdiff_Leq) (x_4 : (Sl Glychgateref04_Leq) × Int) : Option (Step ((Sl Glychgateref04_Leq) × Int) ((Sl Glychgateref04_Leq))) :=
  if decide (x_4.2 < x_2.len) then
    Option.bind (gidx x_2 x_4.2) fun x_11 =>
    Option.bind (gapp 24 x_4.1 [(⟨x_11.X, x_11.Y, x_11.C⟩ : Glychgateref04_Leq)]) fun s_20 =>
    some (.next (s_20, IntKind.i64.wrap (x_4.2 + 1)))
  else
    some (.done x_4.1)
noncomputable def lychgatelaw13_leqs (x_2 : Sl Gdiff_Leq) : Option ((Sl Glychgateref04_Leq)) :=
  Option.bind (loopO (lychgatelaw13_leqs_L1 x_2) ((⟨[], false⟩ : Sl Glychgateref04_Leq), 0)) fun y_22 =>
  some y_22
noncomputable def lychgateref13_Assume_L1 (x_8 : Sl Glychgateref04_Leq) (x_10 : (Sl Glychgateref04_Leq) × Int) : Option (Step ((Sl Glychgateref04_Leq) × Int) ((Sl Glychgateref04_Leq))) :=
  if decide (x_10.2 < x_8.len) then
    Option.bind (gidx x_8 x_10.2) fun x_17 =>
    Option.bind (gapp 24 x_10.1 [x_17]) fun s_25 =>
    some (.next (s_25, IntKind.i64.wrap (x_10.2 + 1)))
  else
    some (.done x_10.1)
noncomputable def lychgateref13_Assume (x_3 : Sl Glychgateref13_Chunk) (Vars_4 : Int) (x_6 : Sl Glychgateref04_Leq) (x_8 : Sl Glychgateref04_Leq) : Option (Int × (Sl Glychgateref04_Leq)) :=
  if decide (768 < (IntKind.i64.wrap (x_6.len + x_8.len))) then
    some (22, x_6)
  else
    Option.bind (loopO (lychgateref13_Assume_L1 x_8) (x_6, 0)) fun y_30 =>
    some (0, y_30)
noncomputable def heap_Heap_Add (x_3 : Sl Gheap_Chunk) (Vars_4 : Int) (x_6 : Sl Gdiff_Leq) (s_8 : Gheap_Sym) (n_10 : Int) : Option (Gheap_Sym × Int × Int × (Sl Gdiff_Leq)) :=
  if decide (s_8.Kind = 0) then
    some ((⟨0, 0, 0, 0⟩ : Gheap_Sym), 41, Vars_4, x_6)
  else
    if decide (n_10 = 0) then
      some (s_8, 0, Vars_4, x_6)
    else
      if decide (s_8.Kind ≠ 1) then
        some ((⟨0, 0, 0, 0⟩ : Gheap_Sym), 40, Vars_4, x_6)
      else
        if (decide (1099511627776 < (IntKind.i64.wrap (s_8.K + n_10))) || decide ((IntKind.i64.wrap (s_8.K + n_10)) < (-1099511627776))) then
          Option.bind (heap_Heap_Fresh x_3 Vars_4 x_6) fun r_20 =>
          some (r_20.1, r_20.2.1, r_20.2.2.1, r_20.2.2.2)
        else
          some ((⟨s_8.Kind, s_8.Var, IntKind.i64.wrap (s_8.K + n_10), s_8.Block⟩ : Gheap_Sym), 0, Vars_4, x_6)
noncomputable def lychgateref13_Add (x_3 : Sl Glychgateref13_Chunk) (Vars_4 : Int) (x_6 : Sl Glychgateref04_Leq) (s_8 : Glychgateref13_Sym) (n_10 : Int) : Option (Glychgateref13_Sym × Int × Int × (Sl Glychgateref04_Leq)) :=
  if decide (s_8.Kind = 0) then
    some ((⟨0, 0, 0, 0⟩ : Glychgateref13_Sym), 41, Vars_4, x_6)
  else
    if decide (n_10 = 0) then
      some (s_8, 0, Vars_4, x_6)
    else
      if decide (s_8.Kind ≠ 1) then
        some ((⟨0, 0, 0, 0⟩ : Glychgateref13_Sym), 40, Vars_4, x_6)
      else
        if (decide (1099511627776 < (IntKind.i64.wrap (s_8.K + n_10))) || decide ((IntKind.i64.wrap (s_8.K + n_10)) < (-1099511627776))) then
          Option.bind (lychgateref13_Variable x_3 Vars_4 x_6) fun r_20 =>
          some (r_20.1, r_20.2.1, r_20.2.2.1, r_20.2.2.2)
        else
          some ((⟨s_8.Kind, s_8.Var, IntKind.i64.wrap (s_8.K + n_10), s_8.Block⟩ : Glychgateref13_Sym), 0, Vars_4, x_6)
noncomputable def lychgateref13_Of (s_2 : Glychgateref13_Sym) (kind_4 : Int) : Option Int :=
  if decide (s_2.Kind = kind_4) then
    some 0
  else
    if decide (s_2.Kind = 0) then
      some 41
    else
      some 40
noncomputable def lychgateref13_live (x_3 : Sl Glychgateref13_Chunk) (Vars_4 : Int) (x_6 : Sl Glychgateref04_Leq) (p_8 : Glychgateref13_Sym) : Option Int :=
  Option.bind (lychgateref13_Of p_8 2) fun r_12 =>
  if decide (r_12 ≠ 0) then
    some r_12
  else
    if (decide (p_8.Block < 0) || decide (x_3.len ≤ p_8.Block)) then
      some 43
    else
      Option.bind (gidx x_3 p_8.Block) fun x_24 =>
      if !x_24.Live then
        some 43
      else
        some 0
noncomputable def lychgateref04_Table_L1 (n_1 : Int) (x_8 : (Sl Int) × Int) : Option (Step ((Sl Int) × Int) ((Sl Int))) :=
  if decide (x_8.2 < (IntKind.i64.wrap (n_1 * n_1))) then
    Option.bind (
        Option.bind (gidx x_8.1 x_8.2) fun x_13 =>
        Option.bind (gset x_8.1 x_8.2 4611686018427387904) fun s_15 =>
        Option.bind (gmod .i64 x_8.2 (IntKind.i64.wrap (n_1 + 1))) fun q_17 =>
        Option.bind (
            if decide (q_17 = 0) then
              Option.bind (gidx s_15 x_8.2) fun x_20 =>
              Option.bind (gset s_15 x_8.2 0) fun s_22 =>
              (some s_22 : Option ((Sl Int)))
            else
              (some s_15 : Option ((Sl Int)))) fun y_24 =>
        (some y_24 : Option ((Sl Int)))) fun y_28 =>
    some (.next (y_28, IntKind.i64.wrap (x_8.2 + 1)))
  else
    some (.done x_8.1)
noncomputable def lychgateref04_Table_L2 (n_1 : Int) (x_3 : Sl Glychgateref04_Leq) (x_36 : (Sl Int) × Int) : Option (Step ((Sl Int) × Int) ((Sl Int))) :=
  if decide (x_36.2 < x_3.len) then
    Option.bind (
        Option.bind (gidx x_3 x_36.2) fun x_42 =>
        Option.bind (gidx x_36.1 (IntKind.i64.wrap ((IntKind.i64.wrap (x_42.X * n_1)) + x_42.Y))) fun x_51 =>
        Option.bind (
            if decide (x_42.C < x_51) then
              Option.bind (gset x_36.1 (IntKind.i64.wrap ((IntKind.i64.wrap (x_42.X * n_1)) + x_42.Y)) x_42.C) fun s_58 =>
              (some s_58 : Option ((Sl Int)))
            else
              (some x_36.1 : Option ((Sl Int)))) fun y_60 =>
        (some y_60 : Option ((Sl Int)))) fun y_64 =>
    some (.next (y_64, IntKind.i64.wrap (x_36.2 + 1)))
  else
    some (.done x_36.1)
noncomputable def lychgateref04_Table_L3 (n_1 : Int) (x_72 : (Sl Int) × Int) (x_77 : (Sl Int) × Int) (x_87 : (Sl Int) × Int) : Option (Step ((Sl Int) × Int) ((Sl Int))) :=
  if decide (x_87.2 < n_1) then
    Option.bind (
        Option.bind (gidx x_87.1 (IntKind.i64.wrap ((IntKind.i64.wrap (x_72.2 * n_1)) + x_87.2))) fun x_92 =>
        if decide (x_92 = 4611686018427387904) then
          (some x_87.1 : Option ((Sl Int)))
        else
          Option.bind (gidx x_87.1 (IntKind.i64.wrap ((IntKind.i64.wrap (x_77.2 * n_1)) + x_72.2))) fun x_98 =>
          Option.bind (gidx x_87.1 (IntKind.i64.wrap ((IntKind.i64.wrap (x_77.2 * n_1)) + x_87.2))) fun x_104 =>
          Option.bind (
              if decide ((IntKind.i64.wrap (x_98 + x_92)) < x_104) then
                Option.bind (gset x_87.1 (IntKind.i64.wrap ((IntKind.i64.wrap (x_77.2 * n_1)) + x_87.2)) (IntKind.i64.wrap (x_98 + x_92))) fun s_109 =>
                (some s_109 : Option ((Sl Int)))
              else
                (some x_87.1 : Option ((Sl Int)))) fun y_111 =>
          (some y_111 : Option ((Sl Int)))) fun y_115 =>
    some (.next (y_115, IntKind.i64.wrap (x_87.2 + 1)))
  else
    some (.done x_87.1)
noncomputable def lychgateref04_Table_L4 (n_1 : Int) (x_72 : (Sl Int) × Int) (x_77 : (Sl Int) × Int) : Option (Step ((Sl Int) × Int) (W2 ((Sl Int)) Unit)) :=
  if decide (x_77.2 < n_1) then
    Option.bind (
        Option.bind (gidx x_77.1 (IntKind.i64.wrap ((IntKind.i64.wrap (x_77.2 * n_1)) + x_72.2))) fun x_82 =>
        if decide (x_82 = 4611686018427387904) then
          (some (.a x_77.1) : Option (W2 ((Sl Int)) Unit))
        else
          Option.bind (loopO (lychgateref04_Table_L3 n_1 x_72 x_77) (x_77.1, 0)) fun y_119 =>
          Option.bind (gidx y_119 (IntKind.i64.wrap ((IntKind.i64.wrap (x_77.2 * n_1)) + x_77.2))) fun x_123 =>
          if decide (x_123 < 0) then
            (some (.b ()) : Option (W2 ((Sl Int)) Unit))
          else
            (some (.a y_119) : Option (W2 ((Sl Int)) Unit))) fun y_128 =>
    match y_128 with
    | .a y_129 =>
      some (.next (y_129, IntKind.i64.wrap (x_77.2 + 1)))
    | .b y_133 =>
      some (.done (.b ()))
  else
    some (.done (.a x_77.1))
noncomputable def lychgateref04_Table_L5 (n_1 : Int) (x_72 : (Sl Int) × Int) : Option (Step ((Sl Int) × Int) (W2 ((Sl Int)) Unit)) :=
  if decide (x_72.2 < n_1) then
    Option.bind (loopO (lychgateref04_Table_L4 n_1 x_72) (x_72.1, 0)) fun y_137 =>
    match y_137 with
    | .a y_138 =>
      some (.next (y_138, IntKind.i64.wrap (x_72.2 + 1)))
    | .b y_142 =>
      some (.done (.b ()))
  else
    some (.done (.a x_72.1))
noncomputable def lychgateref04_Table (n_1 : Int) (x_3 : Sl Glychgateref04_Leq) : Option ((Sl Int) × Bool) :=
  Option.bind (gmake 8 (IntKind.i64.wrap (n_1 * n_1)) 0) fun s_6 =>
  Option.bind (loopO (lychgateref04_Table_L1 n_1) (s_6, 0)) fun y_32 =>
  Option.bind (loopO (lychgateref04_Table_L2 n_1 x_3) (y_32, 0)) fun y_68 =>
  Option.bind (loopO (lychgateref04_Table_L5 n_1) (y_68, 0)) fun y_146 =>
  match y_146 with
  | .a y_147 =>
    some (y_147, true)
  | .b y_151 =>
    some ((⟨[], false⟩ : Sl Int), false)
noncomputable def lychgateref04_Entails (n_1 : Int) (goal_3 : Glychgateref04_Leq) (x_6 : Sl Glychgateref04_Leq) : Option Bool :=
  Option.bind (lychgateref04_Table n_1 x_6) fun r_9 =>
  if !r_9.2 then
    some true
  else
    Option.bind (gidx r_9.1 (IntKind.i64.wrap ((IntKind.i64.wrap (goal_3.X * n_1)) + goal_3.Y))) fun x_20 =>
    some (decide (x_20 ≤ goal_3.C))
noncomputable def lychgateref13_Entails (Vars_3 : Int) (x_5 : Sl Glychgateref04_Leq) (f_7 : Glychgateref04_Leq) : Option Bool :=
  if ((decide (768 ≤ x_5.len) || decide (8796093022208 ≤ f_7.C)) || decide (f_7.C < (-8796093022208))) then
    some false
  else
    Option.bind (lychgateref04_Entails Vars_3 f_7 x_5) fun r_15 =>
    some r_15
noncomputable def lychgateref13_reach_K1 (Vars_4 : Int) (index_11 : Glychgateref13_Sym) (write_13 : Bool) (x_43 : Glychgateref13_Chunk) (x_6 : Sl Glychgateref04_Leq) (y_45 : Unit) : Option Int :=
  if (write_13 && (decide (x_43.Origin = 3) || decide (x_43.Origin = 8))) then
    some 44
  else
    if (decide (x_43.Origin = 6) && !x_43.Held) then
      some 45
    else
      if x_43.Array then
        Option.bind (lychgateref13_Entails Vars_4 x_6 (⟨0, index_11.Var, index_11.K⟩ : Glychgateref04_Leq)) fun r_58 =>
        Option.bind (lychgateref13_Entails Vars_4 x_6 (⟨index_11.Var, x_43.Size.Var, IntKind.i64.wrap ((IntKind.i64.wrap (x_43.Size.K - 1)) - index_11.K)⟩ : Glychgateref04_Leq)) fun r_65 =>
        if (!r_58 || !r_65) then
          some 42
        else
          some 0
      else
        if ((decide (index_11.Var ≠ 0) || decide (index_11.K < 0)) || decide (x_43.Cells.len ≤ index_11.K)) then
          some 42
        else
          if (decide (x_43.Origin = 6) && decide (index_11.K = x_43.At)) then
            some 45
          else
            some 0
noncomputable def lychgateref13_reach (x_3 : Sl Glychgateref13_Chunk) (Vars_4 : Int) (x_6 : Sl Glychgateref04_Leq) (p_8 : Glychgateref13_Sym) (index_11 : Glychgateref13_Sym) (write_13 : Bool) : Option Int :=
  Option.bind (lychgateref13_Of p_8 2) fun r_18 =>
  if decide (r_18 ≠ 0) then
    some r_18
  else
    Option.bind (lychgateref13_Of index_11 1) fun r_26 =>
    if decide (r_26 ≠ 0) then
      some r_26
    else
      Option.bind (lychgateref13_live x_3 Vars_4 x_6 p_8) fun r_34 =>
      if decide (r_34 ≠ 0) then
        some r_34
      else
        Option.bind (gidx x_3 p_8.Block) fun x_43 =>
        lychgateref13_reach_K1 Vars_4 index_11 write_13 x_43 x_6 ()
noncomputable def lychgateref13_Variable_v2 (Vars_3 : Int) (x_5 : Sl Glychgateref04_Leq) : Option (Glychgateref13_Sym × Int × Int × (Sl Glychgateref04_Leq)) :=
  if (decide (96 ≤ Vars_3) || decide (766 < x_5.len)) then
    some ((⟨0, 0, 0, 0⟩ : Glychgateref13_Sym), 22, Vars_3, x_5)
  else
    Option.bind (gapp 24 x_5 [(⟨Vars_3, 0, 1099511627776⟩ : Glychgateref04_Leq)]) fun s_13 =>
    Option.bind (gapp 24 s_13 [(⟨0, Vars_3, 1099511627776⟩ : Glychgateref04_Leq)]) fun s_19 =>
    some ((⟨1, Vars_3, 0, 0⟩ : Glychgateref13_Sym), 0, IntKind.i64.wrap (Vars_3 + 1), s_19)
noncomputable def lychgateref13_Load_K1 (Vars_4 : Int) (index_11 : Glychgateref13_Sym) (x_28 : Glychgateref13_Chunk) (x_6 : Sl Glychgateref04_Leq) (y_30 : Unit) : Option (Glychgateref13_Sym × Int × Int × (Sl Glychgateref04_Leq)) :=
  if x_28.Array then
    Option.bind (lychgateref13_Variable_v2 Vars_4 x_6) fun r_38 =>
    some (r_38.1, r_38.2.1, r_38.2.2.1, r_38.2.2.2)
  else
    Option.bind (gidx x_28.Cells index_11.K) fun x_46 =>
    if decide (x_46.Kind = 0) then
      some ((⟨0, 0, 0, 0⟩ : Glychgateref13_Sym), 41, Vars_4, x_6)
    else
      some (x_46, 0, Vars_4, x_6)
noncomputable def lychgateref13_Load (x_3 : Sl Glychgateref13_Chunk) (Vars_4 : Int) (x_6 : Sl Glychgateref04_Leq) (p_8 : Glychgateref13_Sym) (index_11 : Glychgateref13_Sym) : Option (Glychgateref13_Sym × Int × Int × (Sl Glychgateref04_Leq)) :=
  Option.bind (lychgateref13_reach x_3 Vars_4 x_6 p_8 index_11 false) fun r_19 =>
  if decide (r_19 ≠ 0) then
    some ((⟨0, 0, 0, 0⟩ : Glychgateref13_Sym), r_19, Vars_4, x_6)
  else
    Option.bind (gidx x_3 p_8.Block) fun x_28 =>
    lychgateref13_Load_K1 Vars_4 index_11 x_28 x_6 ()
noncomputable def heap_Heap_Store (x_3 : Sl Gheap_Chunk) (Vars_4 : Int) (x_6 : Sl Gdiff_Leq) (p_8 : Gheap_Sym) (index_11 : Gheap_Sym) (v_14 : Gheap_Sym) : Option (Int × (Sl Gheap_Chunk)) :=
  Option.bind (heap_Heap_reach x_3 Vars_4 x_6 p_8 index_11 true) fun r_22 =>
  if decide (r_22.2 ≠ 0) then
    some (r_22.2, x_3)
  else
    if decide (v_14.Kind = 0) then
      some (41, x_3)
    else
      Option.bind (r_22.1) fun i_31 =>
      Option.bind (gidx x_3 i_31) fun x_33 =>
      if x_33.Array then
        Option.bind (heap_Sym_of v_14 1) fun r_38 =>
        some (r_38, x_3)
      else
        Option.bind (gidx x_33.Cells index_11.K) fun x_51 =>
        Option.bind (gset x_33.Cells index_11.K v_14) fun s_54 =>
        some (0, (Sl.set x_3 i_31 (⟨x_33.Origin, x_33.Type_, x_33.At, x_33.Live, x_33.Held, x_33.Array, x_33.Size, s_54⟩ : Gheap_Chunk)))
noncomputable def lychgateref13_Store (x_3 : Sl Glychgateref13_Chunk) (Vars_4 : Int) (x_6 : Sl Glychgateref04_Leq) (p_8 : Glychgateref13_Sym) (index_11 : Glychgateref13_Sym) (v_14 : Glychgateref13_Sym) : Option (Int × (Sl Glychgateref13_Chunk)) :=
  Option.bind (lychgateref13_reach x_3 Vars_4 x_6 p_8 index_11 true) fun r_22 =>
  if decide (r_22 ≠ 0) then
    some (r_22, x_3)
  else
    if decide (v_14.Kind = 0) then
      some (41, x_3)
    else
      Option.bind (gidx x_3 p_8.Block) fun x_32 =>
      if x_32.Array then
        Option.bind (lychgateref13_Of v_14 1) fun r_37 =>
        some (r_37, x_3)
      else
        Option.bind (gidx x_32.Cells index_11.K) fun x_50 =>
        Option.bind (gset x_32.Cells index_11.K v_14) fun s_53 =>
        some (0, (Sl.set x_3 p_8.Block (⟨x_32.Origin, x_32.Type_, x_32.At, x_32.Live, x_32.Held, x_32.Array, x_32.Size, s_53⟩ : Glychgateref13_Chunk)))
noncomputable def heap_Heap_Free (x_3 : Sl Gheap_Chunk) (Vars_4 : Int) (x_6 : Sl Gdiff_Leq) (p_8 : Gheap_Sym) : Option (Int × (Sl Gheap_Chunk)) :=
  Option.bind (heap_Heap_chunk x_3 Vars_4 x_6 p_8) fun r_12 =>
  if decide (r_12.2 ≠ 0) then
    some (r_12.2, x_3)
  else
    Option.bind (r_12.1) fun i_20 =>
    Option.bind (gidx x_3 i_20) fun x_22 =>
    Option.bind (
        if decide (x_22.Origin = 3) then
          (some (decide (x_22.Origin = 3)) : Option Bool)
        else
          (some (decide (x_22.Origin = 8)) : Option Bool)) fun y_27 =>
    if y_27 then
      some (44, x_3)
    else
      Option.bind (
          if decide (x_22.Origin = 2) then
            (some (decide (x_22.Origin = 2)) : Option Bool)
          else
            Option.bind (
                if decide (x_22.Origin = 4) then
                  (some (decide (x_22.Origin = 4)) : Option Bool)
                else
                  (some (decide (x_22.Origin = 6)) : Option Bool)) fun y_34 =>
            (some y_34 : Option Bool)) fun y_38 =>
      if y_38 then
        some (43, x_3)
      else
        some (0, (Sl.set x_3 i_20 (⟨x_22.Origin, x_22.Type_, x_22.At, false, x_22.Held, x_22.Array, x_22.Size, x_22.Cells⟩ : Gheap_Chunk)))
noncomputable def lychgateref13_Free (x_3 : Sl Glychgateref13_Chunk) (Vars_4 : Int) (x_6 : Sl Glychgateref04_Leq) (p_8 : Glychgateref13_Sym) : Option (Int × (Sl Glychgateref13_Chunk)) :=
  Option.bind (lychgateref13_live x_3 Vars_4 x_6 p_8) fun r_12 =>
  if decide (r_12 ≠ 0) then
    some (r_12, x_3)
  else
    Option.bind (gidx x_3 p_8.Block) fun x_21 =>
    if (decide (x_21.Origin = 3) || decide (x_21.Origin = 8)) then
      some (44, x_3)
    else
      if ((decide (x_21.Origin = 2) || decide (x_21.Origin = 4)) || decide (x_21.Origin = 6)) then
        some (43, x_3)
      else
        some (0, (Sl.set x_3 p_8.Block (⟨x_21.Origin, x_21.Type_, x_21.At, false, x_21.Held, x_21.Array, x_21.Size, x_21.Cells⟩ : Glychgateref13_Chunk)))
noncomputable def heap_Heap_Lock_v2_L1 (p_8 : Gheap_Sym) (x_40 : Gheap_Chunk) (x_45 : (Sl Gheap_Chunk) × Int × (Sl Gdiff_Leq) × Int) : Option (Step ((Sl Gheap_Chunk) × Int × (Sl Gdiff_Leq) × Int) (W2 ((Sl Gheap_Chunk) × Int × (Sl Gdiff_Leq)) Int)) :=
  if decide (x_45.2.2.2 < x_40.Cells.len) then
    Option.bind (
        Option.bind (gidx x_45.1 p_8.Block) fun x_51 =>
        if decide (x_45.2.2.2 = x_51.At) then
          (some (.a (x_45.1, x_45.2.1, x_45.2.2.1)) : Option (W2 ((Sl Gheap_Chunk) × Int × (Sl Gdiff_Leq)) Int))
        else
          Option.bind (heap_Heap_Fresh x_45.1 x_45.2.1 x_45.2.2.1) fun r_56 =>
          if decide (r_56.2.1 ≠ 0) then
            (some (.b r_56.2.1) : Option (W2 ((Sl Gheap_Chunk) × Int × (Sl Gdiff_Leq)) Int))
          else
            Option.bind (gidx x_51.Cells x_45.2.2.2) fun x_73 =>
            Option.bind (gset x_51.Cells x_45.2.2.2 r_56.1) fun s_76 =>
            (some (.a ((Sl.set x_45.1 p_8.Block (⟨x_51.Origin, x_51.Type_, x_51.At, x_51.Live, x_51.Held, x_51.Array, x_51.Size, s_76⟩ : Gheap_Chunk)), r_56.2.2.1, r_56.2.2.2)) : Option (W2 ((Sl Gheap_Chunk) × Int × (Sl Gdiff_Leq)) Int))) fun y_79 =>
    match y_79 with
    | .a y_80 =>
      some (.next (y_80.1, y_80.2.1, y_80.2.2, IntKind.i64.wrap (x_45.2.2.2 + 1)))
    | .b y_85 =>
      some (.done (.b y_85))
  else
    some (.done (.a (x_45.1, x_45.2.1, x_45.2.2.1)))
noncomputable def heap_Heap_Lock_v2 (x_3 : Sl Gheap_Chunk) (Vars_4 : Int) (x_6 : Sl Gdiff_Leq) (p_8 : Gheap_Sym) (n_10 : Int) (x_12 : Sl Gdiff_Leq) : Option (Int × (Sl Gheap_Chunk) × Int × (Sl Gdiff_Leq)) :=
  Option.bind (heap_Heap_lock x_3 Vars_4 x_6 p_8 n_10 false) fun r_15 =>
  if decide (r_15.2 ≠ 0) then
    some (r_15.2, x_3, Vars_4, x_6)
  else
    Option.bind (heap_Heap_Copy x_3 Vars_4 x_6) fun r_25 =>
    Option.bind (gidx r_25.1 p_8.Block) fun x_40 =>
    Option.bind (loopO (heap_Heap_Lock_v2_L1 p_8 x_40) (r_25.1, Vars_4, r_25.2, 0)) fun y_89 =>
    match y_89 with
    | .a y_90 =>
      Option.bind (gidx y_90.1 p_8.Block) fun x_95 =>
      Option.bind (heap_Over_v2 x_12 x_95.Cells) fun r_100 =>
      Option.bind (heap_Heap_Assume_v2 y_90.2.1 y_90.2.2 r_100) fun r_109 =>
      if decide (r_109.1 ≠ 0) then
        some (r_109.1, x_3, Vars_4, x_6)
      else
        some (0, (Sl.set y_90.1 p_8.Block (⟨x_95.Origin, x_95.Type_, x_95.At, x_95.Live, true, x_95.Array, x_95.Size, x_95.Cells⟩ : Gheap_Chunk)), y_90.2.1, r_109.2)
    | .b y_120 =>
      some (y_120, x_3, Vars_4, x_6)
noncomputable def lychgateref13_mayLock_K1 (held_11 : Bool) (n_10 : Int) (x_23 : Glychgateref13_Chunk) (y_25 : Unit) : Option Int :=
  if (decide (x_23.Origin ≠ 6) || (x_23.Held != held_11)) then
    some 45
  else
    if decide (n_10 ≠ x_23.At) then
      some 42
    else
      some 0
noncomputable def lychgateref13_mayLock (x_3 : Sl Glychgateref13_Chunk) (Vars_4 : Int) (x_6 : Sl Glychgateref04_Leq) (p_8 : Glychgateref13_Sym) (n_10 : Int) (held_11 : Bool) : Option Int :=
  Option.bind (lychgateref13_live x_3 Vars_4 x_6 p_8) fun r_14 =>
  if decide (r_14 ≠ 0) then
    some r_14
  else
    Option.bind (gidx x_3 p_8.Block) fun x_23 =>
    lychgateref13_mayLock_K1 held_11 n_10 x_23 ()
noncomputable def lychgateref13_Twin_L1 (x_6 : Sl Glychgateref04_Leq) (x_11 : (Sl Glychgateref13_Chunk) × (Sl Glychgateref04_Leq) × Int) : Option (Step ((Sl Glychgateref13_Chunk) × (Sl Glychgateref04_Leq) × Int) ((Sl Glychgateref13_Chunk) × (Sl Glychgateref04_Leq))) :=
  if decide (x_11.2.2 < x_6.len) then
    Option.bind (gidx x_6 x_11.2.2) fun x_21 =>
    Option.bind (gapp 24 x_11.2.1 [x_21]) fun s_29 =>
    some (.next (x_11.1, s_29, IntKind.i64.wrap (x_11.2.2 + 1)))
  else
    some (.done (x_11.1, x_11.2.1))
noncomputable def lychgateref13_Twin_L2 (x_48 : Glychgateref13_Chunk) (x_57 : (Sl Glychgateref13_Sym) × Int) : Option (Step ((Sl Glychgateref13_Sym) × Int) ((Sl Glychgateref13_Sym))) :=
  if decide (x_57.2 < x_48.Cells.len) then
    Option.bind (gidx x_48.Cells x_57.2) fun x_64 =>
    Option.bind (gapp 32 x_57.1 [x_64]) fun s_71 =>
    some (.next (s_71, IntKind.i64.wrap (x_57.2 + 1)))
  else
    some (.done x_57.1)
noncomputable def lychgateref13_Twin_K1 (k_81 : Sl Glychgateref13_Chunk) (x_42 : (Sl Glychgateref13_Chunk) × Int) (y_83 : Unit) : Option (Step ((Sl Glychgateref13_Chunk) × Int) ((Sl Glychgateref13_Chunk))) :=
  some (.next (k_81, IntKind.i64.wrap (x_42.2 + 1)))
noncomputable def lychgateref13_Twin_L3 (x_3 : Sl Glychgateref13_Chunk) (x_42 : (Sl Glychgateref13_Chunk) × Int) : Option (Step ((Sl Glychgateref13_Chunk) × Int) ((Sl Glychgateref13_Chunk))) :=
  if decide (x_42.2 < x_3.len) then
    Option.bind (gidx x_3 x_42.2) fun x_48 =>
    Option.bind (loopO (lychgateref13_Twin_L2 x_48) ((⟨[], false⟩ : Sl Glychgateref13_Sym), 0)) fun y_73 =>
    Option.bind (gapp 88 x_42.1 [(⟨x_48.Origin, x_48.Type_, x_48.At, x_48.Live, x_48.Held, x_48.Array, x_48.Size, y_73⟩ : Glychgateref13_Chunk)]) fun k_81 =>
    lychgateref13_Twin_K1 k_81 x_42 ()
  else
    some (.done x_42.1)
noncomputable def lychgateref13_Twin (x_3 : Sl Glychgateref13_Chunk) (Vars_4 : Int) (x_6 : Sl Glychgateref04_Leq) : Option ((Sl Glychgateref13_Chunk) × (Sl Glychgateref04_Leq)) :=
  Option.bind (loopO (lychgateref13_Twin_L1 x_6) ((⟨[], false⟩ : Sl Glychgateref13_Chunk), (⟨[], false⟩ : Sl Glychgateref04_Leq), 0)) fun y_34 =>
  Option.bind (loopO (lychgateref13_Twin_L3 x_3) (y_34.1, 0)) fun y_107 =>
  some (y_107, y_34.2)
noncomputable def lychgateref13_side (v_1 : Int) (x_3 : Sl Glychgateref13_Sym) : Option (Int × Int) :=
  if decide (v_1 = 0) then
    some (0, 0)
  else
    Option.bind (gidx x_3 (IntKind.i64.wrap (v_1 - 1))) fun x_5 =>
    if decide (x_5.Kind ≠ 1) then
      some (0, 0)
    else
      some (x_5.Var, x_5.K)
noncomputable def lychgateref13_Over_L1 (x_2 : Sl Glychgateref04_Leq) (x_4 : Sl Glychgateref13_Sym) (x_6 : (Sl Glychgateref04_Leq) × Int) : Option (Step ((Sl Glychgateref04_Leq) × Int) ((Sl Glychgateref04_Leq))) :=
  if decide (x_6.2 < x_2.len) then
    Option.bind (gidx x_2 x_6.2) fun x_13 =>
    Option.bind (lychgateref13_side x_13.X x_4) fun r_17 =>
    Option.bind (lychgateref13_side x_13.Y x_4) fun r_26 =>
    Option.bind (gapp 24 x_6.1 [(⟨r_17.1, r_26.1, IntKind.i64.wrap ((IntKind.i64.wrap (x_13.C - r_17.2)) + r_26.2)⟩ : Glychgateref04_Leq)]) fun s_38 =>
    some (.next (s_38, IntKind.i64.wrap (x_6.2 + 1)))
  else
    some (.done x_6.1)
noncomputable def lychgateref13_Over (x_2 : Sl Glychgateref04_Leq) (x_4 : Sl Glychgateref13_Sym) : Option ((Sl Glychgateref04_Leq)) :=
  Option.bind (loopO (lychgateref13_Over_L1 x_2 x_4) ((⟨[], false⟩ : Sl Glychgateref04_Leq), 0)) fun y_40 =>
  some y_40
noncomputable def lychgateref13_Assume_v2_L1 (x_7 : Sl Glychgateref04_Leq) (x_9 : (Sl Glychgateref04_Leq) × Int) : Option (Step ((Sl Glychgateref04_Leq) × Int) ((Sl Glychgateref04_Leq))) :=
  if decide (x_9.2 < x_7.len) then
    Option.bind (gidx x_7 x_9.2) fun x_16 =>
    Option.bind (gapp 24 x_9.1 [x_16]) fun s_24 =>
    some (.next (s_24, IntKind.i64.wrap (x_9.2 + 1)))
  else
    some (.done x_9.1)
noncomputable def lychgateref13_Assume_v2 (Vars_3 : Int) (x_5 : Sl Glychgateref04_Leq) (x_7 : Sl Glychgateref04_Leq) : Option (Int × (Sl Glychgateref04_Leq)) :=
  if decide (768 < (IntKind.i64.wrap (x_5.len + x_7.len))) then
    some (22, x_5)
  else
    Option.bind (loopO (lychgateref13_Assume_v2_L1 x_7) (x_5, 0)) fun y_29 =>
    some (0, y_29)
noncomputable def lychgateref13_Lock_L1 (x_37 : Glychgateref13_Chunk) (x_46 : Int × (Sl Glychgateref04_Leq) × (Sl Glychgateref13_Sym) × Int) : Option (Step (Int × (Sl Glychgateref04_Leq) × (Sl Glychgateref13_Sym) × Int) (W2 (Int × (Sl Glychgateref04_Leq) × (Sl Glychgateref13_Sym)) Int)) :=
  if decide (x_46.2.2.2 < x_46.2.2.1.len) then
    Option.bind (
        if decide (x_46.2.2.2 = x_37.At) then
          (some (.a (x_46.1, x_46.2.1, x_46.2.2.1)) : Option (W2 (Int × (Sl Glychgateref04_Leq) × (Sl Glychgateref13_Sym)) Int))
        else
          Option.bind (lychgateref13_Variable_v2 x_46.1 x_46.2.1) fun r_53 =>
          if decide (r_53.2.1 ≠ 0) then
            (some (.b r_53.2.1) : Option (W2 (Int × (Sl Glychgateref04_Leq) × (Sl Glychgateref13_Sym)) Int))
          else
            Option.bind (gidx x_46.2.2.1 x_46.2.2.2) fun x_64 =>
            Option.bind (gset x_46.2.2.1 x_46.2.2.2 r_53.1) fun s_66 =>
            (some (.a (r_53.2.2.1, r_53.2.2.2, s_66)) : Option (W2 (Int × (Sl Glychgateref04_Leq) × (Sl Glychgateref13_Sym)) Int))) fun y_68 =>
    match y_68 with
    | .a y_69 =>
      some (.next (y_69.1, y_69.2.1, y_69.2.2, IntKind.i64.wrap (x_46.2.2.2 + 1)))
    | .b y_74 =>
      some (.done (.b y_74))
  else
    some (.done (.a (x_46.1, x_46.2.1, x_46.2.2.1)))
noncomputable def lychgateref13_Lock_K1 (Vars_4 : Int) (p_8 : Glychgateref13_Sym) (r_23 : (Sl Glychgateref13_Chunk) × (Sl Glychgateref04_Leq)) (x_12 : Sl Glychgateref04_Leq) (x_3 : Sl Glychgateref13_Chunk) (x_37 : Glychgateref13_Chunk) (x_6 : Sl Glychgateref04_Leq) (y_39 : Unit) : Option (Int × (Sl Glychgateref13_Chunk) × Int × (Sl Glychgateref04_Leq)) :=
  Option.bind (loopO (lychgateref13_Lock_L1 x_37) (Vars_4, r_23.2, x_37.Cells, 0)) fun y_78 =>
  match y_78 with
  | .a y_79 =>
    Option.bind (lychgateref13_Over x_12 y_79.2.2) fun r_84 =>
    Option.bind (lychgateref13_Assume_v2 y_79.1 y_79.2.1 r_84) fun r_93 =>
    if decide (r_93.1 ≠ 0) then
      some (r_93.1, x_3, Vars_4, x_6)
    else
      Option.bind (gidx (Sl.set r_23.1 p_8.Block (⟨x_37.Origin, x_37.Type_, x_37.At, x_37.Live, x_37.Held, x_37.Array, x_37.Size, y_79.2.2⟩ : Glychgateref13_Chunk)) p_8.Block) fun x_103 =>
      some (0, (Sl.set (Sl.set r_23.1 p_8.Block (⟨x_37.Origin, x_37.Type_, x_37.At, x_37.Live, x_37.Held, x_37.Array, x_37.Size, y_79.2.2⟩ : Glychgateref13_Chunk)) p_8.Block (⟨x_103.Origin, x_103.Type_, x_103.At, x_103.Live, true, x_103.Array, x_103.Size, x_103.Cells⟩ : Glychgateref13_Chunk)), y_79.1, r_93.2)
  | .b y_110 =>
    some (y_110, x_3, Vars_4, x_6)
noncomputable def lychgateref13_Lock (x_3 : Sl Glychgateref13_Chunk) (Vars_4 : Int) (x_6 : Sl Glychgateref04_Leq) (p_8 : Glychgateref13_Sym) (n_10 : Int) (x_12 : Sl Glychgateref04_Leq) : Option (Int × (Sl Glychgateref13_Chunk) × Int × (Sl Glychgateref04_Leq)) :=
  Option.bind (lychgateref13_mayLock x_3 Vars_4 x_6 p_8 n_10 false) fun r_15 =>
  if decide (r_15 ≠ 0) then
    some (r_15, x_3, Vars_4, x_6)
  else
    Option.bind (lychgateref13_Twin x_3 Vars_4 x_6) fun r_23 =>
    Option.bind (gidx r_23.1 p_8.Block) fun x_37 =>
    lychgateref13_Lock_K1 Vars_4 p_8 r_23 x_12 x_3 x_37 x_6 ()
noncomputable def heap_Heap_Entails_v2 (Vars_3 : Int) (x_5 : Sl Gdiff_Leq) (f_7 : Gdiff_Leq) : Option Bool :=
  Option.bind (diff_Entails Vars_3 f_7 x_5) fun r_12 =>
  some (r_12.1 && decide (r_12.2 = 0))
noncomputable def heap_Heap_Unlock_1 (f_2 : Gdiff_Leq) (Vars_7 : Int) (x_9 : Sl Gdiff_Leq) : Option Bool :=
  Option.bind (heap_Heap_Entails_v2 Vars_7 x_9 f_2) fun r_12 =>
  some (!r_12)
noncomputable def slices_IndexFunc_v2_L1 (Vars_6 : Int) (x_2 : Sl Gdiff_Leq) (x_8 : Sl Gdiff_Leq) (x_9 : Int) : Option (Step Int (W2 Unit Int)) :=
  if decide (x_9 < x_2.len) then
    Option.bind (gidx x_2 x_9) fun x_14 =>
    Option.bind (heap_Heap_Unlock_1 x_14 Vars_6 x_8) fun r_18 =>
    if r_18 then
      some (.done (.b x_9))
    else
      some (.next (IntKind.i64.wrap (x_9 + 1)))
  else
    some (.done (.a ()))
noncomputable def slices_IndexFunc_v2 (x_2 : Sl Gdiff_Leq) (Vars_6 : Int) (x_8 : Sl Gdiff_Leq) : Option Int :=
  Option.bind (loopO (slices_IndexFunc_v2_L1 Vars_6 x_2 x_8) 0) fun y_26 =>
  match y_26 with
  | .a y_27 =>
    some (-1)
  | .b y_31 =>
    some y_31
noncomputable def slices_ContainsFunc_v2 (x_2 : Sl Gdiff_Leq) (Vars_6 : Int) (x_8 : Sl Gdiff_Leq) : Option Bool :=
  Option.bind (slices_IndexFunc_v2 x_2 Vars_6 x_8) fun r_9 =>
  some (decide (0 ≤ r_9))
noncomputable def heap_Heap_Unlock_L1 (x_27 : Gheap_Chunk) (x_32 : Int) : Option (Step Int (W2 Unit Unit)) :=
  if decide (x_32 < x_27.Cells.len) then
    Option.bind (gidx x_27.Cells x_32) fun x_37 =>
    if (decide (x_32 ≠ x_27.At) && decide (x_37.Kind ≠ 1)) then
      some (.done (.b ()))
    else
      some (.next (IntKind.i64.wrap (x_32 + 1)))
  else
    some (.done (.a ()))
noncomputable def heap_Heap_Unlock (x_3 : Sl Gheap_Chunk) (Vars_4 : Int) (x_6 : Sl Gdiff_Leq) (p_8 : Gheap_Sym) (n_10 : Int) (x_12 : Sl Gdiff_Leq) : Option (Int × (Sl Gheap_Chunk)) :=
  Option.bind (heap_Heap_lock x_3 Vars_4 x_6 p_8 n_10 true) fun r_17 =>
  if decide (r_17.2 ≠ 0) then
    some (r_17.2, x_3)
  else
    Option.bind (r_17.1) fun i_25 =>
    Option.bind (gidx x_3 i_25) fun x_27 =>
    Option.bind (loopO (heap_Heap_Unlock_L1 x_27) 0) fun y_45 =>
    match y_45 with
    | .a y_46 =>
      Option.bind (heap_Over_v2 x_12 x_27.Cells) fun r_53 =>
      Option.bind (slices_ContainsFunc_v2 r_53 Vars_4 x_6) fun r_62 =>
      if r_62 then
        some (47, x_3)
      else
        some (0, (Sl.set x_3 i_25 (⟨x_27.Origin, x_27.Type_, x_27.At, x_27.Live, false, x_27.Array, x_27.Size, (⟨List.replicate x_27.Cells.xs.length (⟨0, 0, 0, 0⟩ : Gheap_Sym), x_27.Cells.nn⟩ : Sl Gheap_Sym)⟩ : Gheap_Chunk)))
    | .b y_70 =>
      some (47, x_3)
noncomputable def lychgateref13_Unlock_L1 (x_24 : Glychgateref13_Chunk) (x_33 : Int) : Option (Step Int (W2 Unit Unit)) :=
  if decide (x_33 < x_24.Cells.len) then
    Option.bind (if decide (x_33 ≠ x_24.At) then
        Option.bind (gidx x_24.Cells x_33) fun x_40 =>
        some (decide (x_40.Kind ≠ 1))
      else
        some false) fun y_39 =>
    if y_39 then
      some (.done (.b ()))
    else
      some (.next (IntKind.i64.wrap (x_33 + 1)))
  else
    some (.done (.a ()))
noncomputable def lychgateref13_Unlock_L2 (Vars_4 : Int) (r_53 : (Sl Glychgateref04_Leq)) (x_6 : Sl Glychgateref04_Leq) (x_62 : Int) : Option (Step Int (W2 Unit Unit)) :=
  if decide (x_62 < r_53.len) then
    Option.bind (gidx r_53 x_62) fun x_67 =>
    Option.bind (lychgateref13_Entails Vars_4 x_6 x_67) fun r_71 =>
    if !r_71 then
      some (.done (.b ()))
    else
      some (.next (IntKind.i64.wrap (x_62 + 1)))
  else
    some (.done (.a ()))
noncomputable def lychgateref13_Unlock_L3 (p_8 : Glychgateref13_Sym) (x_24 : Glychgateref13_Chunk) (x_3 : Sl Glychgateref13_Chunk) (x_84 : (Sl Glychgateref13_Sym) × Int) : Option (Step ((Sl Glychgateref13_Sym) × Int) ((Sl Glychgateref13_Chunk))) :=
  if decide (x_84.2 < x_84.1.len) then
    Option.bind (gidx x_84.1 x_84.2) fun x_89 =>
    Option.bind (gset x_84.1 x_84.2 (⟨0, 0, 0, 0⟩ : Glychgateref13_Sym)) fun s_91 =>
    some (.next (s_91, IntKind.i64.wrap (x_84.2 + 1)))
  else
    some (.done (Sl.set x_3 p_8.Block (⟨x_24.Origin, x_24.Type_, x_24.At, x_24.Live, x_24.Held, x_24.Array, x_24.Size, x_84.1⟩ : Glychgateref13_Chunk)))
noncomputable def lychgateref13_Unlock_K1 (Vars_4 : Int) (p_8 : Glychgateref13_Sym) (x_12 : Sl Glychgateref04_Leq) (x_24 : Glychgateref13_Chunk) (x_3 : Sl Glychgateref13_Chunk) (x_6 : Sl Glychgateref04_Leq) (y_26 : Unit) : Option (Int × (Sl Glychgateref13_Chunk)) :=
  Option.bind (loopO (lychgateref13_Unlock_L1 x_24) 0) fun y_48 =>
  match y_48 with
  | .a y_49 =>
    Option.bind (lychgateref13_Over x_12 x_24.Cells) fun r_53 =>
    Option.bind (loopO (lychgateref13_Unlock_L2 Vars_4 r_53 x_6) 0) fun y_79 =>
    match y_79 with
    | .a y_80 =>
      Option.bind (loopO (lychgateref13_Unlock_L3 p_8 x_24 x_3) (x_24.Cells, 0)) fun y_93 =>
      Option.bind (gidx y_93 p_8.Block) fun x_98 =>
      some (0, (Sl.set y_93 p_8.Block (⟨x_98.Origin, x_98.Type_, x_98.At, x_98.Live, false, x_98.Array, x_98.Size, x_98.Cells⟩ : Glychgateref13_Chunk)))
    | .b y_103 =>
      some (47, x_3)
  | .b y_107 =>
    some (47, x_3)
noncomputable def lychgateref13_Unlock (x_3 : Sl Glychgateref13_Chunk) (Vars_4 : Int) (x_6 : Sl Glychgateref04_Leq) (p_8 : Glychgateref13_Sym) (n_10 : Int) (x_12 : Sl Glychgateref04_Leq) : Option (Int × (Sl Glychgateref13_Chunk)) :=
  Option.bind (lychgateref13_mayLock x_3 Vars_4 x_6 p_8 n_10 true) fun r_15 =>
  if decide (r_15 ≠ 0) then
    some (r_15, x_3)
  else
    Option.bind (gidx x_3 p_8.Block) fun x_24 =>
    lychgateref13_Unlock_K1 Vars_4 p_8 x_12 x_24 x_3 x_6 ()
noncomputable def lychgatelaw13_step_K1 (Vars_10 : Int) (Vars_4 : Int) (k_75 : Gheap_Sym × (Sl Gheap_Chunk)) (k_81 : Glychgateref13_Sym × (Sl Glychgateref13_Chunk)) (x_12 : Sl Glychgateref04_Leq) (x_6 : Sl Gdiff_Leq) (y_83 : Unit) : Option (W2 ((Sl Gheap_Chunk) × (Sl Gdiff_Leq)) (Bool × (Sl Gheap_Chunk) × Int × (Sl Gdiff_Leq) × (Sl Glychgateref13_Chunk) × Int × (Sl Glychgateref04_Leq))) :=
  (some (.b (decide ((⟨k_75.1.Kind, k_75.1.Var, k_75.1.K, k_75.1.Block⟩ : Glychgateref13_Sym) = k_81.1), k_75.2, Vars_4, x_6, k_81.2, Vars_10, x_12)) : Option (W2 ((Sl Gheap_Chunk) × (Sl Gdiff_Leq)) (Bool × (Sl Gheap_Chunk) × Int × (Sl Gdiff_Leq) × (Sl Glychgateref13_Chunk) × Int × (Sl Glychgateref04_Leq))))
noncomputable def lychgatelaw13_step_K2 (k_258 : Gheap_Sym × Int × Int × (Sl Gdiff_Leq)) (k_272 : Glychgateref13_Sym × Int × Int × (Sl Glychgateref04_Leq)) (x_3 : Sl Gheap_Chunk) (x_9 : Sl Glychgateref13_Chunk) (y_274 : Unit) : Option (W2 ((Sl Gheap_Chunk) × (Sl Gdiff_Leq)) (Bool × (Sl Gheap_Chunk) × Int × (Sl Gdiff_Leq) × (Sl Glychgateref13_Chunk) × Int × (Sl Glychgateref04_Leq))) :=
  Option.bind (lychgatelaw13_symRef k_258.1) fun r_282 =>
  (some (.b ((decide ((⟨k_258.1.Kind, k_258.1.Var, k_258.1.K, k_258.1.Block⟩ : Glychgateref13_Sym) = k_272.1) && decide (k_258.2.1 = k_272.2.1)), x_3, k_258.2.2.1, k_258.2.2.2, x_9, k_272.2.2.1, k_272.2.2.2)) : Option (W2 ((Sl Gheap_Chunk) × (Sl Gdiff_Leq)) (Bool × (Sl Gheap_Chunk) × Int × (Sl Gdiff_Leq) × (Sl Glychgateref13_Chunk) × Int × (Sl Glychgateref04_Leq))))
noncomputable def lychgatelaw13_step_K3 (Vars_10 : Int) (k_258 : Gheap_Sym × Int × Int × (Sl Gdiff_Leq)) (o_14 : Glychgatelaw13_Op) (x_12 : Sl Glychgateref04_Leq) (x_3 : Sl Gheap_Chunk) (x_9 : Sl Glychgateref13_Chunk) (y_23 : Gheap_Sym × Gheap_Sym × Gheap_Sym) (y_260 : Unit) : Option (W2 ((Sl Gheap_Chunk) × (Sl Gdiff_Leq)) (Bool × (Sl Gheap_Chunk) × Int × (Sl Gdiff_Leq) × (Sl Glychgateref13_Chunk) × Int × (Sl Glychgateref04_Leq))) :=
  Option.bind (lychgatelaw13_symRef y_23.2.2) fun k_268 =>
  Option.bind (lychgatelaw13_cut o_14.N) fun k_270 =>
  Option.bind (lychgateref13_Add x_9 Vars_10 x_12 (⟨y_23.2.2.Kind, y_23.2.2.Var, y_23.2.2.K, y_23.2.2.Block⟩ : Glychgateref13_Sym) (if (-1099511627776) < (if 1099511627776 < o_14.N then 1099511627776 else o_14.N) then (if 1099511627776 < o_14.N then 1099511627776 else o_14.N) else (-1099511627776))) fun k_272 =>
  lychgatelaw13_step_K2 k_258 k_272 x_3 x_9 ()
noncomputable def lychgatelaw13_step_K4 (k_443 : Glychgateref13_Sym × Int × Int × (Sl Glychgateref04_Leq)) (r_428 : Gheap_Sym × Int × Int × (Sl Gdiff_Leq)) (x_3 : Sl Gheap_Chunk) (x_9 : Sl Glychgateref13_Chunk) (y_445 : Unit) : Option (W2 ((Sl Gheap_Chunk) × (Sl Gdiff_Leq)) (Bool × (Sl Gheap_Chunk) × Int × (Sl Gdiff_Leq) × (Sl Glychgateref13_Chunk) × Int × (Sl Glychgateref04_Leq))) :=
  Option.bind (lychgatelaw13_symRef r_428.1) fun r_453 =>
  (some (.b ((decide ((⟨r_428.1.Kind, r_428.1.Var, r_428.1.K, r_428.1.Block⟩ : Glychgateref13_Sym) = k_443.1) && decide (r_428.2.1 = k_443.2.1)), x_3, r_428.2.2.1, r_428.2.2.2, x_9, k_443.2.2.1, k_443.2.2.2)) : Option (W2 ((Sl Gheap_Chunk) × (Sl Gdiff_Leq)) (Bool × (Sl Gheap_Chunk) × Int × (Sl Gdiff_Leq) × (Sl Glychgateref13_Chunk) × Int × (Sl Glychgateref04_Leq))))
noncomputable def lychgatelaw13_step_K5 (Vars_10 : Int) (Vars_4 : Int) (k_594 : Int × (Sl Gheap_Chunk)) (k_598 : Int × (Sl Glychgateref13_Chunk)) (x_12 : Sl Glychgateref04_Leq) (x_6 : Sl Gdiff_Leq) (y_600 : Unit) : Option (W2 ((Sl Gheap_Chunk) × (Sl Gdiff_Leq)) (Bool × (Sl Gheap_Chunk) × Int × (Sl Gdiff_Leq) × (Sl Glychgateref13_Chunk) × Int × (Sl Glychgateref04_Leq))) :=
  (some (.b (decide (k_594.1 = k_598.1), k_594.2, Vars_4, x_6, k_598.2, Vars_10, x_12)) : Option (W2 ((Sl Gheap_Chunk) × (Sl Gdiff_Leq)) (Bool × (Sl Gheap_Chunk) × Int × (Sl Gdiff_Leq) × (Sl Glychgateref13_Chunk) × Int × (Sl Glychgateref04_Leq))))
noncomputable def lychgatelaw13_step_K6 (k_651 : Int × (Sl Gheap_Chunk) × Int × (Sl Gdiff_Leq)) (k_657 : Int × (Sl Glychgateref13_Chunk) × Int × (Sl Glychgateref04_Leq)) (y_659 : Unit) : Option (W2 ((Sl Gheap_Chunk) × (Sl Gdiff_Leq)) (Bool × (Sl Gheap_Chunk) × Int × (Sl Gdiff_Leq) × (Sl Glychgateref13_Chunk) × Int × (Sl Glychgateref04_Leq))) :=
  (some (.b (decide (k_651.1 = k_657.1), k_651.2.1, k_651.2.2.1, k_651.2.2.2, k_657.2.1, k_657.2.2.1, k_657.2.2.2)) : Option (W2 ((Sl Gheap_Chunk) × (Sl Gdiff_Leq)) (Bool × (Sl Gheap_Chunk) × Int × (Sl Gdiff_Leq) × (Sl Glychgateref13_Chunk) × Int × (Sl Glychgateref04_Leq))))
noncomputable def lychgatelaw13_step_K7 (k_1013 : Int × (Sl Gheap_Chunk)) (k_1019 : Int × (Sl Glychgateref13_Chunk)) (y_1021 : Unit) : Option (W2 ((Sl Gheap_Chunk) × (Sl Gdiff_Leq)) (Bool × (Sl Gheap_Chunk) × (Sl Glychgateref13_Chunk))) :=
  (some (.b (decide (k_1013.1 = k_1019.1), k_1013.2, k_1019.2)) : Option (W2 ((Sl Gheap_Chunk) × (Sl Gdiff_Leq)) (Bool × (Sl Gheap_Chunk) × (Sl Glychgateref13_Chunk))))
noncomputable def lychgatelaw13_step_K8 (Vars_10 : Int) (Vars_4 : Int) (o_14 : Glychgatelaw13_Op) (x_12 : Sl Glychgateref04_Leq) (x_3 : Sl Gheap_Chunk) (x_6 : Sl Gdiff_Leq) (x_9 : Sl Glychgateref13_Chunk) (y_23 : Gheap_Sym × Gheap_Sym × Gheap_Sym) : Option (Bool × (Sl Gheap_Chunk) × Int × (Sl Gdiff_Leq) × (Sl Glychgateref13_Chunk) × Int × (Sl Glychgateref04_Leq)) :=
  Option.bind (
      if decide (y_23.1.Kind = 2) then
        Option.bind (gidx x_3 y_23.1.Block) fun x_36 =>
        Option.bind (lychgatelaw13_facts o_14.Facts (IntKind.i64.wrap (x_36.Cells.len + 1))) fun r_44 =>
        (some r_44 : Option ((Sl Gdiff_Leq)))
      else
        (some (⟨[], false⟩ : Sl Gdiff_Leq) : Option ((Sl Gdiff_Leq)))) fun y_55 =>
  Option.bind (
      Option.bind (
          if decide (o_14.Kind = 1) then
            Option.bind (lychgatelaw13_chunk x_3 Vars_4 x_6 o_14.Chunk) fun r_62 =>
            Option.bind (heap_Heap_Put_v2 x_3 Vars_4 x_6 (if 0 < (if 8 < o_14.Chunk.Origin then 8 else o_14.Chunk.Origin) then (if 8 < o_14.Chunk.Origin then 8 else o_14.Chunk.Origin) else 0) r_62.1 (if (-1) < (if 9 < o_14.Chunk.At then 9 else o_14.Chunk.At) then (if 9 < o_14.Chunk.At then 9 else o_14.Chunk.At) else (-1)) o_14.Chunk.Live o_14.Chunk.Held o_14.Chunk.Array r_62.2.1 r_62.2.2) fun k_75 =>
            Option.bind (lychgatelaw13_symRef k_75.1) fun k_77 =>
            Option.bind (lychgatelaw13_chunkRef (if 0 < (if 8 < o_14.Chunk.Origin then 8 else o_14.Chunk.Origin) then (if 8 < o_14.Chunk.Origin then 8 else o_14.Chunk.Origin) else 0) r_62.1 (if (-1) < (if 9 < o_14.Chunk.At then 9 else o_14.Chunk.At) then (if 9 < o_14.Chunk.At then 9 else o_14.Chunk.At) else (-1)) o_14.Chunk.Live o_14.Chunk.Held o_14.Chunk.Array r_62.2.1 r_62.2.2) fun k_79 =>
            Option.bind (lychgateref13_Put x_9 Vars_10 x_12 (if 0 < (if 8 < o_14.Chunk.Origin then 8 else o_14.Chunk.Origin) then (if 8 < o_14.Chunk.Origin then 8 else o_14.Chunk.Origin) else 0) r_62.1 (if (-1) < (if 9 < o_14.Chunk.At then 9 else o_14.Chunk.At) then (if 9 < o_14.Chunk.At then 9 else o_14.Chunk.At) else (-1)) o_14.Chunk.Live o_14.Chunk.Held o_14.Chunk.Array (⟨r_62.2.1.Kind, r_62.2.1.Var, r_62.2.1.K, r_62.2.1.Block⟩ : Glychgateref13_Sym) k_79) fun k_81 =>
            lychgatelaw13_step_K1 Vars_10 Vars_4 k_75 k_81 x_12 x_6 ()
          else
            Option.bind (
                if decide (o_14.Kind = 2) then
                  Option.bind (heap_Heap_Fresh x_3 Vars_4 x_6) fun r_187 =>
                  Option.bind (lychgateref13_Variable x_9 Vars_10 x_12) fun r_197 =>
                  Option.bind (lychgatelaw13_symRef r_187.1) fun r_208 =>
                  (some (.b ((decide ((⟨r_187.1.Kind, r_187.1.Var, r_187.1.K, r_187.1.Block⟩ : Glychgateref13_Sym) = r_197.1) && decide (r_187.2.1 = r_197.2.1)), x_3, r_187.2.2.1, r_187.2.2.2, x_9, r_197.2.2.1, r_197.2.2.2)) : Option (W2 ((Sl Gheap_Chunk) × (Sl Gdiff_Leq)) (Bool × (Sl Gheap_Chunk) × Int × (Sl Gdiff_Leq) × (Sl Glychgateref13_Chunk) × Int × (Sl Glychgateref04_Leq))))
                else
                  Option.bind (
                      if decide (o_14.Kind = 3) then
                        Option.bind (lychgatelaw13_facts_v2 o_14.Facts Vars_4) fun r_219 =>
                        Option.bind (heap_Heap_Assume x_3 Vars_4 x_6 r_219) fun r_229 =>
                        Option.bind (lychgatelaw13_leqs r_219) fun r_237 =>
                        Option.bind (lychgateref13_Assume x_9 Vars_10 x_12 r_237) fun r_246 =>
                        (some (.b (decide (r_229.1 = r_246.1), x_3, Vars_4, r_229.2, x_9, Vars_10, r_246.2)) : Option (W2 ((Sl Gheap_Chunk) × (Sl Gdiff_Leq)) (Bool × (Sl Gheap_Chunk) × Int × (Sl Gdiff_Leq) × (Sl Glychgateref13_Chunk) × Int × (Sl Glychgateref04_Leq))))
                      else
                        Option.bind (
                            if decide (o_14.Kind = 4) then
                              Option.bind (lychgatelaw13_cut o_14.N) fun k_256 =>
                              Option.bind (heap_Heap_Add x_3 Vars_4 x_6 y_23.2.2 (if (-1099511627776) < (if 1099511627776 < o_14.N then 1099511627776 else o_14.N) then (if 1099511627776 < o_14.N then 1099511627776 else o_14.N) else (-1099511627776))) fun k_258 =>
                              lychgatelaw13_step_K3 Vars_10 k_258 o_14 x_12 x_3 x_9 y_23 ()
                            else
                              Option.bind (
                                  if decide (o_14.Kind = 5) then
                                    Option.bind (heap_Heap_Load x_3 Vars_4 x_6 y_23.1 y_23.2.1) fun r_428 =>
                                    Option.bind (lychgatelaw13_symRef y_23.1) fun k_439 =>
                                    Option.bind (lychgatelaw13_symRef y_23.2.1) fun k_441 =>
                                    Option.bind (lychgateref13_Load x_9 Vars_10 x_12 (⟨y_23.1.Kind, y_23.1.Var, y_23.1.K, y_23.1.Block⟩ : Glychgateref13_Sym) (⟨y_23.2.1.Kind, y_23.2.1.Var, y_23.2.1.K, y_23.2.1.Block⟩ : Glychgateref13_Sym)) fun k_443 =>
                                    lychgatelaw13_step_K4 k_443 r_428 x_3 x_9 ()
                                  else
                                    Option.bind (
                                        if decide (o_14.Kind = 6) then
                                          Option.bind (heap_Heap_Store x_3 Vars_4 x_6 y_23.1 y_23.2.1 y_23.2.2) fun r_551 =>
                                          Option.bind (lychgatelaw13_symRef y_23.1) fun r_559 =>
                                          Option.bind (lychgatelaw13_symRef y_23.2.1) fun r_567 =>
                                          Option.bind (lychgatelaw13_symRef y_23.2.2) fun r_575 =>
                                          Option.bind (lychgateref13_Store x_9 Vars_10 x_12 (⟨y_23.1.Kind, y_23.1.Var, y_23.1.K, y_23.1.Block⟩ : Glychgateref13_Sym) (⟨y_23.2.1.Kind, y_23.2.1.Var, y_23.2.1.K, y_23.2.1.Block⟩ : Glychgateref13_Sym) (⟨y_23.2.2.Kind, y_23.2.2.Var, y_23.2.2.K, y_23.2.2.Block⟩ : Glychgateref13_Sym)) fun r_583 =>
                                          (some (.b (decide (r_551.1 = r_583.1), r_551.2, Vars_4, x_6, r_583.2, Vars_10, x_12)) : Option (W2 ((Sl Gheap_Chunk) × (Sl Gdiff_Leq)) (Bool × (Sl Gheap_Chunk) × Int × (Sl Gdiff_Leq) × (Sl Glychgateref13_Chunk) × Int × (Sl Glychgateref04_Leq))))
                                        else
                                          Option.bind (
                                              if decide (o_14.Kind = 7) then
                                                Option.bind (heap_Heap_Free x_3 Vars_4 x_6 y_23.1) fun k_594 =>
                                                Option.bind (lychgatelaw13_symRef y_23.1) fun k_596 =>
                                                Option.bind (lychgateref13_Free x_9 Vars_10 x_12 (⟨y_23.1.Kind, y_23.1.Var, y_23.1.K, y_23.1.Block⟩ : Glychgateref13_Sym)) fun k_598 =>
                                                lychgatelaw13_step_K5 Vars_10 Vars_4 k_594 k_598 x_12 x_6 ()
                                              else
                                                Option.bind (
                                                    if decide (o_14.Kind = 8) then
                                                      Option.bind (heap_Heap_Lock_v2 x_3 Vars_4 x_6 y_23.1 o_14.N y_55) fun k_651 =>
                                                      Option.bind (lychgatelaw13_symRef y_23.1) fun k_653 =>
                                                      Option.bind (lychgatelaw13_leqs y_55) fun k_655 =>
                                                      Option.bind (lychgateref13_Lock x_9 Vars_10 x_12 (⟨y_23.1.Kind, y_23.1.Var, y_23.1.K, y_23.1.Block⟩ : Glychgateref13_Sym) o_14.N k_655) fun k_657 =>
                                                      lychgatelaw13_step_K6 k_651 k_657 ()
                                                    else
                                                      Option.bind (
                                                          if decide (o_14.Kind = 9) then
                                                            Option.bind (heap_Heap_Unlock x_3 Vars_4 x_6 y_23.1 o_14.N y_55) fun k_1013 =>
                                                            Option.bind (lychgatelaw13_symRef y_23.1) fun k_1015 =>
                                                            Option.bind (lychgatelaw13_leqs y_55) fun k_1017 =>
                                                            Option.bind (lychgateref13_Unlock x_9 Vars_10 x_12 (⟨y_23.1.Kind, y_23.1.Var, y_23.1.K, y_23.1.Block⟩ : Glychgateref13_Sym) o_14.N k_1017) fun k_1019 =>
                                                            lychgatelaw13_step_K7 k_1013 k_1019 ()
                                                          else
                                                            Option.bind (
                                                                if decide (o_14.Kind = 10) then
                                                                  Option.bind (heap_Heap_Copy x_3 Vars_4 x_6) fun r_1308 =>
                                                                  (some (r_1308.1, r_1308.2) : Option ((Sl Gheap_Chunk) × (Sl Gdiff_Leq)))
                                                                else
                                                                  (some (x_3, x_6) : Option ((Sl Gheap_Chunk) × (Sl Gdiff_Leq)))) fun y_1324 =>
                                                            (some (.a (y_1324.1, y_1324.2)) : Option (W2 ((Sl Gheap_Chunk) × (Sl Gdiff_Leq)) (Bool × (Sl Gheap_Chunk) × (Sl Glychgateref13_Chunk))))) fun y_1332 =>
                                                      match y_1332 with
                                                      | .a y_1333 =>
                                                        (some (.a (y_1333.1, y_1333.2)) : Option (W2 ((Sl Gheap_Chunk) × (Sl Gdiff_Leq)) (Bool × (Sl Gheap_Chunk) × Int × (Sl Gdiff_Leq) × (Sl Glychgateref13_Chunk) × Int × (Sl Glychgateref04_Leq))))
                                                      | .b y_1341 =>
                                                        (some (.b (y_1341.1, y_1341.2.1, Vars_4, x_6, y_1341.2.2, Vars_10, x_12)) : Option (W2 ((Sl Gheap_Chunk) × (Sl Gdiff_Leq)) (Bool × (Sl Gheap_Chunk) × Int × (Sl Gdiff_Leq) × (Sl Glychgateref13_Chunk) × Int × (Sl Glychgateref04_Leq))))) fun y_1345 =>
                                                match y_1345 with
                                                | .a y_1346 =>
                                                  (some (.a (y_1346.1, y_1346.2)) : Option (W2 ((Sl Gheap_Chunk) × (Sl Gdiff_Leq)) (Bool × (Sl Gheap_Chunk) × Int × (Sl Gdiff_Leq) × (Sl Glychgateref13_Chunk) × Int × (Sl Glychgateref04_Leq))))
                                                | .b y_1354 =>
                                                  (some (.b (y_1354.1, y_1354.2.1, y_1354.2.2.1, y_1354.2.2.2.1, y_1354.2.2.2.2.1, y_1354.2.2.2.2.2.1, y_1354.2.2.2.2.2.2)) : Option (W2 ((Sl Gheap_Chunk) × (Sl Gdiff_Leq)) (Bool × (Sl Gheap_Chunk) × Int × (Sl Gdiff_Leq) × (Sl Glychgateref13_Chunk) × Int × (Sl Glychgateref04_Leq))))) fun y_1366 =>
                                          match y_1366 with
                                          | .a y_1367 =>
                                            (some (.a (y_1367.1, y_1367.2)) : Option (W2 ((Sl Gheap_Chunk) × (Sl Gdiff_Leq)) (Bool × (Sl Gheap_Chunk) × Int × (Sl Gdiff_Leq) × (Sl Glychgateref13_Chunk) × Int × (Sl Glychgateref04_Leq))))
                                          | .b y_1375 =>
                                            (some (.b (y_1375.1, y_1375.2.1, y_1375.2.2.1, y_1375.2.2.2.1, y_1375.2.2.2.2.1, y_1375.2.2.2.2.2.1, y_1375.2.2.2.2.2.2)) : Option (W2 ((Sl Gheap_Chunk) × (Sl Gdiff_Leq)) (Bool × (Sl Gheap_Chunk) × Int × (Sl Gdiff_Leq) × (Sl Glychgateref13_Chunk) × Int × (Sl Glychgateref04_Leq))))) fun y_1387 =>
                                    match y_1387 with
                                    | .a y_1388 =>
                                      (some (.a (y_1388.1, y_1388.2)) : Option (W2 ((Sl Gheap_Chunk) × (Sl Gdiff_Leq)) (Bool × (Sl Gheap_Chunk) × Int × (Sl Gdiff_Leq) × (Sl Glychgateref13_Chunk) × Int × (Sl Glychgateref04_Leq))))
                                    | .b y_1396 =>
                                      (some (.b (y_1396.1, y_1396.2.1, y_1396.2.2.1, y_1396.2.2.2.1, y_1396.2.2.2.2.1, y_1396.2.2.2.2.2.1, y_1396.2.2.2.2.2.2)) : Option (W2 ((Sl Gheap_Chunk) × (Sl Gdiff_Leq)) (Bool × (Sl Gheap_Chunk) × Int × (Sl Gdiff_Leq) × (Sl Glychgateref13_Chunk) × Int × (Sl Glychgateref04_Leq))))) fun y_1408 =>
                              match y_1408 with
                              | .a y_1409 =>
                                (some (.a (y_1409.1, y_1409.2)) : Option (W2 ((Sl Gheap_Chunk) × (Sl Gdiff_Leq)) (Bool × (Sl Gheap_Chunk) × Int × (Sl Gdiff_Leq) × (Sl Glychgateref13_Chunk) × Int × (Sl Glychgateref04_Leq))))
                              | .b y_1417 =>
                                (some (.b (y_1417.1, y_1417.2.1, y_1417.2.2.1, y_1417.2.2.2.1, y_1417.2.2.2.2.1, y_1417.2.2.2.2.2.1, y_1417.2.2.2.2.2.2)) : Option (W2 ((Sl Gheap_Chunk) × (Sl Gdiff_Leq)) (Bool × (Sl Gheap_Chunk) × Int × (Sl Gdiff_Leq) × (Sl Glychgateref13_Chunk) × Int × (Sl Glychgateref04_Leq))))) fun y_1429 =>
                        match y_1429 with
                        | .a y_1430 =>
                          (some (.a (y_1430.1, y_1430.2)) : Option (W2 ((Sl Gheap_Chunk) × (Sl Gdiff_Leq)) (Bool × (Sl Gheap_Chunk) × Int × (Sl Gdiff_Leq) × (Sl Glychgateref13_Chunk) × Int × (Sl Glychgateref04_Leq))))
                        | .b y_1438 =>
                          (some (.b (y_1438.1, y_1438.2.1, y_1438.2.2.1, y_1438.2.2.2.1, y_1438.2.2.2.2.1, y_1438.2.2.2.2.2.1, y_1438.2.2.2.2.2.2)) : Option (W2 ((Sl Gheap_Chunk) × (Sl Gdiff_Leq)) (Bool × (Sl Gheap_Chunk) × Int × (Sl Gdiff_Leq) × (Sl Glychgateref13_Chunk) × Int × (Sl Glychgateref04_Leq))))) fun y_1450 =>
                  match y_1450 with
                  | .a y_1451 =>
                    (some (.a (y_1451.1, y_1451.2)) : Option (W2 ((Sl Gheap_Chunk) × (Sl Gdiff_Leq)) (Bool × (Sl Gheap_Chunk) × Int × (Sl Gdiff_Leq) × (Sl Glychgateref13_Chunk) × Int × (Sl Glychgateref04_Leq))))
                  | .b y_1459 =>
                    (some (.b (y_1459.1, y_1459.2.1, y_1459.2.2.1, y_1459.2.2.2.1, y_1459.2.2.2.2.1, y_1459.2.2.2.2.2.1, y_1459.2.2.2.2.2.2)) : Option (W2 ((Sl Gheap_Chunk) × (Sl Gdiff_Leq)) (Bool × (Sl Gheap_Chunk) × Int × (Sl Gdiff_Leq) × (Sl Glychgateref13_Chunk) × Int × (Sl Glychgateref04_Leq))))) fun y_1471 =>
            match y_1471 with
            | .a y_1472 =>
              (some (.a (y_1472.1, y_1472.2)) : Option (W2 ((Sl Gheap_Chunk) × (Sl Gdiff_Leq)) (Bool × (Sl Gheap_Chunk) × Int × (Sl Gdiff_Leq) × (Sl Glychgateref13_Chunk) × Int × (Sl Glychgateref04_Leq))))
            | .b y_1480 =>
              (some (.b (y_1480.1, y_1480.2.1, y_1480.2.2.1, y_1480.2.2.2.1, y_1480.2.2.2.2.1, y_1480.2.2.2.2.2.1, y_1480.2.2.2.2.2.2)) : Option (W2 ((Sl Gheap_Chunk) × (Sl Gdiff_Leq)) (Bool × (Sl Gheap_Chunk) × Int × (Sl Gdiff_Leq) × (Sl Glychgateref13_Chunk) × Int × (Sl Glychgateref04_Leq))))) fun y_1492 =>
      match y_1492 with
      | .a y_1493 =>
        (some (.a (y_1493.1, y_1493.2)) : Option (W2 ((Sl Gheap_Chunk) × (Sl Gdiff_Leq)) (Bool × (Sl Gheap_Chunk) × Int × (Sl Gdiff_Leq) × (Sl Glychgateref13_Chunk) × Int × (Sl Glychgateref04_Leq))))
      | .b y_1501 =>
        (some (.b (y_1501.1, y_1501.2.1, y_1501.2.2.1, y_1501.2.2.2.1, y_1501.2.2.2.2.1, y_1501.2.2.2.2.2.1, y_1501.2.2.2.2.2.2)) : Option (W2 ((Sl Gheap_Chunk) × (Sl Gdiff_Leq)) (Bool × (Sl Gheap_Chunk) × Int × (Sl Gdiff_Leq) × (Sl Glychgateref13_Chunk) × Int × (Sl Glychgateref04_Leq))))) fun y_1513 =>
  match y_1513 with
  | .a y_1514 =>
    some (true, y_1514.1, Vars_4, y_1514.2, x_9, Vars_10, x_12)
  | .b y_1522 =>
    some (y_1522.1, y_1522.2.1, y_1522.2.2.1, y_1522.2.2.2.1, y_1522.2.2.2.2.1, y_1522.2.2.2.2.2.1, y_1522.2.2.2.2.2.2)
noncomputable def lychgatelaw13_step_K9 (Vars_10 : Int) (Vars_4 : Int) (o_14 : Glychgatelaw13_Op) (x_12 : Sl Glychgateref04_Leq) (x_3 : Sl Gheap_Chunk) (x_6 : Sl Gdiff_Leq) (x_9 : Sl Glychgateref13_Chunk) (y_1613 : Gheap_Sym × Gheap_Sym) : Option (Bool × (Sl Gheap_Chunk) × Int × (Sl Gdiff_Leq) × (Sl Glychgateref13_Chunk) × Int × (Sl Glychgateref04_Leq)) :=
  Option.bind (lychgatelaw13_sym_v2 x_3 Vars_4 x_6 o_14.V) fun r_1624 =>
  lychgatelaw13_step_K8 Vars_10 Vars_4 o_14 x_12 x_3 x_6 x_9 (y_1613.1, y_1613.2, r_1624)
noncomputable def lychgatelaw13_step_K10 (Vars_10 : Int) (Vars_4 : Int) (o_14 : Glychgatelaw13_Op) (x_12 : Sl Glychgateref04_Leq) (x_3 : Sl Gheap_Chunk) (x_6 : Sl Gdiff_Leq) (x_9 : Sl Glychgateref13_Chunk) (y_1738 : Gheap_Sym) : Option (Bool × (Sl Gheap_Chunk) × Int × (Sl Gdiff_Leq) × (Sl Glychgateref13_Chunk) × Int × (Sl Glychgateref04_Leq)) :=
  Option.bind (lychgatelaw13_sym_v2 x_3 Vars_4 x_6 o_14.I) fun r_1749 =>
  lychgatelaw13_step_K9 Vars_10 Vars_4 o_14 x_12 x_3 x_6 x_9 (y_1738, r_1749)
noncomputable def lychgatelaw13_step_K11 (Vars_10 : Int) (Vars_4 : Int) (o_14 : Glychgatelaw13_Op) (x_12 : Sl Glychgateref04_Leq) (x_3 : Sl Gheap_Chunk) (x_6 : Sl Gdiff_Leq) (x_9 : Sl Glychgateref13_Chunk) (y_1902 : Unit) : Option (Bool × (Sl Gheap_Chunk) × Int × (Sl Gdiff_Leq) × (Sl Glychgateref13_Chunk) × Int × (Sl Glychgateref04_Leq)) :=
  Option.bind (lychgatelaw13_sym_v2 x_3 Vars_4 x_6 o_14.P) fun r_1913 =>
  lychgatelaw13_step_K10 Vars_10 Vars_4 o_14 x_12 x_3 x_6 x_9 r_1913
noncomputable def lychgatelaw13_step (x_3 : Sl Gheap_Chunk) (Vars_4 : Int) (x_6 : Sl Gdiff_Leq) (x_9 : Sl Glychgateref13_Chunk) (Vars_10 : Int) (x_12 : Sl Glychgateref04_Leq) (o_14 : Glychgatelaw13_Op) : Option (Bool × (Sl Gheap_Chunk) × Int × (Sl Gdiff_Leq) × (Sl Glychgateref13_Chunk) × Int × (Sl Glychgateref04_Leq)) :=
  lychgatelaw13_step_K11 Vars_10 Vars_4 o_14 x_12 x_3 x_6 x_9 ()
noncomputable def lychgateref13_Entails_v2 (x_3 : Sl Glychgateref13_Chunk) (Vars_4 : Int) (x_6 : Sl Glychgateref04_Leq) (f_8 : Glychgateref04_Leq) : Option Bool :=
  if ((decide (768 ≤ x_6.len) || decide (8796093022208 ≤ f_8.C)) || decide (f_8.C < (-8796093022208))) then
    some false
  else
    Option.bind (lychgateref04_Entails Vars_4 f_8 x_6) fun r_16 =>
    some r_16
noncomputable def lychgatelaw13_HeapEntails_L1 (s_21 : Sl Glychgatelaw13_Op) (x_27 : (Sl Gheap_Chunk) × Int × (Sl Gdiff_Leq) × (Sl Glychgateref13_Chunk) × Int × (Sl Glychgateref04_Leq) × Int) : Option (Step ((Sl Gheap_Chunk) × Int × (Sl Gdiff_Leq) × (Sl Glychgateref13_Chunk) × Int × (Sl Glychgateref04_Leq) × Int) ((Sl Gheap_Chunk) × Int × (Sl Gdiff_Leq) × (Sl Glychgateref13_Chunk) × Int × (Sl Glychgateref04_Leq))) :=
  if decide (x_27.2.2.2.2.2.2 < s_21.len) then
    Option.bind (gidx s_21 x_27.2.2.2.2.2.2) fun x_40 =>
    Option.bind (lychgatelaw13_step x_27.1 x_27.2.1 x_27.2.2.1 x_27.2.2.2.1 x_27.2.2.2.2.1 x_27.2.2.2.2.2.1 x_40) fun r_50 =>
    some (.next (r_50.2.1, r_50.2.2.1, r_50.2.2.2.1, r_50.2.2.2.2.1, r_50.2.2.2.2.2.1, r_50.2.2.2.2.2.2, IntKind.i64.wrap (x_27.2.2.2.2.2.2 + 1)))
  else
    some (.done (x_27.1, x_27.2.1, x_27.2.2.1, x_27.2.2.2.1, x_27.2.2.2.2.1, x_27.2.2.2.2.2.1))
noncomputable def lychgatelaw13_HeapEntails_K1 (k_95 : Int) (q_93 : Int) (x_81 : Int) (x_86 : Gdiff_Leq) (y_65 : (Sl Gheap_Chunk) × Int × (Sl Gdiff_Leq) × (Sl Glychgateref13_Chunk) × Int × (Sl Glychgateref04_Leq)) (y_97 : Unit) : Option (Step Int (W2 Unit Unit)) :=
  Option.bind (heap_Heap_Entails y_65.1 y_65.2.1 y_65.2.2.1 (⟨q_93, k_95, x_86.C⟩ : Gdiff_Leq)) fun r_102 =>
  Option.bind (lychgateref13_Entails_v2 y_65.2.2.2.1 y_65.2.2.2.2.1 y_65.2.2.2.2.2 (⟨q_93, k_95, x_86.C⟩ : Glychgateref04_Leq)) fun r_110 =>
  if (r_102 != r_110) then
    some (.done (.b ()))
  else
    some (.next (IntKind.i64.wrap (x_81 + 1)))
noncomputable def lychgatelaw13_HeapEntails_L2 (s_79 : Sl Gdiff_Leq) (y_65 : (Sl Gheap_Chunk) × Int × (Sl Gdiff_Leq) × (Sl Glychgateref13_Chunk) × Int × (Sl Glychgateref04_Leq)) (x_81 : Int) : Option (Step Int (W2 Unit Unit)) :=
  if decide (x_81 < s_79.len) then
    Option.bind (gidx s_79 x_81) fun x_86 =>
    Option.bind (gmod .i64 (if 0 < x_86.X then x_86.X else 0) y_65.2.1) fun q_93 =>
    Option.bind (gmod .i64 (if 0 < x_86.Y then x_86.Y else 0) y_65.2.1) fun k_95 =>
    lychgatelaw13_HeapEntails_K1 k_95 q_93 x_81 x_86 y_65 ()
  else
    some (.done (.a ()))
noncomputable def lychgatelaw13_HeapEntails (script_2 : Sl Glychgatelaw13_Op) (goals_5 : Sl Gdiff_Leq) : Option Bool :=
  Option.bind (lychgatelaw13_wakes) fun r_11 =>
  if !r_11 then
    some false
  else
    Option.bind (gslice script_2 0 (if 30 < script_2.len then 30 else script_2.len)) fun s_21 =>
    Option.bind (loopO (lychgatelaw13_HeapEntails_L1 s_21) ((⟨[], false⟩ : Sl Gheap_Chunk), 1, (⟨[], false⟩ : Sl Gdiff_Leq), (⟨[], false⟩ : Sl Glychgateref13_Chunk), 1, (⟨[], false⟩ : Sl Glychgateref04_Leq), 0)) fun y_65 =>
    Option.bind (gslice goals_5 0 (if 9 < goals_5.len then 9 else goals_5.len)) fun s_79 =>
    Option.bind (loopO (lychgatelaw13_HeapEntails_L2 s_79 y_65) 0) fun y_121 =>
    match y_121 with
    | .a y_122 =>
      some true
    | .b y_126 =>
      some false
noncomputable def lychgatelaw13_sameHeap_L1 (x_12 : Sl Glychgateref04_Leq) (x_6 : Sl Gdiff_Leq) (x_17 : Int) : Option (Step Int (W2 Unit Unit)) :=
  if decide (x_17 < x_6.len) then
    Option.bind (gidx x_6 x_17) fun x_22 =>
    Option.bind (gidx x_12 x_17) fun x_29 =>
    if !(decide ((⟨x_22.X, x_22.Y, x_22.C⟩ : Glychgateref04_Leq) = x_29)) then
      some (.done (.b ()))
    else
      some (.next (IntKind.i64.wrap (x_17 + 1)))
  else
    some (.done (.a ()))
noncomputable def lychgatelaw13_sameHeap_L2 (k_49 : (Sl Glychgateref13_Sym)) (x_47 : Glychgateref13_Chunk) (x_71 : Int) : Option (Step Int (W2 Unit Unit)) :=
  if decide (x_71 < k_49.len) then
    Option.bind (gidx k_49 x_71) fun x_77 =>
    Option.bind (gidx x_47.Cells x_71) fun x_81 =>
    if !(decide (x_77 = x_81)) then
      some (.done (.b ()))
    else
      some (.next (IntKind.i64.wrap (x_71 + 1)))
  else
    some (.done (.a ()))
noncomputable def lychgatelaw13_sameHeap_L3 (x_3 : Sl Gheap_Chunk) (x_9 : Sl Glychgateref13_Chunk) (x_39 : Int) : Option (Step Int (W2 Unit Unit)) :=
  if decide (x_39 < x_3.len) then
    Option.bind (gidx x_3 x_39) fun x_45 =>
    Option.bind (gidx x_9 x_39) fun x_47 =>
    Option.bind (lychgatelaw13_chunkRef x_45.Origin x_45.Type_ x_45.At x_45.Live x_45.Held x_45.Array x_45.Size x_45.Cells) fun k_49 =>
    if (((((((decide (x_45.Origin ≠ x_47.Origin) || decide (x_45.Type_ ≠ x_47.Type_)) || decide (x_45.At ≠ x_47.At)) || (x_45.Live != x_47.Live)) || (x_45.Held != x_47.Held)) || (x_45.Array != x_47.Array)) || !(decide ((⟨x_45.Size.Kind, x_45.Size.Var, x_45.Size.K, x_45.Size.Block⟩ : Glychgateref13_Sym) = x_47.Size))) || decide (k_49.len ≠ x_47.Cells.len)) then
      some (.done (.b ()))
    else
      Option.bind (loopO (lychgatelaw13_sameHeap_L2 k_49 x_47) 0) fun y_86 =>
      match y_86 with
      | .a y_87 =>
        some (.next (IntKind.i64.wrap (x_39 + 1)))
      | .b y_91 =>
        some (.done (.b ()))
  else
    some (.done (.a ()))
noncomputable def lychgatelaw13_sameHeap (x_3 : Sl Gheap_Chunk) (Vars_4 : Int) (x_6 : Sl Gdiff_Leq) (x_9 : Sl Glychgateref13_Chunk) (Vars_10 : Int) (x_12 : Sl Glychgateref04_Leq) : Option Bool :=
  if ((decide (Vars_4 ≠ Vars_10) || decide (x_3.len ≠ x_9.len)) || decide (x_6.len ≠ x_12.len)) then
    some false
  else
    Option.bind (loopO (lychgatelaw13_sameHeap_L1 x_12 x_6) 0) fun y_34 =>
    match y_34 with
    | .a y_35 =>
      Option.bind (loopO (lychgatelaw13_sameHeap_L3 x_3 x_9) 0) fun y_623 =>
      match y_623 with
      | .a y_624 =>
        some true
      | .b y_628 =>
        some false
    | .b y_632 =>
      some false
noncomputable def lychgatelaw13_HeapCopies_L1 (s_21 : Sl Glychgatelaw13_Op) (x_27 : (Sl Gheap_Chunk) × Int × (Sl Gdiff_Leq) × (Sl Glychgateref13_Chunk) × Int × (Sl Glychgateref04_Leq) × Int) : Option (Step ((Sl Gheap_Chunk) × Int × (Sl Gdiff_Leq) × (Sl Glychgateref13_Chunk) × Int × (Sl Glychgateref04_Leq) × Int) ((Sl Gheap_Chunk) × Int × (Sl Gdiff_Leq) × (Sl Glychgateref13_Chunk) × Int × (Sl Glychgateref04_Leq))) :=
  if decide (x_27.2.2.2.2.2.2 < s_21.len) then
    Option.bind (gidx s_21 x_27.2.2.2.2.2.2) fun x_40 =>
    Option.bind (lychgatelaw13_step x_27.1 x_27.2.1 x_27.2.2.1 x_27.2.2.2.1 x_27.2.2.2.2.1 x_27.2.2.2.2.2.1 x_40) fun r_50 =>
    some (.next (r_50.2.1, r_50.2.2.1, r_50.2.2.2.1, r_50.2.2.2.2.1, r_50.2.2.2.2.2.1, r_50.2.2.2.2.2.2, IntKind.i64.wrap (x_27.2.2.2.2.2.2 + 1)))
  else
    some (.done (x_27.1, x_27.2.1, x_27.2.2.1, x_27.2.2.2.1, x_27.2.2.2.2.1, x_27.2.2.2.2.2.1))
noncomputable def lychgatelaw13_HeapCopies_L2 (s_95 : Sl Glychgatelaw13_Op) (y_65 : (Sl Gheap_Chunk) × Int × (Sl Gdiff_Leq) × (Sl Glychgateref13_Chunk) × Int × (Sl Glychgateref04_Leq)) (x_97 : (Sl Gheap_Chunk) × Int × (Sl Gdiff_Leq) × Int) : Option (Step ((Sl Gheap_Chunk) × Int × (Sl Gdiff_Leq) × Int) (W2 ((Sl Gheap_Chunk) × Int × (Sl Gdiff_Leq)) Unit)) :=
  if decide (x_97.2.2.2 < s_95.len) then
    Option.bind (gidx s_95 x_97.2.2.2) fun x_106 =>
    Option.bind (lychgateref13_Twin y_65.2.2.2.1 y_65.2.2.2.2.1 y_65.2.2.2.2.2) fun r_116 =>
    Option.bind (lychgatelaw13_step x_97.1 x_97.2.1 x_97.2.2.1 r_116.1 y_65.2.2.2.2.1 r_116.2 (⟨0, (⟨0, 0, 0, 0⟩ : Gheap_Sym), (⟨0, 0, 0, 0⟩ : Gheap_Sym), (⟨0, 0, 0, 0⟩ : Gheap_Sym), 0, (⟨0, 0, 0, false, false, false, (⟨0, 0, 0, 0⟩ : Gheap_Sym), (⟨[], false⟩ : Sl Gheap_Sym)⟩ : Gheap_Chunk), (⟨[], false⟩ : Sl Gdiff_Leq)⟩ : Glychgatelaw13_Op)) fun r_129 =>
    if !r_129.1 then
      some (.done (.b ()))
    else
      Option.bind (heap_Heap_Copy r_129.2.1 r_129.2.2.1 r_129.2.2.2.1) fun r_147 =>
      Option.bind (lychgatelaw13_step r_147.1 r_129.2.2.1 r_147.2 r_116.1 y_65.2.2.2.2.1 r_116.2 x_106) fun r_177 =>
      some (.next (r_129.2.1, r_129.2.2.1, r_129.2.2.2.1, IntKind.i64.wrap (x_97.2.2.2 + 1)))
  else
    some (.done (.a (x_97.1, x_97.2.1, x_97.2.2.1)))
noncomputable def lychgatelaw13_HeapCopies_L3 (s_95 : Sl Glychgatelaw13_Op) (x_217 : (Sl Gheap_Chunk) × Int × (Sl Gdiff_Leq) × (Sl Glychgateref13_Chunk) × Int × (Sl Glychgateref04_Leq) × Int) : Option (Step ((Sl Gheap_Chunk) × Int × (Sl Gdiff_Leq) × (Sl Glychgateref13_Chunk) × Int × (Sl Glychgateref04_Leq) × Int) (W2 ((Sl Gheap_Chunk) × Int × (Sl Gdiff_Leq) × (Sl Glychgateref13_Chunk) × Int × (Sl Glychgateref04_Leq)) Unit)) :=
  if decide (x_217.2.2.2.2.2.2 < s_95.len) then
    Option.bind (gidx s_95 x_217.2.2.2.2.2.2) fun x_230 =>
    Option.bind (lychgatelaw13_step x_217.1 x_217.2.1 x_217.2.2.1 x_217.2.2.2.1 x_217.2.2.2.2.1 x_217.2.2.2.2.2.1 x_230) fun r_240 =>
    if !r_240.1 then
      some (.done (.b ()))
    else
      some (.next (r_240.2.1, r_240.2.2.1, r_240.2.2.2.1, r_240.2.2.2.2.1, r_240.2.2.2.2.2.1, r_240.2.2.2.2.2.2, IntKind.i64.wrap (x_217.2.2.2.2.2.2 + 1)))
  else
    some (.done (.a (x_217.1, x_217.2.1, x_217.2.2.1, x_217.2.2.2.1, x_217.2.2.2.2.1, x_217.2.2.2.2.2.1)))
noncomputable def lychgatelaw13_HeapCopies (one_2 : Sl Glychgatelaw13_Op) (two_5 : Sl Glychgatelaw13_Op) : Option Bool :=
  Option.bind (lychgatelaw13_wakes) fun r_11 =>
  if !r_11 then
    some false
  else
    Option.bind (gslice one_2 0 (if 30 < one_2.len then 30 else one_2.len)) fun s_21 =>
    Option.bind (loopO (lychgatelaw13_HeapCopies_L1 s_21) ((⟨[], false⟩ : Sl Gheap_Chunk), 1, (⟨[], false⟩ : Sl Gdiff_Leq), (⟨[], false⟩ : Sl Glychgateref13_Chunk), 1, (⟨[], false⟩ : Sl Glychgateref04_Leq), 0)) fun y_65 =>
    Option.bind (heap_Heap_Copy y_65.1 y_65.2.1 y_65.2.2.1) fun r_79 =>
    Option.bind (gslice two_5 0 (if 30 < two_5.len then 30 else two_5.len)) fun s_95 =>
    Option.bind (loopO (lychgatelaw13_HeapCopies_L2 s_95 y_65) (r_79.1, y_65.2.1, r_79.2, 0)) fun y_193 =>
    match y_193 with
    | .a y_194 =>
      Option.bind (lychgateref13_Twin y_65.2.2.2.1 y_65.2.2.2.2.1 y_65.2.2.2.2.2) fun r_202 =>
      Option.bind (loopO (lychgatelaw13_HeapCopies_L3 s_95) (y_194.1, y_194.2.1, y_194.2.2, r_202.1, y_65.2.2.2.2.1, r_202.2, 0)) fun y_256 =>
      match y_256 with
      | .a y_257 =>
        Option.bind (lychgatelaw13_sameHeap y_65.1 y_65.2.1 y_65.2.2.1 y_65.2.2.2.1 y_65.2.2.2.2.1 y_65.2.2.2.2.2) fun r_269 =>
        Option.bind (if r_269 then
            Option.bind (lychgatelaw13_sameHeap y_257.1 y_257.2.1 y_257.2.2.1 y_257.2.2.2.1 y_257.2.2.2.2.1 y_257.2.2.2.2.2) fun r_278 =>
            some r_278
          else
            some false) fun y_277 =>
        some y_277
      | .b y_288 =>
        some false
    | .b y_292 =>
      some false
noncomputable def lychgatelaw13_HeapRights_L1 (x_83 : Gheap_Chunk) (x_91 : Gheap_Chunk) (x_111 : Int) : Option (Step Int (W2 Unit Unit)) :=
  if decide (x_111 < x_83.Cells.len) then
    Option.bind (if ((decide (x_83.Origin = 3) || decide (x_83.Origin = 8)) || ((decide (x_83.Origin = 6) && !x_83.Held) && !x_91.Held)) then
        Option.bind (gidx x_83.Cells x_111) fun x_119 =>
        Option.bind (gidx x_91.Cells x_111) fun x_123 =>
        some (!(decide (x_119 = x_123)))
      else
        some false) fun y_118 =>
    if y_118 then
      some (.done (.b ()))
    else
      some (.next (IntKind.i64.wrap (x_111 + 1)))
  else
    some (.done (.a ()))
noncomputable def lychgatelaw13_HeapRights_L2 (r_49 : (Sl Gheap_Chunk) × (Sl Gdiff_Leq)) (r_63 : Bool × (Sl Gheap_Chunk) × Int × (Sl Gdiff_Leq) × (Sl Glychgateref13_Chunk) × Int × (Sl Glychgateref04_Leq)) (x_78 : Int) : Option (Step Int (W2 Unit Unit)) :=
  if decide (x_78 < r_49.1.len) then
    Option.bind (gidx r_49.1 x_78) fun x_83 =>
    Option.bind (gidx r_63.2.1 x_78) fun x_91 =>
    if (((((((((decide (x_83.Origin = 3) || decide (x_83.Origin = 8)) || ((decide (x_83.Origin = 6) && !x_83.Held) && !x_91.Held)) || decide (x_83.Origin = 2)) || decide (x_83.Origin = 4)) || decide (x_83.Origin = 6)) && (x_83.Live != x_91.Live)) || decide (x_83.Origin ≠ x_91.Origin)) || (x_83.Array != x_91.Array)) || decide (x_83.Cells.len ≠ x_91.Cells.len)) then
      some (.done (.b ()))
    else
      Option.bind (loopO (lychgatelaw13_HeapRights_L1 x_83 x_91) 0) fun y_132 =>
      match y_132 with
      | .a y_133 =>
        some (.next (IntKind.i64.wrap (x_78 + 1)))
      | .b y_137 =>
        some (.done (.b ()))
  else
    some (.done (.a ()))
noncomputable def lychgatelaw13_HeapRights_L3 (s_18 : Sl Glychgatelaw13_Op) (x_24 : (Sl Gheap_Chunk) × Int × (Sl Gdiff_Leq) × (Sl Glychgateref13_Chunk) × Int × (Sl Glychgateref04_Leq) × Int) : Option (Step ((Sl Gheap_Chunk) × Int × (Sl Gdiff_Leq) × (Sl Glychgateref13_Chunk) × Int × (Sl Glychgateref04_Leq) × Int) (W2 Unit Unit)) :=
  if decide (x_24.2.2.2.2.2.2 < s_18.len) then
    Option.bind (gidx s_18 x_24.2.2.2.2.2.2) fun x_37 =>
    Option.bind (heap_Heap_Copy x_24.1 x_24.2.1 x_24.2.2.1) fun r_49 =>
    Option.bind (lychgatelaw13_step x_24.1 x_24.2.1 x_24.2.2.1 x_24.2.2.2.1 x_24.2.2.2.2.1 x_24.2.2.2.2.2.1 x_37) fun r_63 =>
    Option.bind (loopO (lychgatelaw13_HeapRights_L2 r_49 r_63) 0) fun y_141 =>
    match y_141 with
    | .a y_142 =>
      some (.next (r_63.2.1, r_63.2.2.1, r_63.2.2.2.1, r_63.2.2.2.2.1, r_63.2.2.2.2.2.1, r_63.2.2.2.2.2.2, IntKind.i64.wrap (x_24.2.2.2.2.2.2 + 1)))
    | .b y_146 =>
      some (.done (.b ()))
  else
    some (.done (.a ()))
noncomputable def lychgatelaw13_HeapRights (script_2 : Sl Glychgatelaw13_Op) : Option Bool :=
  Option.bind (lychgatelaw13_wakes) fun r_8 =>
  if !r_8 then
    some false
  else
    Option.bind (gslice script_2 0 (if 40 < script_2.len then 40 else script_2.len)) fun s_18 =>
    Option.bind (loopO (lychgatelaw13_HeapRights_L3 s_18) ((⟨[], false⟩ : Sl Gheap_Chunk), 1, (⟨[], false⟩ : Sl Gdiff_Leq), (⟨[], false⟩ : Sl Glychgateref13_Chunk), 1, (⟨[], false⟩ : Sl Glychgateref04_Leq), 0)) fun y_150 =>
    match y_150 with
    | .a y_151 =>
      some true
    | .b y_155 =>
      some false
noncomputable def diff_Solve_L1 (r_14 : (Sl Int) × (Sl Int)) (x_27 : Int) (x_31 : (Sl Int) × Int) : Option (Step ((Sl Int) × Int) ((Sl Int))) :=
  if decide (x_31.2 < r_14.1.len) then
    Option.bind (gidx x_31.1 x_31.2) fun x_36 =>
    Option.bind (gset x_31.1 x_31.2 (IntKind.i64.wrap (x_36 - x_27))) fun s_40 =>
    some (.next (s_40, IntKind.i64.wrap (x_31.2 + 1)))
  else
    some (.done x_31.1)
noncomputable def diff_Solve (n_1 : Int) (x_3 : Sl Gdiff_Leq) : Option ((Sl Int) × (Sl Int) × Int) :=
  Option.bind (diff_fit n_1 x_3) fun r_4 =>
  if decide (r_4 ≠ 0) then
    some ((⟨[], false⟩ : Sl Int), (⟨[], false⟩ : Sl Int), r_4)
  else
    Option.bind (diff_solve n_1 x_3) fun r_14 =>
    if r_14.2.nn then
      some ((⟨[], false⟩ : Sl Int), r_14.2, 0)
    else
      Option.bind (gidx r_14.1 0) fun x_27 =>
      Option.bind (loopO (diff_Solve_L1 r_14 x_27) (r_14.1, 0)) fun y_42 =>
      some (y_42, (⟨[], false⟩ : Sl Int), 0)
noncomputable def heap_Heap_Dead (x_3 : Sl Gheap_Chunk) (Vars_4 : Int) (x_6 : Sl Gdiff_Leq) : Option Bool :=
  Option.bind (diff_Solve Vars_4 x_6) fun r_8 =>
  some (decide (0 < r_8.2.1.len))
noncomputable def lychgatelaw13_HeapFree_L1 (s_19 : Sl Glychgatelaw13_Op) (x_25 : (Sl Gheap_Chunk) × Int × (Sl Gdiff_Leq) × (Sl Glychgateref13_Chunk) × Int × (Sl Glychgateref04_Leq) × Int) : Option (Step ((Sl Gheap_Chunk) × Int × (Sl Gdiff_Leq) × (Sl Glychgateref13_Chunk) × Int × (Sl Glychgateref04_Leq) × Int) ((Sl Gheap_Chunk) × Int × (Sl Gdiff_Leq))) :=
  if decide (x_25.2.2.2.2.2.2 < s_19.len) then
    Option.bind (gidx s_19 x_25.2.2.2.2.2.2) fun x_38 =>
    Option.bind (lychgatelaw13_step x_25.1 x_25.2.1 x_25.2.2.1 x_25.2.2.2.1 x_25.2.2.2.2.1 x_25.2.2.2.2.2.1 x_38) fun r_48 =>
    some (.next (r_48.2.1, r_48.2.2.1, r_48.2.2.2.1, r_48.2.2.2.2.1, r_48.2.2.2.2.2.1, r_48.2.2.2.2.2.2, IntKind.i64.wrap (x_25.2.2.2.2.2.2 + 1)))
  else
    some (.done (x_25.1, x_25.2.1, x_25.2.2.1))
noncomputable def lychgatelaw13_HeapFree (script_2 : Sl Glychgatelaw13_Op) (n_4 : Int) : Option Bool :=
  Option.bind (lychgatelaw13_wakes) fun r_9 =>
  if !r_9 then
    some false
  else
    Option.bind (gslice script_2 0 (if 30 < script_2.len then 30 else script_2.len)) fun s_19 =>
    Option.bind (loopO (lychgatelaw13_HeapFree_L1 s_19) ((⟨[], false⟩ : Sl Gheap_Chunk), 1, (⟨[], false⟩ : Sl Gdiff_Leq), (⟨[], false⟩ : Sl Glychgateref13_Chunk), 1, (⟨[], false⟩ : Sl Glychgateref04_Leq), 0)) fun y_63 =>
    Option.bind (heap_Heap_Dead y_63.1 y_63.2.1 y_63.2.2) fun r_71 =>
    if r_71 then
      some true
    else
      Option.bind (heap_Heap_Fresh y_63.1 y_63.2.1 y_63.2.2) fun r_79 =>
      if decide (r_79.2.1 ≠ 0) then
        some (decide (r_79.2.1 = 22))
      else
        Option.bind (heap_Heap_Entails y_63.1 r_79.2.2.1 r_79.2.2.2 (⟨r_79.1.Var, 0, (if (-1099511627775) < (if 1099511627775 < n_4 then 1099511627775 else n_4) then (if 1099511627775 < n_4 then 1099511627775 else n_4) else (-1099511627775))⟩ : Gdiff_Leq)) fun r_90 =>
        Option.bind (if r_90 then
            some true
          else
            Option.bind (heap_Heap_Entails y_63.1 r_79.2.2.1 r_79.2.2.2 (⟨0, r_79.1.Var, (if (-1099511627775) < (if 1099511627775 < n_4 then 1099511627775 else n_4) then (if 1099511627775 < n_4 then 1099511627775 else n_4) else (-1099511627775))⟩ : Gdiff_Leq)) fun r_99 =>
            some r_99) fun y_98 =>
        Option.bind (if y_98 then
            some true
          else
            Option.bind (heap_Heap_Entails y_63.1 r_79.2.2.1 r_79.2.2.2 (⟨r_79.1.Var, 0, 1099511627776⟩ : Gdiff_Leq)) fun r_111 =>
            some (!r_111)) fun y_110 =>
        Option.bind (if y_110 then
            some true
          else
            Option.bind (heap_Heap_Entails y_63.1 r_79.2.2.1 r_79.2.2.2 (⟨0, r_79.1.Var, 1099511627776⟩ : Gdiff_Leq)) fun r_123 =>
            some (!r_123)) fun y_122 =>
        Option.bind (if y_122 then
            some true
          else
            Option.bind (heap_Heap_Dead y_63.1 r_79.2.2.1 r_79.2.2.2) fun r_135 =>
            some r_135) fun y_134 =>
        if y_134 then
          some false
        else
          Option.bind (heap_Heap_Assume y_63.1 r_79.2.2.1 r_79.2.2.2 (⟨[(⟨r_79.1.Var, 0, (if (-1099511627775) < (if 1099511627775 < n_4 then 1099511627775 else n_4) then (if 1099511627775 < n_4 then 1099511627775 else n_4) else (-1099511627775))⟩ : Gdiff_Leq), (⟨0, r_79.1.Var, IntKind.i64.wrap (0 - (if (-1099511627775) < (if 1099511627775 < n_4 then 1099511627775 else n_4) then (if 1099511627775 < n_4 then 1099511627775 else n_4) else (-1099511627775)))⟩ : Gdiff_Leq)], true⟩ : Sl Gdiff_Leq)) fun r_148 =>
          Option.bind (heap_Heap_Dead y_63.1 r_79.2.2.1 r_148.2) fun r_156 =>
          some (!r_156)
end Go.Px
