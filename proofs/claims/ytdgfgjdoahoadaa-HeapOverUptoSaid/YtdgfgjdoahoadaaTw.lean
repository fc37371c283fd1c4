/- Twins of the models, with fuel. -/
import Derived.Test.YtdgfgjdoahoadaaMd
import Derived.Test.YtdgfgjdoahoadaaCF
namespace Go.Px
open Go.Proofs
set_option linter.unusedVariables false
def slices_CloneF (x_2 : Sl Gheap_Sym) : Option ((Sl Gheap_Sym)) :=
  if !x_2.nn then
    some (⟨[], false⟩ : Sl Gheap_Sym)
  else
    Option.bind (gapp 32 (⟨[], true⟩ : Sl Gheap_Sym) x_2.xs) fun s_8 =>
    some s_8
theorem slices_CloneF_le (x_2 : Sl Gheap_Sym) : Le (slices_CloneF x_2) (slices_Clone x_2) := by
  unfold slices_CloneF slices_Clone
  repeat (first | with_reducible exact Le.refl _ | (refine Le.loop (fun _ => ?_) _) | (with_reducible refine Le.bind ?_ (fun _ => ?_)) | (with_reducible refine Le.ite ?_ ?_) | (split <;> with_reducible exact Le.refl _) | (rename_i y; cases y <;> simp only))
def slices_ClipF (x_2 : Sl Gheap_Chunk) : Option Unit :=
  some ()
theorem slices_ClipF_le (x_2 : Sl Gheap_Chunk) : Le (slices_ClipF x_2) (slices_Clip x_2) := by
  unfold slices_ClipF slices_Clip
  repeat (first | with_reducible exact Le.refl _ | (refine Le.loop (fun _ => ?_) _) | (with_reducible refine Le.bind ?_ (fun _ => ?_)) | (with_reducible refine Le.ite ?_ ?_) | (split <;> with_reducible exact Le.refl _) | (rename_i y; cases y <;> simp only))
def heap_Heap_Put_K1F (k_36 : Sl Gheap_Chunk) (y_38 : Unit) : Option (Gheap_Sym × (Sl Gheap_Chunk)) :=
  some ((⟨2, 0, 0, IntKind.i64.wrap (k_36.len - 1)⟩ : Gheap_Sym), k_36)
theorem heap_Heap_Put_K1F_le (k_36 : Sl Gheap_Chunk) (y_38 : Unit) : Le (heap_Heap_Put_K1F k_36 y_38) (heap_Heap_Put_K1 k_36 y_38) := by
  unfold heap_Heap_Put_K1F heap_Heap_Put_K1
  repeat (first | with_reducible exact Le.refl _ | (refine Le.loop (fun _ => ?_) _) | (with_reducible refine Le.bind ?_ (fun _ => ?_)) | (with_reducible refine Le.ite ?_ ?_) | (split <;> with_reducible exact Le.refl _) | (rename_i y; cases y <;> simp only))
def heap_Heap_PutF (x_3 : Sl Gheap_Chunk) (Vars_4 : Int) (x_6 : Sl Gdiff_Leq) (Origin_7 : Int) (Type_8 : Int) (At_9 : Int) (Live_10 : Bool) (Held_11 : Bool) (Array_12 : Bool) (Size_14 : Gheap_Sym) (x_17 : Sl Gheap_Sym) : Option (Gheap_Sym × (Sl Gheap_Chunk)) :=
  Option.bind (slices_CloneF x_17) fun r_23 =>
  Option.bind (slices_ClipF x_3) fun k_34 =>
  Option.bind (gapp 88 x_3 [(⟨Origin_7, Type_8, At_9, Live_10, Held_11, Array_12, Size_14, r_23⟩ : Gheap_Chunk)]) fun k_36 =>
  heap_Heap_Put_K1F k_36 ()
theorem heap_Heap_PutF_le (x_3 : Sl Gheap_Chunk) (Vars_4 : Int) (x_6 : Sl Gdiff_Leq) (Origin_7 : Int) (Type_8 : Int) (At_9 : Int) (Live_10 : Bool) (Held_11 : Bool) (Array_12 : Bool) (Size_14 : Gheap_Sym) (x_17 : Sl Gheap_Sym) : Le (heap_Heap_PutF x_3 Vars_4 x_6 Origin_7 Type_8 At_9 Live_10 Held_11 Array_12 Size_14 x_17) (heap_Heap_Put x_3 Vars_4 x_6 Origin_7 Type_8 At_9 Live_10 Held_11 Array_12 Size_14 x_17) := by
  unfold heap_Heap_PutF heap_Heap_Put
  repeat (first | with_reducible exact Le.refl _ | (with_reducible apply slices_CloneF_le) | (with_reducible apply slices_ClipF_le) | (with_reducible apply heap_Heap_Put_K1F_le) | (refine Le.loop (fun _ => ?_) _) | (with_reducible refine Le.bind ?_ (fun _ => ?_)) | (with_reducible refine Le.ite ?_ ?_) | (split <;> with_reducible exact Le.refl _) | (rename_i y; cases y <;> simp only))
def heap_NumberF (n_1 : Int) : Option Unit :=
  some ()
theorem heap_NumberF_le (n_1 : Int) : Le (heap_NumberF n_1) (heap_Number n_1) := by
  unfold heap_NumberF heap_Number
  repeat (first | with_reducible exact Le.refl _ | (refine Le.loop (fun _ => ?_) _) | (with_reducible refine Le.bind ?_ (fun _ => ?_)) | (with_reducible refine Le.ite ?_ ?_) | (split <;> with_reducible exact Le.refl _) | (rename_i y; cases y <;> simp only))
def heap_Sym_ofF (s_2 : Gheap_Sym) (k_4 : Int) : Option Int :=
  if decide (s_2.Kind = k_4) then
    some 0
  else
    if decide (s_2.Kind = 0) then
      some 41
    else
      some 40
theorem heap_Sym_ofF_le (s_2 : Gheap_Sym) (k_4 : Int) : Le (heap_Sym_ofF s_2 k_4) (heap_Sym_of s_2 k_4) := by
  unfold heap_Sym_ofF heap_Sym_of
  repeat (first | with_reducible exact Le.refl _ | (refine Le.loop (fun _ => ?_) _) | (with_reducible refine Le.bind ?_ (fun _ => ?_)) | (with_reducible refine Le.ite ?_ ?_) | (split <;> with_reducible exact Le.refl _) | (rename_i y; cases y <;> simp only))
def heap_Heap_chunkF (x_3 : Sl Gheap_Chunk) (Vars_4 : Int) (x_6 : Sl Gdiff_Leq) (p_8 : Gheap_Sym) : Option ((Option Int) × Int) :=
  Option.bind (heap_Sym_ofF p_8 2) fun r_12 =>
  if decide (r_12 ≠ 0) then
    some ((none : Option Int), r_12)
  else
    Option.bind (if (decide (p_8.Block < 0) || decide (x_3.len ≤ p_8.Block)) then
        some true
      else
        Option.bind (gidx x_3 p_8.Block) fun x_24 =>
        some (!x_24.Live)) fun y_23 =>
    if y_23 then
      some ((none : Option Int), 43)
    else
      Option.bind (gidx x_3 p_8.Block) fun x_34 =>
      some ((some p_8.Block), 0)
theorem heap_Heap_chunkF_le (x_3 : Sl Gheap_Chunk) (Vars_4 : Int) (x_6 : Sl Gdiff_Leq) (p_8 : Gheap_Sym) : Le (heap_Heap_chunkF x_3 Vars_4 x_6 p_8) (heap_Heap_chunk x_3 Vars_4 x_6 p_8) := by
  unfold heap_Heap_chunkF heap_Heap_chunk
  repeat (first | with_reducible exact Le.refl _ | (with_reducible apply heap_Sym_ofF_le) | (refine Le.loop (fun _ => ?_) _) | (with_reducible refine Le.bind ?_ (fun _ => ?_)) | (with_reducible refine Le.ite ?_ ?_) | (split <;> with_reducible exact Le.refl _) | (rename_i y; cases y <;> simp only))
def slices_Clone_v2F (x_2 : Sl Gdiff_Leq) : Option ((Sl Gdiff_Leq)) :=
  if !x_2.nn then
    some (⟨[], false⟩ : Sl Gdiff_Leq)
  else
    Option.bind (gapp 24 (⟨[], true⟩ : Sl Gdiff_Leq) x_2.xs) fun s_8 =>
    some s_8
theorem slices_Clone_v2F_le (x_2 : Sl Gdiff_Leq) : Le (slices_Clone_v2F x_2) (slices_Clone_v2 x_2) := by
  unfold slices_Clone_v2F slices_Clone_v2
  repeat (first | with_reducible exact Le.refl _ | (refine Le.loop (fun _ => ?_) _) | (with_reducible refine Le.bind ?_ (fun _ => ?_)) | (with_reducible refine Le.ite ?_ ?_) | (split <;> with_reducible exact Le.refl _) | (rename_i y; cases y <;> simp only))
def diff_fit_1F (f_2 : Gdiff_Leq) (f_5 : Int) : Option Unit :=
  some ()
theorem diff_fit_1F_le (f_2 : Gdiff_Leq) (f_5 : Int) : Le (diff_fit_1F f_2 f_5) (diff_fit_1 f_2 f_5) := by
  unfold diff_fit_1F diff_fit_1
  repeat (first | with_reducible exact Le.refl _ | (refine Le.loop (fun _ => ?_) _) | (with_reducible refine Le.bind ?_ (fun _ => ?_)) | (with_reducible refine Le.ite ?_ ?_) | (split <;> with_reducible exact Le.refl _) | (rename_i y; cases y <;> simp only))
def slices_IndexFunc_L1F (f_4 : Int) (x_2 : Sl Gdiff_Leq) (x_5 : Int) : Option (Step Int (W2 Unit Int)) :=
  if decide (x_5 < x_2.len) then
    Option.bind (gidx x_2 x_5) fun x_10 =>
    Option.bind (diff_fit_1F x_10 f_4) fun r_14 =>
    if (((((decide (x_10.X < 0) || decide (f_4 ≤ x_10.X)) || decide (x_10.Y < 0)) || decide (f_4 ≤ x_10.Y)) || decide (8796093022208 < x_10.C)) || decide (x_10.C < (-8796093022208))) then
      some (.done (.b x_5))
    else
      some (.next (IntKind.i64.wrap (x_5 + 1)))
  else
    some (.done (.a ()))
theorem slices_IndexFunc_L1F_le (f_4 : Int) (x_2 : Sl Gdiff_Leq) (x_5 : Int) : Le (slices_IndexFunc_L1F f_4 x_2 x_5) (slices_IndexFunc_L1 f_4 x_2 x_5) := by
  unfold slices_IndexFunc_L1F slices_IndexFunc_L1
  repeat (first | with_reducible exact Le.refl _ | (with_reducible apply diff_fit_1F_le) | (refine Le.loop (fun _ => ?_) _) | (with_reducible refine Le.bind ?_ (fun _ => ?_)) | (with_reducible refine Le.ite ?_ ?_) | (split <;> with_reducible exact Le.refl _) | (rename_i y; cases y <;> simp only))
def slices_IndexFuncF (x_2 : Sl Gdiff_Leq) (f_4 : Int) : Option Int :=
  Option.bind (iterL (slices_IndexFunc_L1F f_4 x_2) 1000 0) fun y_22 =>
  match y_22 with
  | .a y_23 =>
    some (-1)
  | .b y_27 =>
    some y_27
theorem slices_IndexFuncF_le (x_2 : Sl Gdiff_Leq) (f_4 : Int) : Le (slices_IndexFuncF x_2 f_4) (slices_IndexFunc x_2 f_4) := by
  unfold slices_IndexFuncF slices_IndexFunc
  repeat (first | with_reducible exact Le.refl _ | (with_reducible apply slices_IndexFunc_L1F_le) | (refine Le.loop (fun _ => ?_) _) | (with_reducible refine Le.bind ?_ (fun _ => ?_)) | (with_reducible refine Le.ite ?_ ?_) | (split <;> with_reducible exact Le.refl _) | (rename_i y; cases y <;> simp only))
def slices_ContainsFuncF (x_2 : Sl Gdiff_Leq) (f_4 : Int) : Option Bool :=
  Option.bind (slices_IndexFuncF x_2 f_4) fun r_5 =>
  some (decide (0 ≤ r_5))
theorem slices_ContainsFuncF_le (x_2 : Sl Gdiff_Leq) (f_4 : Int) : Le (slices_ContainsFuncF x_2 f_4) (slices_ContainsFunc x_2 f_4) := by
  unfold slices_ContainsFuncF slices_ContainsFunc
  repeat (first | with_reducible exact Le.refl _ | (with_reducible apply slices_IndexFuncF_le) | (refine Le.loop (fun _ => ?_) _) | (with_reducible refine Le.bind ?_ (fun _ => ?_)) | (with_reducible refine Le.ite ?_ ?_) | (split <;> with_reducible exact Le.refl _) | (rename_i y; cases y <;> simp only))
def diff_fitF (n_1 : Int) (x_3 : Sl Gdiff_Leq) : Option Int :=
  if decide (768 < x_3.len) then
    some 22
  else
    if (decide (n_1 < 1) || decide (96 < n_1)) then
      some 2
    else
      Option.bind (slices_ContainsFuncF x_3 n_1) fun r_9 =>
      if r_9 then
        some 2
      else
        some 0
theorem diff_fitF_le (n_1 : Int) (x_3 : Sl Gdiff_Leq) : Le (diff_fitF n_1 x_3) (diff_fit n_1 x_3) := by
  unfold diff_fitF diff_fit
  repeat (first | with_reducible exact Le.refl _ | (with_reducible apply slices_ContainsFuncF_le) | (refine Le.loop (fun _ => ?_) _) | (with_reducible refine Le.bind ?_ (fun _ => ?_)) | (with_reducible refine Le.ite ?_ ?_) | (split <;> with_reducible exact Le.refl _) | (rename_i y; cases y <;> simp only))
def diff_solve_K1F (k_39 : Sl Int) (k_43 : Sl Int) (x_17 : (Sl Int) × (Sl Int) × Int × Int) (y_45 : Unit) : Option ((Sl Int) × (Sl Int) × Int) :=
  (some (k_39, k_43, x_17.2.2.2) : Option ((Sl Int) × (Sl Int) × Int))
theorem diff_solve_K1F_le (k_39 : Sl Int) (k_43 : Sl Int) (x_17 : (Sl Int) × (Sl Int) × Int × Int) (y_45 : Unit) : Le (diff_solve_K1F k_39 k_43 x_17 y_45) (diff_solve_K1 k_39 k_43 x_17 y_45) := by
  unfold diff_solve_K1F diff_solve_K1
  repeat (first | with_reducible exact Le.refl _ | (refine Le.loop (fun _ => ?_) _) | (with_reducible refine Le.bind ?_ (fun _ => ?_)) | (with_reducible refine Le.ite ?_ ?_) | (split <;> with_reducible exact Le.refl _) | (rename_i y; cases y <;> simp only))
def diff_solve_L1F (x_3 : Sl Gdiff_Leq) (x_17 : (Sl Int) × (Sl Int) × Int × Int) : Option (Step ((Sl Int) × (Sl Int) × Int × Int) ((Sl Int) × (Sl Int) × Int)) :=
  if decide (x_17.2.2.2 < x_3.len) then
    Option.bind (
        Option.bind (gidx x_3 x_17.2.2.2) fun x_22 =>
        Option.bind (gidx x_17.1 x_22.Y) fun x_29 =>
        Option.bind (gidx x_17.1 x_22.X) fun x_33 =>
        Option.bind (
            if decide ((IntKind.i64.wrap (x_29 + x_22.C)) < x_33) then
              Option.bind (gset x_17.1 x_22.X (IntKind.i64.wrap (x_29 + x_22.C))) fun k_39 =>
              Option.bind (gidx x_17.2.1 x_22.X) fun k_41 =>
              Option.bind (gset x_17.2.1 x_22.X x_17.2.2.2) fun k_43 =>
              diff_solve_K1F k_39 k_43 x_17 ()
            else
              (some (x_17.1, x_17.2.1, x_17.2.2.1) : Option ((Sl Int) × (Sl Int) × Int))) fun y_62 =>
        (some (y_62.1, y_62.2.1, y_62.2.2) : Option ((Sl Int) × (Sl Int) × Int))) fun y_66 =>
    some (.next (y_66.1, y_66.2.1, y_66.2.2, IntKind.i64.wrap (x_17.2.2.2 + 1)))
  else
    some (.done (x_17.1, x_17.2.1, x_17.2.2.1))
theorem diff_solve_L1F_le (x_3 : Sl Gdiff_Leq) (x_17 : (Sl Int) × (Sl Int) × Int × Int) : Le (diff_solve_L1F x_3 x_17) (diff_solve_L1 x_3 x_17) := by
  unfold diff_solve_L1F diff_solve_L1
  repeat (first | with_reducible exact Le.refl _ | (with_reducible apply diff_solve_K1F_le) | (refine Le.loop (fun _ => ?_) _) | (with_reducible refine Le.bind ?_ (fun _ => ?_)) | (with_reducible refine Le.ite ?_ ?_) | (split <;> with_reducible exact Le.refl _) | (rename_i y; cases y <;> simp only))
def diff_solve_L2F (n_1 : Int) (x_3 : Sl Gdiff_Leq) (x_12 : (Sl Int) × (Sl Int) × Int × Int) : Option (Step ((Sl Int) × (Sl Int) × Int × Int) (W2 ((Sl Int) × Int) ((Sl Int)))) :=
  if decide (x_12.2.2.2 < n_1) then
    Option.bind (iterL (diff_solve_L1F x_3) 1000 (x_12.1, x_12.2.1, (-1), 0)) fun y_70 =>
    if decide (y_70.2.2 < 0) then
      some (.done (.b y_70.1))
    else
      some (.next (y_70.1, y_70.2.1, y_70.2.2, IntKind.i64.wrap (x_12.2.2.2 + 1)))
  else
    some (.done (.a (x_12.2.1, x_12.2.2.1)))
theorem diff_solve_L2F_le (n_1 : Int) (x_3 : Sl Gdiff_Leq) (x_12 : (Sl Int) × (Sl Int) × Int × Int) : Le (diff_solve_L2F n_1 x_3 x_12) (diff_solve_L2 n_1 x_3 x_12) := by
  unfold diff_solve_L2F diff_solve_L2
  repeat (first | with_reducible exact Le.refl _ | (with_reducible apply diff_solve_L1F_le) | (refine Le.loop (fun _ => ?_) _) | (with_reducible refine Le.bind ?_ (fun _ => ?_)) | (with_reducible refine Le.ite ?_ ?_) | (split <;> with_reducible exact Le.refl _) | (rename_i y; cases y <;> simp only))
def diff_solve_L3F (n_1 : Int) (x_3 : Sl Gdiff_Leq) (y_76 : (Sl Int) × Int) (x_84 : Int × Int) : Option (Step (Int × Int) Int) :=
  if decide (x_84.2 < n_1) then
    Option.bind (gidx y_76.1 x_84.1) fun x_89 =>
    Option.bind (gidx x_3 x_89) fun x_93 =>
    some (.next (x_93.Y, IntKind.i64.wrap (x_84.2 + 1)))
  else
    some (.done x_84.1)
theorem diff_solve_L3F_le (n_1 : Int) (x_3 : Sl Gdiff_Leq) (y_76 : (Sl Int) × Int) (x_84 : Int × Int) : Le (diff_solve_L3F n_1 x_3 y_76 x_84) (diff_solve_L3 n_1 x_3 y_76 x_84) := by
  unfold diff_solve_L3F diff_solve_L3
  repeat (first | with_reducible exact Le.refl _ | (refine Le.loop (fun _ => ?_) _) | (with_reducible refine Le.bind ?_ (fun _ => ?_)) | (with_reducible refine Le.ite ?_ ?_) | (split <;> with_reducible exact Le.refl _) | (rename_i y; cases y <;> simp only))
def diff_solve_L4F (x_3 : Sl Gdiff_Leq) (y_76 : (Sl Int) × Int) (y_97 : Int) (x_102 : (Sl Int) × Int) : Option (Step ((Sl Int) × Int) ((Sl Int))) :=
  Option.bind (gidx y_76.1 x_102.2) fun x_108 =>
  Option.bind (gapp 8 x_102.1 [x_108]) fun s_115 =>
  Option.bind (gidx x_3 x_108) fun x_117 =>
  if decide (x_117.Y = y_97) then
    some (.done s_115)
  else
    some (.next (s_115, x_117.Y))
theorem diff_solve_L4F_le (x_3 : Sl Gdiff_Leq) (y_76 : (Sl Int) × Int) (y_97 : Int) (x_102 : (Sl Int) × Int) : Le (diff_solve_L4F x_3 y_76 y_97 x_102) (diff_solve_L4 x_3 y_76 y_97 x_102) := by
  unfold diff_solve_L4F diff_solve_L4
  repeat (first | with_reducible exact Le.refl _ | (refine Le.loop (fun _ => ?_) _) | (with_reducible refine Le.bind ?_ (fun _ => ?_)) | (with_reducible refine Le.ite ?_ ?_) | (split <;> with_reducible exact Le.refl _) | (rename_i y; cases y <;> simp only))
def diff_solveF (n_1 : Int) (x_3 : Sl Gdiff_Leq) : Option ((Sl Int) × (Sl Int)) :=
  Option.bind (gmake 8 n_1 0) fun s_6 =>
  Option.bind (iterL (diff_solve_L2F n_1 x_3) 1000 (s_6, s_6, (-1), 0)) fun y_75 =>
  match y_75 with
  | .a y_76 =>
    Option.bind (gidx x_3 y_76.2) fun x_80 =>
    Option.bind (iterL (diff_solve_L3F n_1 x_3 y_76) 1000 (x_80.X, 0)) fun y_97 =>
    Option.bind (iterL (diff_solve_L4F x_3 y_76 y_97) 1000 ((⟨[], false⟩ : Sl Int), y_97)) fun y_122 =>
    some ((⟨[], false⟩ : Sl Int), y_122)
  | .b y_129 =>
    some (y_129, (⟨[], false⟩ : Sl Int))
theorem diff_solveF_le (n_1 : Int) (x_3 : Sl Gdiff_Leq) : Le (diff_solveF n_1 x_3) (diff_solve n_1 x_3) := by
  unfold diff_solveF diff_solve
  repeat (first | with_reducible exact Le.refl _ | (with_reducible apply diff_solve_L2F_le) | (with_reducible apply diff_solve_L3F_le) | (with_reducible apply diff_solve_L4F_le) | (refine Le.loop (fun _ => ?_) _) | (with_reducible refine Le.bind ?_ (fun _ => ?_)) | (with_reducible refine Le.ite ?_ ?_) | (split <;> with_reducible exact Le.refl _) | (rename_i y; cases y <;> simp only))
def diff_Entails_K1F (goal_3 : Gdiff_Leq) (k_12 : Sl Gdiff_Leq) (n_1 : Int) (x_6 : Sl Gdiff_Leq) (y_14 : Unit) : Option (Bool × Int) :=
  Option.bind (diff_fitF n_1 k_12) fun r_20 =>
  if decide (r_20 ≠ 0) then
    some (false, r_20)
  else
    if decide (goal_3.C = 8796093022208) then
      some (false, 2)
    else
      Option.bind (gidx k_12 x_6.len) fun x_29 =>
      Option.bind (gset k_12 x_6.len (⟨goal_3.Y, goal_3.X, IntKind.i64.wrap ((IntKind.i64.wrap (0 - goal_3.C)) - 1)⟩ : Gdiff_Leq)) fun s_31 =>
      Option.bind (diff_solveF n_1 s_31) fun r_33 =>
      some (r_33.2.nn, 0)
theorem diff_Entails_K1F_le (goal_3 : Gdiff_Leq) (k_12 : Sl Gdiff_Leq) (n_1 : Int) (x_6 : Sl Gdiff_Leq) (y_14 : Unit) : Le (diff_Entails_K1F goal_3 k_12 n_1 x_6 y_14) (diff_Entails_K1 goal_3 k_12 n_1 x_6 y_14) := by
  unfold diff_Entails_K1F diff_Entails_K1
  repeat (first | with_reducible exact Le.refl _ | (with_reducible apply diff_fitF_le) | (with_reducible apply diff_solveF_le) | (refine Le.loop (fun _ => ?_) _) | (with_reducible refine Le.bind ?_ (fun _ => ?_)) | (with_reducible refine Le.ite ?_ ?_) | (split <;> with_reducible exact Le.refl _) | (rename_i y; cases y <;> simp only))
def diff_EntailsF (n_1 : Int) (goal_3 : Gdiff_Leq) (x_6 : Sl Gdiff_Leq) : Option (Bool × Int) :=
  Option.bind (slices_Clone_v2F x_6) fun k_10 =>
  Option.bind (gapp 24 k_10 [goal_3]) fun k_12 =>
  diff_Entails_K1F goal_3 k_12 n_1 x_6 ()
theorem diff_EntailsF_le (n_1 : Int) (goal_3 : Gdiff_Leq) (x_6 : Sl Gdiff_Leq) : Le (diff_EntailsF n_1 goal_3 x_6) (diff_Entails n_1 goal_3 x_6) := by
  unfold diff_EntailsF diff_Entails
  repeat (first | with_reducible exact Le.refl _ | (with_reducible apply slices_Clone_v2F_le) | (with_reducible apply diff_Entails_K1F_le) | (refine Le.loop (fun _ => ?_) _) | (with_reducible refine Le.bind ?_ (fun _ => ?_)) | (with_reducible refine Le.ite ?_ ?_) | (split <;> with_reducible exact Le.refl _) | (rename_i y; cases y <;> simp only))
def heap_Heap_EntailsF (x_3 : Sl Gheap_Chunk) (Vars_4 : Int) (x_6 : Sl Gdiff_Leq) (f_8 : Gdiff_Leq) : Option Bool :=
  Option.bind (diff_EntailsF Vars_4 f_8 x_6) fun r_13 =>
  some (r_13.1 && decide (r_13.2 = 0))
theorem heap_Heap_EntailsF_le (x_3 : Sl Gheap_Chunk) (Vars_4 : Int) (x_6 : Sl Gdiff_Leq) (f_8 : Gdiff_Leq) : Le (heap_Heap_EntailsF x_3 Vars_4 x_6 f_8) (heap_Heap_Entails x_3 Vars_4 x_6 f_8) := by
  unfold heap_Heap_EntailsF heap_Heap_Entails
  repeat (first | with_reducible exact Le.refl _ | (with_reducible apply diff_EntailsF_le) | (refine Le.loop (fun _ => ?_) _) | (with_reducible refine Le.bind ?_ (fun _ => ?_)) | (with_reducible refine Le.ite ?_ ?_) | (split <;> with_reducible exact Le.refl _) | (rename_i y; cases y <;> simp only))
def heap_Heap_withinF (x_3 : Sl Gheap_Chunk) (Vars_4 : Int) (x_6 : Sl Gdiff_Leq) (index_8 : Gheap_Sym) (size_11 : Gheap_Sym) : Option Bool :=
  Option.bind (heap_Heap_EntailsF x_3 Vars_4 x_6 (⟨0, index_8.Var, index_8.K⟩ : Gdiff_Leq)) fun r_17 =>
  Option.bind (if r_17 then
      Option.bind (heap_Heap_EntailsF x_3 Vars_4 x_6 (⟨index_8.Var, size_11.Var, IntKind.i64.wrap ((IntKind.i64.wrap (size_11.K - index_8.K)) - 1)⟩ : Gdiff_Leq)) fun r_26 =>
      some r_26
    else
      some false) fun y_25 =>
  some y_25
theorem heap_Heap_withinF_le (x_3 : Sl Gheap_Chunk) (Vars_4 : Int) (x_6 : Sl Gdiff_Leq) (index_8 : Gheap_Sym) (size_11 : Gheap_Sym) : Le (heap_Heap_withinF x_3 Vars_4 x_6 index_8 size_11) (heap_Heap_within x_3 Vars_4 x_6 index_8 size_11) := by
  unfold heap_Heap_withinF heap_Heap_within
  repeat (first | with_reducible exact Le.refl _ | (with_reducible apply heap_Heap_EntailsF_le) | (refine Le.loop (fun _ => ?_) _) | (with_reducible refine Le.bind ?_ (fun _ => ?_)) | (with_reducible refine Le.ite ?_ ?_) | (split <;> with_reducible exact Le.refl _) | (rename_i y; cases y <;> simp only))
def heap_Heap_reachF (x_3 : Sl Gheap_Chunk) (Vars_4 : Int) (x_6 : Sl Gdiff_Leq) (p_8 : Gheap_Sym) (index_11 : Gheap_Sym) (write_13 : Bool) : Option ((Option Int) × Int) :=
  Option.bind (heap_Sym_ofF p_8 2) fun r_18 =>
  if decide (r_18 ≠ 0) then
    some ((none : Option Int), r_18)
  else
    Option.bind (heap_Sym_ofF index_11 1) fun r_26 =>
    if decide (r_26 ≠ 0) then
      some ((none : Option Int), r_26)
    else
      Option.bind (heap_Heap_chunkF x_3 Vars_4 x_6 p_8) fun r_34 =>
      Option.bind (
          Option.bind (
              if decide (r_34.2 ≠ 0) then
                (some (.b r_34.2) : Option (W2 Unit Int))
              else
                Option.bind (if write_13 then
                    Option.bind (r_34.1) fun i_44 =>
                    Option.bind (gidx x_3 i_44) fun x_46 =>
                    some (decide (x_46.Origin = 3) || decide (x_46.Origin = 8))
                  else
                    some false) fun y_43 =>
                Option.bind (
                    if y_43 then
                      (some (.b 44) : Option (W2 Unit Int))
                    else
                      Option.bind (r_34.1) fun i_57 =>
                      Option.bind (gidx x_3 i_57) fun x_59 =>
                      Option.bind (
                          if (decide (x_59.Origin = 6) && !x_59.Held) then
                            (some (.b 45) : Option (W2 Unit Int))
                          else
                            Option.bind (
                                if x_59.Array then
                                  Option.bind (heap_Heap_withinF x_3 Vars_4 x_6 index_11 x_59.Size) fun r_73 =>
                                  if !r_73 then
                                    (some (.b 42) : Option (W2 Unit Int))
                                  else
                                    (some (.a ()) : Option (W2 Unit Int))
                                else
                                  Option.bind (if (decide (index_11.Var ≠ 0) || decide (index_11.K < 0)) then
                                      some true
                                    else
                                      some (decide (x_59.Cells.len ≤ index_11.K))) fun y_85 =>
                                  if y_85 then
                                    (some (.b 42) : Option (W2 Unit Int))
                                  else
                                    if (decide (x_59.Origin = 6) && decide (index_11.K = x_59.At)) then
                                      (some (.b 45) : Option (W2 Unit Int))
                                    else
                                      (some (.a ()) : Option (W2 Unit Int))) fun y_104 =>
                            match y_104 with
                            | .a y_105 =>
                              (some (.a ()) : Option (W2 Unit Int))
                            | .b y_109 =>
                              (some (.b y_109) : Option (W2 Unit Int))) fun y_113 =>
                      match y_113 with
                      | .a y_114 =>
                        (some (.a ()) : Option (W2 Unit Int))
                      | .b y_118 =>
                        (some (.b y_118) : Option (W2 Unit Int))) fun y_122 =>
                match y_122 with
                | .a y_123 =>
                  (some (.a ()) : Option (W2 Unit Int))
                | .b y_127 =>
                  (some (.b y_127) : Option (W2 Unit Int))) fun y_131 =>
          match y_131 with
          | .a y_132 =>
            (some (.a ()) : Option (W2 Unit Int))
          | .b y_136 =>
            (some (.b y_136) : Option (W2 Unit Int))) fun y_140 =>
      match y_140 with
      | .a y_141 =>
        some (r_34.1, 0)
      | .b y_145 =>
        some ((none : Option Int), y_145)
theorem heap_Heap_reachF_le (x_3 : Sl Gheap_Chunk) (Vars_4 : Int) (x_6 : Sl Gdiff_Leq) (p_8 : Gheap_Sym) (index_11 : Gheap_Sym) (write_13 : Bool) : Le (heap_Heap_reachF x_3 Vars_4 x_6 p_8 index_11 write_13) (heap_Heap_reach x_3 Vars_4 x_6 p_8 index_11 write_13) := by
  unfold heap_Heap_reachF heap_Heap_reach
  repeat (first | with_reducible exact Le.refl _ | (with_reducible apply heap_Sym_ofF_le) | (with_reducible apply heap_Heap_chunkF_le) | (with_reducible apply heap_Heap_withinF_le) | (refine Le.loop (fun _ => ?_) _) | (with_reducible refine Le.bind ?_ (fun _ => ?_)) | (with_reducible refine Le.ite ?_ ?_) | (split <;> with_reducible exact Le.refl _) | (rename_i y; cases y <;> simp only))
def slices_Clip_v2F (x_2 : Sl Gdiff_Leq) : Option Unit :=
  some ()
theorem slices_Clip_v2F_le (x_2 : Sl Gdiff_Leq) : Le (slices_Clip_v2F x_2) (slices_Clip_v2 x_2) := by
  unfold slices_Clip_v2F slices_Clip_v2
  repeat (first | with_reducible exact Le.refl _ | (refine Le.loop (fun _ => ?_) _) | (with_reducible refine Le.bind ?_ (fun _ => ?_)) | (with_reducible refine Le.ite ?_ ?_) | (split <;> with_reducible exact Le.refl _) | (rename_i y; cases y <;> simp only))
def heap_Heap_AssumeF (x_3 : Sl Gheap_Chunk) (Vars_4 : Int) (x_6 : Sl Gdiff_Leq) (x_8 : Sl Gdiff_Leq) : Option (Int × (Sl Gdiff_Leq)) :=
  if decide (768 < (IntKind.i64.wrap (x_6.len + x_8.len))) then
    some (22, x_6)
  else
    Option.bind (slices_Clip_v2F x_6) fun r_10 =>
    Option.bind (gapp 24 x_6 x_8.xs) fun s_19 =>
    some (0, s_19)
theorem heap_Heap_AssumeF_le (x_3 : Sl Gheap_Chunk) (Vars_4 : Int) (x_6 : Sl Gdiff_Leq) (x_8 : Sl Gdiff_Leq) : Le (heap_Heap_AssumeF x_3 Vars_4 x_6 x_8) (heap_Heap_Assume x_3 Vars_4 x_6 x_8) := by
  unfold heap_Heap_AssumeF heap_Heap_Assume
  repeat (first | with_reducible exact Le.refl _ | (with_reducible apply slices_Clip_v2F_le) | (refine Le.loop (fun _ => ?_) _) | (with_reducible refine Le.bind ?_ (fun _ => ?_)) | (with_reducible refine Le.ite ?_ ?_) | (split <;> with_reducible exact Le.refl _) | (rename_i y; cases y <;> simp only))
def heap_Heap_FreshF (x_3 : Sl Gheap_Chunk) (Vars_4 : Int) (x_6 : Sl Gdiff_Leq) : Option (Gheap_Sym × Int × Int × (Sl Gdiff_Leq)) :=
  if decide (96 ≤ Vars_4) then
    some ((⟨0, 0, 0, 0⟩ : Gheap_Sym), 22, Vars_4, x_6)
  else
    Option.bind (heap_Heap_AssumeF x_3 Vars_4 x_6 (⟨[(⟨Vars_4, 0, 1099511627776⟩ : Gdiff_Leq), (⟨0, Vars_4, 1099511627776⟩ : Gdiff_Leq)], true⟩ : Sl Gdiff_Leq)) fun r_12 =>
    if decide (r_12.1 ≠ 0) then
      some ((⟨0, 0, 0, 0⟩ : Gheap_Sym), r_12.1, Vars_4, r_12.2)
    else
      some ((⟨1, Vars_4, 0, 0⟩ : Gheap_Sym), 0, IntKind.i64.wrap (Vars_4 + 1), r_12.2)
theorem heap_Heap_FreshF_le (x_3 : Sl Gheap_Chunk) (Vars_4 : Int) (x_6 : Sl Gdiff_Leq) : Le (heap_Heap_FreshF x_3 Vars_4 x_6) (heap_Heap_Fresh x_3 Vars_4 x_6) := by
  unfold heap_Heap_FreshF heap_Heap_Fresh
  repeat (first | with_reducible exact Le.refl _ | (with_reducible apply heap_Heap_AssumeF_le) | (refine Le.loop (fun _ => ?_) _) | (with_reducible refine Le.bind ?_ (fun _ => ?_)) | (with_reducible refine Le.ite ?_ ?_) | (split <;> with_reducible exact Le.refl _) | (rename_i y; cases y <;> simp only))
def heap_Heap_LoadF (x_3 : Sl Gheap_Chunk) (Vars_4 : Int) (x_6 : Sl Gdiff_Leq) (p_8 : Gheap_Sym) (index_11 : Gheap_Sym) : Option (Gheap_Sym × Int × Int × (Sl Gdiff_Leq)) :=
  Option.bind (heap_Heap_reachF x_3 Vars_4 x_6 p_8 index_11 false) fun r_19 =>
  if decide (r_19.2 ≠ 0) then
    some ((⟨0, 0, 0, 0⟩ : Gheap_Sym), r_19.2, Vars_4, x_6)
  else
    Option.bind (r_19.1) fun i_27 =>
    Option.bind (gidx x_3 i_27) fun x_29 =>
    if x_29.Array then
      Option.bind (heap_Heap_FreshF x_3 Vars_4 x_6) fun r_34 =>
      some (r_34.1, r_34.2.1, r_34.2.2.1, r_34.2.2.2)
    else
      Option.bind (gidx x_29.Cells index_11.K) fun x_48 =>
      if decide (x_48.Kind = 0) then
        some ((⟨0, 0, 0, 0⟩ : Gheap_Sym), 41, Vars_4, x_6)
      else
        some (x_48, 0, Vars_4, x_6)
theorem heap_Heap_LoadF_le (x_3 : Sl Gheap_Chunk) (Vars_4 : Int) (x_6 : Sl Gdiff_Leq) (p_8 : Gheap_Sym) (index_11 : Gheap_Sym) : Le (heap_Heap_LoadF x_3 Vars_4 x_6 p_8 index_11) (heap_Heap_Load x_3 Vars_4 x_6 p_8 index_11) := by
  unfold heap_Heap_LoadF heap_Heap_Load
  repeat (first | with_reducible exact Le.refl _ | (with_reducible apply heap_Heap_reachF_le) | (with_reducible apply heap_Heap_FreshF_le) | (refine Le.loop (fun _ => ?_) _) | (with_reducible refine Le.bind ?_ (fun _ => ?_)) | (with_reducible refine Le.ite ?_ ?_) | (split <;> with_reducible exact Le.refl _) | (rename_i y; cases y <;> simp only))
def heap_Heap_lockF (x_3 : Sl Gheap_Chunk) (Vars_4 : Int) (x_6 : Sl Gdiff_Leq) (p_8 : Gheap_Sym) (n_10 : Int) (held_11 : Bool) : Option ((Option Int) × Int) :=
  Option.bind (heap_Heap_chunkF x_3 Vars_4 x_6 p_8) fun r_14 =>
  if decide (r_14.2 ≠ 0) then
    some ((none : Option Int), r_14.2)
  else
    Option.bind (r_14.1) fun i_22 =>
    Option.bind (gidx x_3 i_22) fun x_24 =>
    if (decide (x_24.Origin ≠ 6) || (x_24.Held != held_11)) then
      some ((none : Option Int), 45)
    else
      if decide (n_10 ≠ x_24.At) then
        some ((none : Option Int), 42)
      else
        some (r_14.1, 0)
theorem heap_Heap_lockF_le (x_3 : Sl Gheap_Chunk) (Vars_4 : Int) (x_6 : Sl Gdiff_Leq) (p_8 : Gheap_Sym) (n_10 : Int) (held_11 : Bool) : Le (heap_Heap_lockF x_3 Vars_4 x_6 p_8 n_10 held_11) (heap_Heap_lock x_3 Vars_4 x_6 p_8 n_10 held_11) := by
  unfold heap_Heap_lockF heap_Heap_lock
  repeat (first | with_reducible exact Le.refl _ | (with_reducible apply heap_Heap_chunkF_le) | (refine Le.loop (fun _ => ?_) _) | (with_reducible refine Le.bind ?_ (fun _ => ?_)) | (with_reducible refine Le.ite ?_ ?_) | (split <;> with_reducible exact Le.refl _) | (rename_i y; cases y <;> simp only))
def slices_Clone_v3F (s_2 : Sl Gheap_Chunk) : Option ((Sl (Gheap_Chunk × Bool))) :=
  if !s_2.nn then
    some (⟨[], false⟩ : Sl (Gheap_Chunk × Bool))
  else
    Option.bind (gapp 88 (⟨[], true⟩ : Sl (Gheap_Chunk × Bool)) (tag0 s_2.xs)) fun s_9 =>
    some s_9
theorem slices_Clone_v3F_le (s_2 : Sl Gheap_Chunk) : Le (slices_Clone_v3F s_2) (slices_Clone_v3 s_2) := by
  unfold slices_Clone_v3F slices_Clone_v3
  repeat (first | with_reducible exact Le.refl _ | (refine Le.loop (fun _ => ?_) _) | (with_reducible refine Le.bind ?_ (fun _ => ?_)) | (with_reducible refine Le.ite ?_ ?_) | (split <;> with_reducible exact Le.refl _) | (rename_i y; cases y <;> simp only))
def slices_Clone_v4F (s_2 : Sl Gdiff_Leq) : Option ((Sl Gdiff_Leq)) :=
  if !s_2.nn then
    some (⟨[], false⟩ : Sl Gdiff_Leq)
  else
    Option.bind (gapp 24 (⟨[], true⟩ : Sl Gdiff_Leq) s_2.xs) fun s_9 =>
    some s_9
theorem slices_Clone_v4F_le (s_2 : Sl Gdiff_Leq) : Le (slices_Clone_v4F s_2) (slices_Clone_v4 s_2) := by
  unfold slices_Clone_v4F slices_Clone_v4
  repeat (first | with_reducible exact Le.refl _ | (refine Le.loop (fun _ => ?_) _) | (with_reducible refine Le.bind ?_ (fun _ => ?_)) | (with_reducible refine Le.ite ?_ ?_) | (split <;> with_reducible exact Le.refl _) | (rename_i y; cases y <;> simp only))
def slices_Clone_v5F (s_2 : Sl Gheap_Sym) : Option ((Sl Gheap_Sym)) :=
  if !s_2.nn then
    some (⟨[], false⟩ : Sl Gheap_Sym)
  else
    Option.bind (gapp 32 (⟨[], true⟩ : Sl Gheap_Sym) s_2.xs) fun s_9 =>
    some s_9
theorem slices_Clone_v5F_le (s_2 : Sl Gheap_Sym) : Le (slices_Clone_v5F s_2) (slices_Clone_v5 s_2) := by
  unfold slices_Clone_v5F slices_Clone_v5
  repeat (first | with_reducible exact Le.refl _ | (refine Le.loop (fun _ => ?_) _) | (with_reducible refine Le.bind ?_ (fun _ => ?_)) | (with_reducible refine Le.ite ?_ ?_) | (split <;> with_reducible exact Le.refl _) | (rename_i y; cases y <;> simp only))
def heap_Heap_Copy_L1F (r_10 : (Sl (Gheap_Chunk × Bool))) (x_37 : (Sl (Gheap_Chunk × Bool)) × Int) : Option (Step ((Sl (Gheap_Chunk × Bool)) × Int) ((Sl (Gheap_Chunk × Bool)))) :=
  if decide (x_37.2 < r_10.len) then
    Option.bind (gidx x_37.1 x_37.2) fun x_43 =>
    Option.bind (untag0 x_43) fun x_46 =>
    Option.bind (slices_Clone_v5F x_46.Cells) fun r_56 =>
    some (.next ((Sl.set x_37.1 x_37.2 ((⟨x_46.Origin, x_46.Type_, x_46.At, x_46.Live, x_46.Held, x_46.Array, x_46.Size, r_56⟩ : Gheap_Chunk), true)), IntKind.i64.wrap (x_37.2 + 1)))
  else
    some (.done x_37.1)
theorem heap_Heap_Copy_L1F_le (r_10 : (Sl (Gheap_Chunk × Bool))) (x_37 : (Sl (Gheap_Chunk × Bool)) × Int) : Le (heap_Heap_Copy_L1F r_10 x_37) (heap_Heap_Copy_L1 r_10 x_37) := by
  unfold heap_Heap_Copy_L1F heap_Heap_Copy_L1
  repeat (first | with_reducible exact Le.refl _ | (with_reducible apply slices_Clone_v5F_le) | (refine Le.loop (fun _ => ?_) _) | (with_reducible refine Le.bind ?_ (fun _ => ?_)) | (with_reducible refine Le.ite ?_ ?_) | (split <;> with_reducible exact Le.refl _) | (rename_i y; cases y <;> simp only))
def heap_Heap_CopyF (Chunks_3 : Sl Gheap_Chunk) (Vars_5 : Int) (Facts_7 : Sl Gdiff_Leq) : Option ((Sl Gheap_Chunk) × (Sl Gdiff_Leq)) :=
  Option.bind (slices_Clone_v3F Chunks_3) fun r_10 =>
  Option.bind (slices_Clone_v4F Facts_7) fun r_20 =>
  Option.bind (iterL (heap_Heap_Copy_L1F r_10) 1000 (r_10, 0)) fun y_76 =>
  Option.bind (untag y_76) fun s_80 =>
  some (s_80, r_20)
theorem heap_Heap_CopyF_le (Chunks_3 : Sl Gheap_Chunk) (Vars_5 : Int) (Facts_7 : Sl Gdiff_Leq) : Le (heap_Heap_CopyF Chunks_3 Vars_5 Facts_7) (heap_Heap_Copy Chunks_3 Vars_5 Facts_7) := by
  unfold heap_Heap_CopyF heap_Heap_Copy
  repeat (first | with_reducible exact Le.refl _ | (with_reducible apply slices_Clone_v3F_le) | (with_reducible apply slices_Clone_v4F_le) | (with_reducible apply heap_Heap_Copy_L1F_le) | (refine Le.loop (fun _ => ?_) _) | (with_reducible refine Le.bind ?_ (fun _ => ?_)) | (with_reducible refine Le.ite ?_ ?_) | (split <;> with_reducible exact Le.refl _) | (rename_i y; cases y <;> simp only))
def heap_Heap_Assume_v2F (Vars_3 : Int) (x_5 : Sl Gdiff_Leq) (x_7 : Sl Gdiff_Leq) : Option (Int × (Sl Gdiff_Leq)) :=
  if decide (768 < (IntKind.i64.wrap (x_5.len + x_7.len))) then
    some (22, x_5)
  else
    Option.bind (slices_Clip_v2F x_5) fun r_9 =>
    Option.bind (gapp 24 x_5 x_7.xs) fun s_18 =>
    some (0, s_18)
theorem heap_Heap_Assume_v2F_le (Vars_3 : Int) (x_5 : Sl Gdiff_Leq) (x_7 : Sl Gdiff_Leq) : Le (heap_Heap_Assume_v2F Vars_3 x_5 x_7) (heap_Heap_Assume_v2 Vars_3 x_5 x_7) := by
  unfold heap_Heap_Assume_v2F heap_Heap_Assume_v2
  repeat (first | with_reducible exact Le.refl _ | (with_reducible apply slices_Clip_v2F_le) | (refine Le.loop (fun _ => ?_) _) | (with_reducible refine Le.bind ?_ (fun _ => ?_)) | (with_reducible refine Le.ite ?_ ?_) | (split <;> with_reducible exact Le.refl _) | (rename_i y; cases y <;> simp only))
def heap_Over_1F (v_1 : Int) (x_4 : Sl Gheap_Sym) : Option (Int × Int) :=
  Option.bind (if decide (v_1 = 0) then
      some true
    else
      Option.bind (gidx x_4 (IntKind.i64.wrap (v_1 - 1))) fun x_7 =>
      some (decide (x_7.Kind ≠ 1))) fun y_6 =>
  if y_6 then
    some (0, 0)
  else
    Option.bind (gidx x_4 (IntKind.i64.wrap (v_1 - 1))) fun x_16 =>
    some (x_16.Var, x_16.K)
theorem heap_Over_1F_le (v_1 : Int) (x_4 : Sl Gheap_Sym) : Le (heap_Over_1F v_1 x_4) (heap_Over_1 v_1 x_4) := by
  unfold heap_Over_1F heap_Over_1
  repeat (first | with_reducible exact Le.refl _ | (refine Le.loop (fun _ => ?_) _) | (with_reducible refine Le.bind ?_ (fun _ => ?_)) | (with_reducible refine Le.ite ?_ ?_) | (split <;> with_reducible exact Le.refl _) | (rename_i y; cases y <;> simp only))
def heap_Over_L1F (facts_2 : Sl Gdiff_Leq) (x_5 : Sl Gheap_Sym) (x_10 : (Sl Gdiff_Leq) × Int) : Option (Step ((Sl Gdiff_Leq) × Int) ((Sl Gdiff_Leq))) :=
  if decide (x_10.2 < facts_2.len) then
    Option.bind (gidx facts_2 x_10.2) fun x_17 =>
    Option.bind (heap_Over_1F x_17.X x_5) fun r_23 =>
    Option.bind (heap_Over_1F x_17.Y x_5) fun r_30 =>
    Option.bind (gapp 24 x_10.1 [(⟨r_23.1, r_30.1, IntKind.i64.wrap ((IntKind.i64.wrap (x_17.C - r_23.2)) + r_30.2)⟩ : Gdiff_Leq)]) fun s_40 =>
    some (.next (s_40, IntKind.i64.wrap (x_10.2 + 1)))
  else
    some (.done x_10.1)
theorem heap_Over_L1F_le (facts_2 : Sl Gdiff_Leq) (x_5 : Sl Gheap_Sym) (x_10 : (Sl Gdiff_Leq) × Int) : Le (heap_Over_L1F facts_2 x_5 x_10) (heap_Over_L1 facts_2 x_5 x_10) := by
  unfold heap_Over_L1F heap_Over_L1
  repeat (first | with_reducible exact Le.refl _ | (with_reducible apply heap_Over_1F_le) | (refine Le.loop (fun _ => ?_) _) | (with_reducible refine Le.bind ?_ (fun _ => ?_)) | (with_reducible refine Le.ite ?_ ?_) | (split <;> with_reducible exact Le.refl _) | (rename_i y; cases y <;> simp only))
def heap_OverF (facts_2 : Sl Gdiff_Leq) (x_5 : Sl Gheap_Sym) : Option ((Sl Gdiff_Leq)) :=
  Option.bind (iterL (heap_Over_L1F facts_2 x_5) 1000 ((⟨[], false⟩ : Sl Gdiff_Leq), 0)) fun y_42 =>
  some y_42
theorem heap_OverF_le (facts_2 : Sl Gdiff_Leq) (x_5 : Sl Gheap_Sym) : Le (heap_OverF facts_2 x_5) (heap_Over facts_2 x_5) := by
  unfold heap_OverF heap_Over
  repeat (first | with_reducible exact Le.refl _ | (with_reducible apply heap_Over_L1F_le) | (refine Le.loop (fun _ => ?_) _) | (with_reducible refine Le.bind ?_ (fun _ => ?_)) | (with_reducible refine Le.ite ?_ ?_) | (split <;> with_reducible exact Le.refl _) | (rename_i y; cases y <;> simp only))
def heap_Heap_Lock_L1F (p_8 : Gheap_Sym) (x_41 : Gheap_Chunk) (x_46 : (Sl Gheap_Chunk) × Int × (Sl Gdiff_Leq) × Int) : Option (Step ((Sl Gheap_Chunk) × Int × (Sl Gdiff_Leq) × Int) (W2 ((Sl Gheap_Chunk) × Int × (Sl Gdiff_Leq)) Int)) :=
  if decide (x_46.2.2.2 < x_41.Cells.len) then
    Option.bind (
        Option.bind (gidx x_46.1 p_8.Block) fun x_52 =>
        if decide (x_46.2.2.2 = x_52.At) then
          (some (.a (x_46.1, x_46.2.1, x_46.2.2.1)) : Option (W2 ((Sl Gheap_Chunk) × Int × (Sl Gdiff_Leq)) Int))
        else
          Option.bind (heap_Heap_FreshF x_46.1 x_46.2.1 x_46.2.2.1) fun r_57 =>
          if decide (r_57.2.1 ≠ 0) then
            (some (.b r_57.2.1) : Option (W2 ((Sl Gheap_Chunk) × Int × (Sl Gdiff_Leq)) Int))
          else
            Option.bind (gidx x_52.Cells x_46.2.2.2) fun x_74 =>
            Option.bind (gset x_52.Cells x_46.2.2.2 r_57.1) fun s_77 =>
            (some (.a ((Sl.set x_46.1 p_8.Block (⟨x_52.Origin, x_52.Type_, x_52.At, x_52.Live, x_52.Held, x_52.Array, x_52.Size, s_77⟩ : Gheap_Chunk)), r_57.2.2.1, r_57.2.2.2)) : Option (W2 ((Sl Gheap_Chunk) × Int × (Sl Gdiff_Leq)) Int))) fun y_80 =>
    match y_80 with
    | .a y_81 =>
      some (.next (y_81.1, y_81.2.1, y_81.2.2, IntKind.i64.wrap (x_46.2.2.2 + 1)))
    | .b y_86 =>
      some (.done (.b y_86))
  else
    some (.done (.a (x_46.1, x_46.2.1, x_46.2.2.1)))
theorem heap_Heap_Lock_L1F_le (p_8 : Gheap_Sym) (x_41 : Gheap_Chunk) (x_46 : (Sl Gheap_Chunk) × Int × (Sl Gdiff_Leq) × Int) : Le (heap_Heap_Lock_L1F p_8 x_41 x_46) (heap_Heap_Lock_L1 p_8 x_41 x_46) := by
  unfold heap_Heap_Lock_L1F heap_Heap_Lock_L1
  repeat (first | with_reducible exact Le.refl _ | (with_reducible apply heap_Heap_FreshF_le) | (refine Le.loop (fun _ => ?_) _) | (with_reducible refine Le.bind ?_ (fun _ => ?_)) | (with_reducible refine Le.ite ?_ ?_) | (split <;> with_reducible exact Le.refl _) | (rename_i y; cases y <;> simp only))
def heap_Heap_LockF (x_3 : Sl Gheap_Chunk) (Vars_4 : Int) (x_6 : Sl Gdiff_Leq) (p_8 : Gheap_Sym) (n_10 : Int) (facts_12 : Sl Gdiff_Leq) : Option (Int × (Sl Gheap_Chunk) × Int × (Sl Gdiff_Leq)) :=
  Option.bind (heap_Heap_lockF x_3 Vars_4 x_6 p_8 n_10 false) fun r_16 =>
  if decide (r_16.2 ≠ 0) then
    some (r_16.2, x_3, Vars_4, x_6)
  else
    Option.bind (heap_Heap_CopyF x_3 Vars_4 x_6) fun r_26 =>
    Option.bind (gidx r_26.1 p_8.Block) fun x_41 =>
    Option.bind (iterL (heap_Heap_Lock_L1F p_8 x_41) 1000 (r_26.1, Vars_4, r_26.2, 0)) fun y_90 =>
    match y_90 with
    | .a y_91 =>
      Option.bind (gidx y_91.1 p_8.Block) fun x_96 =>
      Option.bind (heap_OverF facts_12 x_96.Cells) fun r_101 =>
      Option.bind (heap_Heap_Assume_v2F y_91.2.1 y_91.2.2 r_101) fun r_110 =>
      if decide (r_110.1 ≠ 0) then
        some (r_110.1, x_3, Vars_4, x_6)
      else
        some (0, (Sl.set y_91.1 p_8.Block (⟨x_96.Origin, x_96.Type_, x_96.At, x_96.Live, true, x_96.Array, x_96.Size, x_96.Cells⟩ : Gheap_Chunk)), y_91.2.1, r_110.2)
    | .b y_121 =>
      some (y_121, x_3, Vars_4, x_6)
theorem heap_Heap_LockF_le (x_3 : Sl Gheap_Chunk) (Vars_4 : Int) (x_6 : Sl Gdiff_Leq) (p_8 : Gheap_Sym) (n_10 : Int) (facts_12 : Sl Gdiff_Leq) : Le (heap_Heap_LockF x_3 Vars_4 x_6 p_8 n_10 facts_12) (heap_Heap_Lock x_3 Vars_4 x_6 p_8 n_10 facts_12) := by
  unfold heap_Heap_LockF heap_Heap_Lock
  repeat (first | with_reducible exact Le.refl _ | (with_reducible apply heap_Heap_lockF_le) | (with_reducible apply heap_Heap_CopyF_le) | (with_reducible apply heap_Heap_Lock_L1F_le) | (with_reducible apply heap_OverF_le) | (with_reducible apply heap_Heap_Assume_v2F_le) | (refine Le.loop (fun _ => ?_) _) | (with_reducible refine Le.bind ?_ (fun _ => ?_)) | (with_reducible refine Le.ite ?_ ?_) | (split <;> with_reducible exact Le.refl _) | (rename_i y; cases y <;> simp only))
def lychgatelaw13_wakes_K1F (k_23 : Gheap_Sym × Int × Int × (Sl Gdiff_Leq)) (k_44 : Gheap_Sym × Int × Int × (Sl Gdiff_Leq)) (k_56 : Gheap_Sym × Int × Int × (Sl Gdiff_Leq)) (r_30 : Int × (Sl Gheap_Chunk) × Int × (Sl Gdiff_Leq)) (y_58 : Unit) : Option Bool :=
  some (((((decide (k_23.2.1 = 45) && decide (r_30.1 = 0)) && decide (k_44.2.1 = 0)) && decide (k_44.1 = (⟨1, 1, 0, 0⟩ : Gheap_Sym))) && decide (k_56.2.1 = 45)) && decide (k_56.2.2.1 = 2))
theorem lychgatelaw13_wakes_K1F_le (k_23 : Gheap_Sym × Int × Int × (Sl Gdiff_Leq)) (k_44 : Gheap_Sym × Int × Int × (Sl Gdiff_Leq)) (k_56 : Gheap_Sym × Int × Int × (Sl Gdiff_Leq)) (r_30 : Int × (Sl Gheap_Chunk) × Int × (Sl Gdiff_Leq)) (y_58 : Unit) : Le (lychgatelaw13_wakes_K1F k_23 k_44 k_56 r_30 y_58) (lychgatelaw13_wakes_K1 k_23 k_44 k_56 r_30 y_58) := by
  unfold lychgatelaw13_wakes_K1F lychgatelaw13_wakes_K1
  repeat (first | with_reducible exact Le.refl _ | (refine Le.loop (fun _ => ?_) _) | (with_reducible refine Le.bind ?_ (fun _ => ?_)) | (with_reducible refine Le.ite ?_ ?_) | (split <;> with_reducible exact Le.refl _) | (rename_i y; cases y <;> simp only))
def lychgatelaw13_wakes_K2F (k_23 : Gheap_Sym × Int × Int × (Sl Gdiff_Leq)) (k_44 : Gheap_Sym × Int × Int × (Sl Gdiff_Leq)) (r_10 : Gheap_Sym × (Sl Gheap_Chunk)) (r_30 : Int × (Sl Gheap_Chunk) × Int × (Sl Gdiff_Leq)) (y_46 : Unit) : Option Bool :=
  Option.bind (heap_NumberF 0) fun k_54 =>
  Option.bind (heap_Heap_LoadF r_30.2.1 k_44.2.2.1 k_44.2.2.2 r_10.1 (⟨1, 0, 0, 0⟩ : Gheap_Sym)) fun k_56 =>
  lychgatelaw13_wakes_K1F k_23 k_44 k_56 r_30 ()
theorem lychgatelaw13_wakes_K2F_le (k_23 : Gheap_Sym × Int × Int × (Sl Gdiff_Leq)) (k_44 : Gheap_Sym × Int × Int × (Sl Gdiff_Leq)) (r_10 : Gheap_Sym × (Sl Gheap_Chunk)) (r_30 : Int × (Sl Gheap_Chunk) × Int × (Sl Gdiff_Leq)) (y_46 : Unit) : Le (lychgatelaw13_wakes_K2F k_23 k_44 r_10 r_30 y_46) (lychgatelaw13_wakes_K2 k_23 k_44 r_10 r_30 y_46) := by
  unfold lychgatelaw13_wakes_K2F lychgatelaw13_wakes_K2
  repeat (first | with_reducible exact Le.refl _ | (with_reducible apply heap_NumberF_le) | (with_reducible apply heap_Heap_LoadF_le) | (with_reducible apply lychgatelaw13_wakes_K1F_le) | (refine Le.loop (fun _ => ?_) _) | (with_reducible refine Le.bind ?_ (fun _ => ?_)) | (with_reducible refine Le.ite ?_ ?_) | (split <;> with_reducible exact Le.refl _) | (rename_i y; cases y <;> simp only))
def lychgatelaw13_wakes_K3F (k_23 : Gheap_Sym × Int × Int × (Sl Gdiff_Leq)) (r_10 : Gheap_Sym × (Sl Gheap_Chunk)) (y_25 : Unit) : Option Bool :=
  Option.bind (heap_Heap_LockF r_10.2 k_23.2.2.1 k_23.2.2.2 r_10.1 0 (⟨[], false⟩ : Sl Gdiff_Leq)) fun r_30 =>
  Option.bind (heap_NumberF 1) fun k_42 =>
  Option.bind (heap_Heap_LoadF r_30.2.1 r_30.2.2.1 r_30.2.2.2 r_10.1 (⟨1, 0, 1, 0⟩ : Gheap_Sym)) fun k_44 =>
  lychgatelaw13_wakes_K2F k_23 k_44 r_10 r_30 ()
theorem lychgatelaw13_wakes_K3F_le (k_23 : Gheap_Sym × Int × Int × (Sl Gdiff_Leq)) (r_10 : Gheap_Sym × (Sl Gheap_Chunk)) (y_25 : Unit) : Le (lychgatelaw13_wakes_K3F k_23 r_10 y_25) (lychgatelaw13_wakes_K3 k_23 r_10 y_25) := by
  unfold lychgatelaw13_wakes_K3F lychgatelaw13_wakes_K3
  repeat (first | with_reducible exact Le.refl _ | (with_reducible apply heap_Heap_LockF_le) | (with_reducible apply heap_NumberF_le) | (with_reducible apply heap_Heap_LoadF_le) | (with_reducible apply lychgatelaw13_wakes_K2F_le) | (refine Le.loop (fun _ => ?_) _) | (with_reducible refine Le.bind ?_ (fun _ => ?_)) | (with_reducible refine Le.ite ?_ ?_) | (split <;> with_reducible exact Le.refl _) | (rename_i y; cases y <;> simp only))
def lychgatelaw13_wakesF  : Option Bool :=
  Option.bind (gmake 32 2 (⟨0, 0, 0, 0⟩ : Gheap_Sym)) fun s_5 =>
  Option.bind (heap_Heap_PutF (⟨[], false⟩ : Sl Gheap_Chunk) 1 (⟨[], false⟩ : Sl Gdiff_Leq) 6 0 0 true false false (⟨0, 0, 0, 0⟩ : Gheap_Sym) s_5) fun r_10 =>
  Option.bind (heap_NumberF 1) fun k_21 =>
  Option.bind (heap_Heap_LoadF r_10.2 1 (⟨[], false⟩ : Sl Gdiff_Leq) r_10.1 (⟨1, 0, 1, 0⟩ : Gheap_Sym)) fun k_23 =>
  lychgatelaw13_wakes_K3F k_23 r_10 ()
theorem lychgatelaw13_wakesF_le  : Le (lychgatelaw13_wakesF ) (lychgatelaw13_wakes ) := by
  unfold lychgatelaw13_wakesF lychgatelaw13_wakes
  repeat (first | with_reducible exact Le.refl _ | (with_reducible apply heap_Heap_PutF_le) | (with_reducible apply heap_NumberF_le) | (with_reducible apply heap_Heap_LoadF_le) | (with_reducible apply lychgatelaw13_wakes_K3F_le) | (refine Le.loop (fun _ => ?_) _) | (with_reducible refine Le.bind ?_ (fun _ => ?_)) | (with_reducible refine Le.ite ?_ ?_) | (split <;> with_reducible exact Le.refl _) | (rename_i y; cases y <;> simp only))
theorem lychgatelaw13_wakes_val : lychgatelaw13_wakes = some true := lychgatelaw13_wakesF_le _ (by decide +kernel)
end Go.Px
