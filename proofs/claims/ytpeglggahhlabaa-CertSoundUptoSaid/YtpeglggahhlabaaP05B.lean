/- Holds and Check of cert; that the witnesses are awake. -/
import Derived.Test.YtpeglggahhlabaaP05A
namespace Go.Px
set_option linter.unusedVariables false

/-- a fact holds of the numbers, all within the bounds -/
def OkH (v : List Int) (f : Leq) : Prop :=
  0 ≤ f.X ∧ f.X < v.length ∧ 0 ≤ f.Y ∧ f.Y < v.length ∧ f.C ≤ 17592186044416 ∧ -17592186044416 ≤ f.C ∧
  At v f.X.toNat ≤ 4503599627370496 ∧ -4503599627370496 ≤ At v f.X.toNat ∧ At v f.Y.toNat ≤ 4503599627370496 ∧ -4503599627370496 ≤ At v f.Y.toNat ∧ At v f.X.toNat ≤ At v f.Y.toNat + f.C
instance (v : List Int) (f : Leq) : Decidable (OkH v f) := by unfold OkH; infer_instance
def HoldsP (v : List Int) (fs : List Leq) : Prop := ∀ f ∈ fs, OkH v f
theorem bool_eq_of_iff {a b : Bool} (h : a = true ↔ b = true) : a = b := Bool.eq_iff_iff.2 h
theorem holds1_ok (f : Leq) (v : Sl Int) : cert_Holds_1 f v = some (!decide (OkH v.xs f)) := by
  apply tot_val
  unfold cert_Holds_1
  refine tot_if (fun h => tot_some ?_) (fun h => ?_)
  · simp only [Bool.or_eq_true, decide_eq_true_eq] at h; simp only [sl_len] at h
    have hn : ¬ OkH v.xs f := fun ho => by unfold OkH at ho; omega
    rw [decide_eq_false hn]; rfl
  · simp only [Bool.or_eq_true, decide_eq_true_eq] at h; simp only [sl_len] at h
    refine tot_bind (tot_eq (at_gidx (x := f.X.toNat) rfl (by omega) (by omega)) (tot_bind (tot_eq (at_gidx (x := f.Y.toNat) rfl (by omega) (by omega)) (tot_bind (tot_eq (within_ok _ _ (by omega) (by omega)) ?_)))))
    have hx : f.X.toNat < v.xs.length := by omega
    generalize hA : At v.xs f.X.toNat = A
    generalize hB : At v.xs f.Y.toNat = B
    have hb32 : Tot (if (!decide (f.C ≤ 17592186044416 ∧ -17592186044416 ≤ f.C)) = true then some true else Option.bind (cert_within A 4503599627370496) fun r_33 => some (!r_33)) fun b => b = true ↔ ¬ (f.C ≤ 17592186044416 ∧ -17592186044416 ≤ f.C ∧ A ≤ 4503599627370496 ∧ -4503599627370496 ≤ A) := by
      refine tot_if (fun h2 => tot_some ?_) (fun h2 => ?_)
      · have h3 : ¬ (f.C ≤ 17592186044416 ∧ -17592186044416 ≤ f.C) := by rw [Bool.not_eq_true', decide_eq_false_iff_not] at h2; exact h2
        exact ⟨fun _ => by omega, fun _ => rfl⟩
      · have h3 : f.C ≤ 17592186044416 ∧ -17592186044416 ≤ f.C := by rw [Bool.not_eq_true', decide_eq_false_iff_not, Classical.not_not] at h2; exact h2
        refine tot_bind (tot_eq (within_ok _ _ (by omega) (by omega)) (tot_some ?_))
        rw [Bool.not_eq_true', decide_eq_false_iff_not]
        omega
    refine tot_bind (hb32.mono fun b32 h32 => ?_)
    have hb43 : Tot (if b32 = true then some true else Option.bind (cert_within B 4503599627370496) fun r_44 => some (!r_44)) fun b => b = true ↔ ¬ (f.C ≤ 17592186044416 ∧ -17592186044416 ≤ f.C ∧ A ≤ 4503599627370496 ∧ -4503599627370496 ≤ A ∧ B ≤ 4503599627370496 ∧ -4503599627370496 ≤ B) := by
      refine tot_if (fun h2 => tot_some ?_) (fun h2 => ?_)
      · have := h32.1 h2
        exact ⟨fun _ => by omega, fun _ => rfl⟩
      · have h3 : ¬ ¬ _ := fun h => h2 (h32.2 h)
        refine tot_bind (tot_eq (within_ok _ _ (by omega) (by omega)) (tot_some ?_))
        rw [Bool.not_eq_true', decide_eq_false_iff_not]
        omega
    refine tot_bind (hb43.mono fun b43 h43 => tot_some (bool_eq_of_iff ?_))
    rw [Bool.or_eq_true, decide_eq_true_eq, Bool.not_eq_true', decide_eq_false_iff_not, h43]
    unfold OkH
    rw [hA, hB]
    by_cases hin : f.C ≤ 17592186044416 ∧ -17592186044416 ≤ f.C ∧ A ≤ 4503599627370496 ∧ -4503599627370496 ≤ A ∧ B ≤ 4503599627370496 ∧ -4503599627370496 ≤ B
    · rw [wrap_id (by omega) (by omega)]; omega
    · exact ⟨fun _ => by omega, fun _ => .inl hin⟩
theorem certHolds_ok (v : Sl Int) (fs : Sl Leq) (hl : fs.xs.length ≤ 1048577) : Tot (cert_Holds v fs) fun b => b = true ↔ HoldsP v.xs fs.xs := by
  unfold cert_Holds
  have hfun : (fun x0 => cert_Holds_1 x0 v) = fun x0 => some (!decide (OkH v.xs x0)) := funext fun k => holds1_ok k v
  rw [hfun]
  refine tot_bind (tot_eq (contains_ok fs (by omega) _) (tot_some ?_))
  rw [Bool.not_eq_true', List.any_eq_false]
  unfold HoldsP
  exact ⟨fun h f hf => by simpa using h f hf, fun h f hf => by simpa using h f hf⟩
theorem clone_ok (fs : Sl Leq) (hl : fs.xs.length ≤ 1048576) (hz : fs.nn = false → fs.xs = []) : ∃ nn, slices_Clone fs = some ⟨fs.xs, nn⟩ := by
  unfold slices_Clone
  by_cases hnn : fs.nn = true
  · rw [hnn]
    simp only [Bool.not_true, Bool.false_eq_true, if_false]
    rw [gapp_ok (by simp; omega) (by simp; omega)]
    exact ⟨_, rfl⟩
  · rw [hz (by simpa using hnn), show fs.nn = false by simpa using hnn]
    exact ⟨_, rfl⟩
/-- the goal turned -/
def tg (g : Leq) : Leq := ⟨g.Y, g.X, -g.C - 1⟩
theorem ent_fit {n : Int} {g : Leq} {fs : List Leq} (h : entV n g fs = 0) : Fit n.toNat (fs ++ [g]) ∧ (n.toNat : Int) = n ∧ g.C ≠ 8796093022208 := by
  unfold entV at h
  split at h
  · rename_i h5; exact absurd h h5
  · rename_i h5
    split at h
    · omega
    · rename_i h6
      obtain ⟨h1, h2⟩ := fit_of (Classical.not_not.1 h5)
      exact ⟨h1, h2, h6⟩
theorem turned_ok {n : Int} {g : Leq} {fs : List Leq} (h : entV n g fs = 0) : cert_turned g = some (tg g) := by
  obtain ⟨hf, _, _⟩ := ent_fit h
  have := hf.ok g (by simp)
  unfold cert_turned tg
  rw [wrap_id (n := 0 - g.C) (by omega) (by omega), wrap_id (by omega) (by omega)]
  congr 2; omega
def CheckP (p : Gcert_Proof) (n : Int) (g : Leq) (fs : List Leq) : Prop :=
  entV n g fs = 0 ∧ (p.Yes = true → p.Numbers.xs.length = 0 ∧ Circ (fs ++ [tg g]) p.Cycle.xs) ∧ (p.Yes = false → p.Cycle.xs.length = 0 ∧ (p.Numbers.xs.length : Int) = n ∧ HoldsP p.Numbers.xs (fs ++ [tg g]))
theorem check_ok (p : Gcert_Proof) (n : Int) (g : Leq) (fs : Sl Leq) (hl : fs.xs.length ≤ 1048576) (hz : fs.nn = false → fs.xs = []) (hc : p.Cycle.xs.length ≤ 1048576) :
    Tot (cert_Check p n g fs) fun b => b = true ↔ CheckP p n g fs.xs := by
  unfold cert_Check
  refine tot_bind ((entails_ok n g fs hl hz).mono fun r ⟨e1, _, _⟩ => ?_)
  obtain ⟨nn, hcl⟩ := clone_ok fs hl hz
  refine tot_ifd (fun h => tot_some ⟨fun h2 => by simp at h2, fun h2 => absurd (e1.trans h2.1) h⟩) (fun h => ?_)
  have h0 : entV n g fs.xs = 0 := by rw [← e1]; exact Classical.not_not.1 h
  have htg := turned_ok h0
  unfold CheckP
  refine tot_ifb (fun hy => ?_) (fun hy => ?_)
  · refine tot_bind (tot_ifd (fun hn => ?_) (fun hn => ?_))
    · rw [sl_len] at hn
      refine tot_bind (tot_eq hcl (tot_bind (tot_eq htg (tot_bind (tot_eq (gapp_ok (by simp; omega) (by simp; omega)) (tot_bind ((certCircle_ok p.Cycle ⟨fs.xs ++ [tg g], _⟩ hc).mono fun b hb => tot_some (tot_some ?_))))))))
      rw [hb]
      exact ⟨fun h2 => ⟨h0, fun _ => ⟨by omega, h2⟩, fun h3 => by rw [hy] at h3; simp at h3⟩, fun h2 => (h2.2.1 hy).2⟩
    · rw [sl_len] at hn
      refine tot_some (tot_some ⟨fun h2 => by simp at h2, fun h2 => ?_⟩)
      have := (h2.2.1 hy).1
      omega
  · refine tot_bind (tot_if (fun hn => ?_) (fun hn => ?_))
    · simp only [Bool.and_eq_true, decide_eq_true_eq] at hn; simp only [sl_len] at hn
      refine tot_bind (tot_eq hcl (tot_bind (tot_eq htg (tot_bind (tot_eq (gapp_ok (by simp; omega) (by simp; omega)) (tot_bind ((certHolds_ok p.Numbers ⟨fs.xs ++ [tg g], _⟩ (by simp; omega)).mono fun b hb => tot_some (tot_some ?_))))))))
      rw [hb]
      exact ⟨fun h2 => ⟨h0, fun h3 => by rw [hy] at h3; simp at h3, fun _ => ⟨by omega, hn.2, h2⟩⟩, fun h2 => (h2.2.2 hy).2.2⟩
    · simp only [Bool.and_eq_true, decide_eq_true_eq] at hn; simp only [sl_len] at hn
      refine tot_some (tot_some ⟨fun h2 => by simp at h2, fun h2 => ?_⟩)
      have := h2.2.2 hy
      omega
theorem ent3 {v : Int} (h1 : -8796093022208 ≤ v) (h2 : v < 8796093022208) : entV 3 (⟨0, 2, v⟩ : Leq) [(⟨0, 1, 2⟩ : Leq), (⟨1, 2, 3⟩ : Leq)] = 0 := by
  unfold entV
  have hfit : Fit 3 ([(⟨0, 1, 2⟩ : Leq), (⟨1, 2, 3⟩ : Leq)] ++ [(⟨0, 2, v⟩ : Leq)]) := by
    refine ⟨by omega, by omega, by simp, fun f hf => ?_⟩
    simp only [List.cons_append, List.nil_append, List.mem_cons, List.not_mem_nil, or_false] at hf
    rcases hf with rfl | rfl | rfl <;> simp only <;> omega
  have h0 : fitV 3 ([(⟨0, 1, 2⟩ : Leq), (⟨1, 2, 3⟩ : Leq)] ++ [(⟨0, 2, v⟩ : Leq)]) = 0 := fitV_ok hfit
  rw [h0, if_neg (by simp), if_neg (by simp only; omega)]
theorem circ3 (v : Int) (h1 : -8796093022208 ≤ v) (h2 : v < 8796093022208) : Circ ([(⟨0, 1, 2⟩ : Leq), (⟨1, 2, 3⟩ : Leq)] ++ [tg (⟨0, 2, v⟩ : Leq)]) [0, 1, 2] ↔ 4 < v := by
  unfold Circ
  constructor
  · rintro ⟨_, _, _, _, h⟩
    simp [List.range_succ, At, gC, tg] at h
    omega
  · intro h
    refine ⟨by simp, by simp, fun i hi => ?_, fun i hi => ?_, ?_⟩
    · simp only [List.length_cons, List.length_nil] at hi
      rcases (show i = 0 ∨ i = 1 ∨ i = 2 by omega) with rfl | rfl | rfl <;> simp [OkK, At, gC, tg] <;> omega
    · simp only [List.length_cons, List.length_nil] at hi
      rcases (show i = 0 ∨ i = 1 ∨ i = 2 by omega) with rfl | rfl | rfl <;> simp [At, gX, gY, tg]
    · simp [List.range_succ, At, gC, tg]
      omega
theorem wakes5_ok : lychgatelaw05_wakes = some true := by
  apply tot_val
  unfold lychgatelaw05_wakes
  refine tot_bind ((check_ok _ 3 _ _ (by simp) (by simp) (by simp)).mono fun b1 h1 => ?_)
  have k1 : b1 = true := h1.2 ⟨ent3 (by omega) (by omega), fun _ => ⟨rfl, (circ3 5 (by omega) (by omega)).2 (by omega)⟩, fun h => by simp at h⟩
  subst k1
  simp only [if_true]
  refine tot_bind (tot_bind ((check_ok _ 3 _ _ (by simp) (by simp) (by simp)).mono fun b2 h2 => tot_some ?_))
  have k2 : b2 = true := h2.2 ⟨ent3 (by omega) (by omega), fun h => by simp at h, fun _ => ⟨rfl, rfl, fun f hf => by
    simp only [List.cons_append, List.nil_append, List.mem_cons, List.not_mem_nil, or_false] at hf
    rcases hf with rfl | rfl | rfl <;> simp [OkH, At, tg]⟩⟩
  subst k2
  simp only [if_true]
  refine tot_bind (tot_bind ((check_ok _ 3 _ _ (by simp) (by simp) (by simp)).mono fun b3 h3 => tot_some (tot_some ?_)))
  cases b3 with
  | false => rfl
  | true =>
    have := ((h3.1 rfl).2.1 rfl).2
    have := (circ3 4 (by omega) (by omega)).1 this
    omega
end Go.Px
