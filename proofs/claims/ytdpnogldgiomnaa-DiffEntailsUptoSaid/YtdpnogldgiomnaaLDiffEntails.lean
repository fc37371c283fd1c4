/- DiffEntails, plainly. -/
import Derived.Test.YtdpnogldgiomnaaP04K
namespace Go.Px
set_option linter.unusedVariables false

theorem sum4e (l : List Leq) : (l.map fun _ => (1 + 1 + 1 + 1 : Nat)).sum = 4 * l.length := by
  induction l with
  | nil => rfl
  | cons a l ih => simp only [List.map_cons, List.sum_cons, List.length_cons, ih]; omega
theorem diffEntails_law (a0 : Int) (a1 : Gdiff_Leq) (a2 : Sl Gdiff_Leq) (hw : 1 + (1 + 1 + 1 + 1) + ((a2.xs.map (fun y => (1 + 1 + 1 + 1))).sum + 1) ≤ 1048576) (g0 : (IntKind.i64.min ≤ a0 ∧ a0 ≤ IntKind.i64.max)) (g1 : ((IntKind.i64.min ≤ a1.X ∧ a1.X ≤ IntKind.i64.max) ∧ (IntKind.i64.min ≤ a1.Y ∧ a1.Y ≤ IntKind.i64.max) ∧ (IntKind.i64.min ≤ a1.C ∧ a1.C ≤ IntKind.i64.max))) (g2 : ((a2.nn = false → a2.xs = []) ∧ a2.xs.length ≤ maxLen ∧ ∀ y ∈ a2.xs, ((IntKind.i64.min ≤ y.X ∧ y.X ≤ IntKind.i64.max) ∧ (IntKind.i64.min ≤ y.Y ∧ y.Y ≤ IntKind.i64.max) ∧ (IntKind.i64.min ≤ y.C ∧ y.C ≤ IntKind.i64.max)))) : lychgatelaw04_DiffEntails a0 a1 a2 = some true := by
  apply tot_val
  have hl : a2.xs.length ≤ 262144 := by
    have h4 : (a2.xs.map (fun y => (1 + 1 + 1 + 1))).sum = 4 * a2.xs.length := sum4e a2.xs
    rw [h4] at hw
    omega
  unfold lychgatelaw04_DiffEntails
  refine tot_bind ((entails_ok a0 a1 a2 (by omega) g2.1).mono fun r ⟨e1, e2, e3⟩ => ?_)
  refine tot_bind (tot_eq (gapp_ok (by simp; omega) (by simp; omega)) (tot_bind (tot_eq (gapp_ok (by simp; omega) (by simp; omega)) (tot_bind ((refs4_ok ⟨[] ++ a2.xs ++ [a1], _⟩ (by simp; omega)).mono fun q hq => tot_bind (tot_eq (refFit_ok a0 ⟨[] ++ a2.xs ++ [a1], _⟩ q hq) ?_))))))
  unfold lychgatelaw04_DiffEntails_K1
  simp only [List.nil_append]
  have hy : Tot (if (decide (fitV a0 (a2.xs ++ [a1]) = 0) && decide (a1.C = 8796093022208)) = true then (some 2 : Option Int) else (some (fitV a0 (a2.xs ++ [a1])) : Option Int)) fun y => y = entV a0 a1 a2.xs := by
    unfold entV
    refine tot_if (fun h => tot_some ?_) (fun h => tot_some ?_)
    · simp only [Bool.and_eq_true, decide_eq_true_eq] at h
      rw [if_neg (by simp [h.1]), if_pos h.2]
    · simp only [Bool.and_eq_true, decide_eq_true_eq] at h
      by_cases h0 : fitV a0 (a2.xs ++ [a1]) = 0
      · rw [if_neg (by simp [h0]), if_neg (fun hc => h ⟨h0, hc⟩)]; exact h0
      · rw [if_pos h0]
  refine tot_bind (hy.mono fun y hy => tot_bind (tot_eq wakes_ok ?_))
  subst hy
  rw [e1]
  simp only [Bool.not_true, ne_eq, not_true_eq_false, decide_false, Bool.or_self, Bool.false_eq_true, if_false]
  rw [← e1]
  by_cases h0 : r.2 = 0
  · refine tot_if (fun _ => tot_some (by rw [h0]; rfl)) (fun h1 => ?_)
    have hent : entV a0 a1 a2.xs = 0 := by rw [← e1]; exact h0
    have hfv : fitV a0 (a2.xs ++ [a1]) = 0 := by
      unfold entV at hent
      split at hent
      · rename_i h5; exact absurd hent h5
      · rename_i h5; exact Classical.not_not.1 h5
    obtain ⟨hf1, hnn⟩ := fit_of hfv
    have hg := hf1.ok a1 (by simp)
    have hfl := hf1.len
    simp only [List.length_append, List.length_cons, List.length_nil] at hfl
    have hf : Fit a0.toNat a2.xs := ⟨hf1.n1, hf1.n2, by omega, fun f hm => hf1.ok f (List.mem_append_left _ hm)⟩
    rw [← hnn]
    refine tot_bind ((refs4_ok a2 (by omega)).mono fun q2 hq2 => tot_bind ((refEntails_ok hf q2 hq2 a1 ⟨hg.1, hg.2.1⟩ ⟨hg.2.2.1, hg.2.2.2.1⟩ (by omega)).mono fun b hb => tot_some ?_))
    have : r.1 = b := Bool.eq_iff_iff.2 ((e3 h0).trans hb.symm)
    rw [this]; simp
  · refine tot_if (fun _ => tot_some (by rw [e2 h0]; simp)) (fun h1 => ?_)
    exact absurd (by simp [h0]) h1
end Go.Px
