/- CertOne, plainly. -/
import Derived.Test.YtpeglggahhlabaaP05C
namespace Go.Px
set_option linter.unusedVariables false

theorem circ_none {fs : List Leq} {c : List Int} {v : List Int} (h : Circ fs c) (hv : HoldsP v fs) : False := by
  obtain ⟨h1, h2, h3, h4, h5⟩ := h
  have hk : ∀ i, i < c.length → At v (gX fs (At c i)).toNat ≤ At v (gY fs (At c i)).toNat + gC fs (At c i) := by
    intro i hi
    have ho := h3 i hi
    have := hv (fs.getD (At c i).toNat default) (getD_mem default (by have := ho.1; have := ho.2.1; omega))
    exact this.2.2.2.2.2.2.2.2.2.2
  have s1 := sums_le c.length (fun i => At v (gX fs (At c i)).toNat) (fun i => At v (gY fs (At c i)).toNat) (fun i => gC fs (At c i)) hk
  have s2 : ((List.range c.length).map fun i => At v (gY fs (At c i)).toNat) = (List.range c.length).map fun i => (fun j => At v (gX fs (At c j)).toNat) ((i + 1) % c.length) := by
    apply List.map_congr_left
    intro i hi
    rw [h4 i (List.mem_range.1 hi)]
  rw [s2, sum_turn c.length fun j => At v (gX fs (At c j)).toNat] at s1
  omega
theorem certOne_law (a0 : Glychgatelaw05_Both) (a1 : Gdiff_Leq) (a2 : Sl Gdiff_Leq) (hw : (((a0.Cycle.xs.map (fun y => 1)).sum + 1) + ((a0.Numbers.xs.map (fun y => 1)).sum + 1) + 1) + (1 + 1 + 1 + 1) + ((a2.xs.map (fun y => (1 + 1 + 1 + 1))).sum + 1) ≤ 1048576) (g0 : (((a0.Cycle.nn = false → a0.Cycle.xs = []) ∧ a0.Cycle.xs.length ≤ maxLen ∧ ∀ y ∈ a0.Cycle.xs, (IntKind.i64.min ≤ y ∧ y ≤ IntKind.i64.max)) ∧ ((a0.Numbers.nn = false → a0.Numbers.xs = []) ∧ a0.Numbers.xs.length ≤ maxLen ∧ ∀ y ∈ a0.Numbers.xs, (IntKind.i64.min ≤ y ∧ y ≤ IntKind.i64.max)))) (g1 : ((IntKind.i64.min ≤ a1.X ∧ a1.X ≤ IntKind.i64.max) ∧ (IntKind.i64.min ≤ a1.Y ∧ a1.Y ≤ IntKind.i64.max) ∧ (IntKind.i64.min ≤ a1.C ∧ a1.C ≤ IntKind.i64.max))) (g2 : ((a2.nn = false → a2.xs = []) ∧ a2.xs.length ≤ maxLen ∧ ∀ y ∈ a2.xs, ((IntKind.i64.min ≤ y.X ∧ y.X ≤ IntKind.i64.max) ∧ (IntKind.i64.min ≤ y.Y ∧ y.Y ≤ IntKind.i64.max) ∧ (IntKind.i64.min ≤ y.C ∧ y.C ≤ IntKind.i64.max)))) : lychgatelaw05_CertOne a0 a1 a2 = some true := by
  apply tot_val
  have l2 : a2.xs.length ≤ 1048576 := len_of_w a2.xs (fun _ => 1 + 1 + 1 + 1) (fun _ => by omega) _ (by omega)
  have l0 : a0.Cycle.xs.length ≤ 1048576 := len_of_w a0.Cycle.xs (fun _ => 1) (fun _ => Nat.le_refl _) _ (by omega)
  unfold lychgatelaw05_CertOne
  refine tot_bind ((check_ok _ _ a1 a2 l2 g2.1 l0).mono fun b1 h1 => tot_bind ((check_ok _ _ a1 a2 l2 g2.1 (by simp)).mono fun b2 h2 => tot_bind (tot_eq wakes5_ok (tot_some ?_))))
  cases b1 with
  | false => simp
  | true =>
    cases b2 with
    | false => simp
    | true => exact (circ_none ((h1.1 rfl).2.1 rfl).2 ((h2.1 rfl).2.2 rfl).2.2).elim
end Go.Px
