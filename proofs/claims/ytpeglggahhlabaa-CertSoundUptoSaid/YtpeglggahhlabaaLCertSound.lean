/- CertSound, plainly. -/
import Derived.Test.YtpeglggahhlabaaP05C
import Derived.Test.YtpeglggahhlabaaP04J
namespace Go.Px
set_option linter.unusedVariables false

theorem circ_sol {fs : List Leq} {c : List Int} {z : Nat → Int} (h : Circ fs c) (hz : Sol fs z) : False := by
  obtain ⟨h1, h2, h3, h4, h5⟩ := h
  have hk : ∀ i, i < c.length → z (gX fs (At c i)).toNat ≤ z (gY fs (At c i)).toNat + gC fs (At c i) := by
    intro i hi
    have ho := h3 i hi
    exact hz (At c i).toNat (by have := ho.1; have := ho.2.1; omega)
  have s1 := sums_le c.length (fun i => z (gX fs (At c i)).toNat) (fun i => z (gY fs (At c i)).toNat) (fun i => gC fs (At c i)) hk
  have s2 : ((List.range c.length).map fun i => z (gY fs (At c i)).toNat) = (List.range c.length).map fun i => (fun j => z (gX fs (At c j)).toNat) ((i + 1) % c.length) := by
    apply List.map_congr_left
    intro i hi
    rw [h4 i (List.mem_range.1 hi)]
  rw [s2, sum_turn c.length fun j => z (gX fs (At c j)).toNat] at s1
  omega
theorem holds_sol {fs : List Leq} {v : List Int} (h : HoldsP v fs) : Sol fs (At v) := fun i hi => (h _ (getD_mem default hi)).2.2.2.2.2.2.2.2.2.2
theorem certSound_law (a0 : Gcert_Proof) (a1 : Gdiff_Leq) (a2 : Sl Gdiff_Leq) (hw : (1 + ((a0.Cycle.xs.map (fun y => 1)).sum + 1) + ((a0.Numbers.xs.map (fun y => 1)).sum + 1) + 1) + (1 + 1 + 1 + 1) + ((a2.xs.map (fun y => (1 + 1 + 1 + 1))).sum + 1) ≤ 1048576) (g0 : (True ∧ ((a0.Cycle.nn = false → a0.Cycle.xs = []) ∧ a0.Cycle.xs.length ≤ maxLen ∧ ∀ y ∈ a0.Cycle.xs, (IntKind.i64.min ≤ y ∧ y ≤ IntKind.i64.max)) ∧ ((a0.Numbers.nn = false → a0.Numbers.xs = []) ∧ a0.Numbers.xs.length ≤ maxLen ∧ ∀ y ∈ a0.Numbers.xs, (IntKind.i64.min ≤ y ∧ y ≤ IntKind.i64.max)))) (g1 : ((IntKind.i64.min ≤ a1.X ∧ a1.X ≤ IntKind.i64.max) ∧ (IntKind.i64.min ≤ a1.Y ∧ a1.Y ≤ IntKind.i64.max) ∧ (IntKind.i64.min ≤ a1.C ∧ a1.C ≤ IntKind.i64.max))) (g2 : ((a2.nn = false → a2.xs = []) ∧ a2.xs.length ≤ maxLen ∧ ∀ y ∈ a2.xs, ((IntKind.i64.min ≤ y.X ∧ y.X ≤ IntKind.i64.max) ∧ (IntKind.i64.min ≤ y.Y ∧ y.Y ≤ IntKind.i64.max) ∧ (IntKind.i64.min ≤ y.C ∧ y.C ≤ IntKind.i64.max)))) : lychgatelaw05_CertSound a0 a1 a2 = some true := by
  apply tot_val
  have l2 : a2.xs.length ≤ 1048576 := len_of_w a2.xs (fun _ => 1 + 1 + 1 + 1) (fun _ => by omega) _ (by omega)
  have l0 : a0.Cycle.xs.length ≤ 1048576 := len_of_w a0.Cycle.xs (fun _ => 1) (fun _ => Nat.le_refl _) _ (by omega)
  unfold lychgatelaw05_CertSound
  obtain ⟨n, hn⟩ : ∃ n : Nat, (if 3 < a0.Numbers.len then a0.Numbers.len else 3) = (n : Int) := by
    refine ⟨(if 3 < a0.Numbers.len then a0.Numbers.len else 3).toNat, ?_⟩
    rw [sl_len]; split <;> omega
  simp only [hn]
  refine tot_bind (tot_eq wakes5_ok (tot_bind ?_))
  have hcond : Tot (if (!true || decide (40 < (n : Int))) = true then some true else Option.bind (cert_Check a0 n a1 a2) fun r_28 => some (!r_28)) fun b => b = false → CheckP a0 n a1 a2.xs := by
    refine tot_if (fun _ => tot_some (by simp)) (fun _ => tot_bind ((check_ok a0 n a1 a2 l2 g2.1 l0).mono fun b hb => tot_some fun h => hb.1 (by simpa using h)))
  refine hcond.mono fun b hb => tot_ifb (fun _ => tot_bind (tot_eq wakes5_ok (tot_some rfl))) (fun h => ?_)
  obtain ⟨k1, k2, k3⟩ := hb h
  obtain ⟨hf1, hnn, _⟩ := ent_fit k1
  rw [Int.toNat_natCast] at hf1
  have hg := hf1.ok a1 (by simp)
  have hfl := hf1.len
  simp only [List.length_append, List.length_cons, List.length_nil] at hfl
  have hf : Fit n a2.xs := ⟨hf1.n1, hf1.n2, by omega, fun f hm => hf1.ok f (List.mem_append_left _ hm)⟩
  refine tot_bind ((refs_ok a2 l2).mono fun r hr => tot_bind ((refEntails_ok hf r hr a1 ⟨hg.1, hg.2.1⟩ ⟨hg.2.2.1, hg.2.2.2.1⟩ (by omega)).mono fun e he => tot_some ?_))
  cases hy : a0.Yes with
  | true =>
    have : e = true := he.2 fun z hz => by
      apply Classical.byContradiction
      intro hno
      exact circ_sol (z := z) (k2 hy).2 (sol_snoc.2 ⟨hz, by simp only [tg]; omega⟩)
    rw [this]; rfl
  | false =>
    cases e with
    | false => rfl
    | true =>
      obtain ⟨s1, s2⟩ := sol_snoc.1 (holds_sol (k3 hy).2.2)
      have := he.1 rfl _ s1
      simp only [tg] at s2
      omega
end Go.Px
