/- Lists of facts made by the laws themselves: DiffSound, DiffChain. -/
import Derived.Test.YtdpnogldgiomnaaP04D
namespace Go.Px
set_option linter.unusedVariables false
theorem sol_mem {fs : List Leq} {z : Nat → Int} : Sol fs z ↔ ∀ f ∈ fs, z f.X.toNat ≤ z f.Y.toNat + f.C := by
  constructor
  · intro h f hf
    obtain ⟨i, hi, rfl⟩ := List.getElem_of_mem hf
    have := h i hi
    unfold fx fy fc at this
    rw [List.getD_eq_getElem?_getD, List.getElem?_eq_getElem hi] at this
    exact this
  · intro h i hi
    exact h _ (getD_mem default hi)
def clamp (m x : Int) : Int := if (-m) < (if m < x then m else x) then (if m < x then m else x) else (-m)
theorem clamp_le {m x : Int} (h : 0 ≤ m) : -m ≤ clamp m x ∧ clamp m x ≤ m := by
  unfold clamp; split <;> split <;> omega
end Go.Px
