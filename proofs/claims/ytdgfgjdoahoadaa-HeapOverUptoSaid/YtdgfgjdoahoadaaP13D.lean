/- Best numbers lie near 0: no variable is further off than all the facts' bounds together. -/
import Derived.Test.YtdgfgjdoahoadaaP13C
namespace Go.Px
set_option linter.unusedVariables false

theorem Best.near {n : Nat} {fs : List Leq} {d : List Int} (hf : Fit n fs) (h : Best n fs d) : ∀ x, x < n → -((n : Int) * 8796093022209) ≤ At d x := by
  intro x0 hx0
  apply Classical.byContradiction
  intro hlow
  -- some gap of the width of a bound is free
  have hgap : ∃ m, m < n ∧ ∀ x, x < n → ¬ (-((m + 1 : Nat) : Int) * 8796093022209 < At d x ∧ At d x ≤ -(m : Int) * 8796093022209) := by
    apply Classical.byContradiction
    intro hno
    have hex : ∀ m, m < n → ∃ x, x < n ∧ (-((m + 1 : Nat) : Int) * 8796093022209 < At d x ∧ At d x ≤ -(m : Int) * 8796093022209) := by
      intro m hm
      apply Classical.byContradiction
      intro hh
      exact hno ⟨m, hm, fun x hx hxx => hh ⟨x, hx, hxx⟩⟩
    classical
    let u : Nat → Nat := fun m => if hm : m < n then (hex m hm).choose else x0
    have hu : ∀ m (hm : m < n), u m < n ∧ (-((m + 1 : Nat) : Int) * 8796093022209 < At d (u m) ∧ At d (u m) ≤ -(m : Int) * 8796093022209) := by
      intro m hm
      have := (hex m hm).choose_spec
      simpa [u, hm] using this
    have hun : u n = x0 := by simp [u]
    obtain ⟨i, j, hij, hj, he⟩ := pigeon n u fun m hm => by
      by_cases e : m < n
      · exact (hu m e).1
      · have : m = n := by omega
        subst this; rw [hun]; exact hx0
    have h1 := (hu i (by omega)).2
    by_cases ej : j < n
    · have h2 := (hu j ej).2
      rw [he] at h1
      push_cast at h1 h2
      omega
    · have : j = n := by omega
      subst this
      rw [he, hun] at h1
      push_cast at h1
      omega
  obtain ⟨m, hm, hfree⟩ := hgap
  -- all below the gap may be raised
  have hs : Sol fs (fun x => if At d x ≤ -((m + 1 : Nat) : Int) * 8796093022209 then At d x + 1 else At d x) := by
    intro i hi
    obtain ⟨hx, hy, hc1, hc2, _⟩ := hf.at hi
    have h1 := h.sol i hi
    have h2 := hfree _ hx
    have h3 := hfree _ hy
    push_cast at h2 h3 ⊢
    split <;> split <;> omega
  have h4 := h.up _ hs (fun x hx => by
    have := h.hi x hx
    have := hfree x hx
    push_cast at this ⊢
    split <;> omega) x0 hx0
  rw [if_pos (by push_cast; omega)] at h4
  omega
end Go.Px
