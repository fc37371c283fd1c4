/- What follows from the facts is what the table says. -/
import Derived.Test.YtdgfgjdoahoadaaP13I
namespace Go.Px
set_option linter.unusedVariables false

theorem table_ent {n : Nat} {fs : List Leq} {T : Nat → Nat → Int} (hf : Fit n fs) (h : Tab n fs n T) {g : Leq} (hx : g.X.toNat < n) (hy : g.Y.toNat < n) (hc : g.C ≤ 8796093022208) :
    T g.X.toNat g.Y.toNat ≤ g.C ↔ Ent fs g := by
  have hn2 := hf.n2
  constructor
  · intro hT z hz
    have := (h.snd _ _ hx hy (by omega)).sol hz
    omega
  · intro hE
    apply Classical.byContradiction
    intro hno
    obtain ⟨z, hz, hzb⟩ := h.inner hf (Nat.le_refl _)
    have hyy : T g.Y.toNat g.Y.toNat = 0 := by have := h.dle _ hy; have := h.dge _ hy; omega
    have hs : Sol fs (fun x => if T x g.Y.toNat = 4611686018427387904 then z x + 4611686018427387904 else T x g.Y.toNat) := by
      intro f hf1
      obtain ⟨fx1, fy1, c1, c2, _⟩ := hf.at hf1
      have hT := h.fact f hf1
      have bx := hzb _ fx1; have by_ := hzb _ fy1
      have hzz := hz f hf1 fx1 fy1
      have hhi := h.hi hf (Nat.le_refl _) fx1 hy
      have ht := h.tri (fy fs f) (fx fs f) g.Y.toNat fy1 fx1 hy (by omega)
      simp only
      push_cast at hhi
      by_cases a : T (fy fs f) g.Y.toNat = 4611686018427387904
      · rw [if_pos a]
        by_cases b : T (fx fs f) g.Y.toNat = 4611686018427387904
        · rw [if_pos b]; omega
        · rw [if_neg b]; have := hhi b; omega
      · have := ht a
        rw [if_neg a, if_neg this.1]; omega
    have := hE _ hs
    rw [hyy, if_neg (by omega : ¬ (0 : Int) = 4611686018427387904)] at this
    have hb := hzb _ hx
    split at this <;> omega
/-- the document's Entails -/
theorem refEntails_ok {n : Nat} {fs : Sl Leq} (hf : Fit n fs.xs) (r : Sl Glychgateref04_Leq) (hr : r.xs = fs.xs.map toRf) (g : Leq) (hx : 0 ≤ g.X ∧ g.X < n) (hy : 0 ≤ g.Y ∧ g.Y < n) (hc : g.C ≤ 8796093022208) :
    Tot (lychgateref04_Entails n (⟨g.X, g.Y, g.C⟩ : Glychgateref04_Leq) r) fun b => b = true ↔ Ent fs.xs g := by
  have hn2 := hf.n2
  unfold lychgateref04_Entails
  refine tot_bind ((table_ok hf r hr).mono fun q hq => ?_)
  rcases hq with ⟨h1, h2, h3⟩ | ⟨h1, h2⟩
  · rw [h1]
    simp only [Bool.not_true, Bool.false_eq_true, if_false]
    have hp : IntKind.i64.wrap (IntKind.i64.wrap (g.X * n) + g.Y) = ((g.X.toNat * n + g.Y.toNat : Nat) : Int) := by
      have e1 : g.X = (g.X.toNat : Int) := by omega
      have e2 : g.Y = (g.Y.toNat : Int) := by omega
      have := widx (n := n) (i := g.X.toNat) (j := g.Y.toNat) hn2 (by omega) (by omega)
      rw [← e1, ← e2] at this
      exact this
    rw [hp]
    refine tot_bind (tot_eq (Ta_get h2 (by omega) (by omega) rfl) (tot_some ?_))
    rw [decide_eq_true_eq]
    exact table_ent hf h3 (by omega) (by omega) hc
  · rw [h1]
    exact tot_some ⟨fun _ z hz => (h2 z hz).elim, fun _ => rfl⟩
end Go.Px
