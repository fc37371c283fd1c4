/- The document's plain solution: the least of each row. -/
import Derived.Test.YtdpnogldgiomnaaP04K
namespace Go.Px
set_option linter.unusedVariables false

def LeastTo (n : Nat) (T : Nat → Nat → Int) (i j : Nat) (v : Int) : Prop := (∀ b, b < j → v ≤ T i b) ∧ v ≤ 0 ∧ (v = 0 ∨ ∃ b, b < j ∧ b < n ∧ v = T i b)
theorem plain_row {n : Nat} (hn : n ≤ 96) (q : Sl Int × Bool) (hl : q.1.xs.length = n * n) {i : Nat} (hi : i < n) (u s : Sl Int) (hs : s.xs.length = n) (h0 : At s.xs i = 0) :
    Tot (loopO (lychgateref04_Plain_L1 n q (u, (i : Int))) (s, 0)) fun y => y.xs.length = n ∧ LeastTo n (Ta n q.1.xs) i n (At y.xs i) ∧ ∀ a, a ≠ i → At y.xs a = At s.xs a := by
  refine tot_count2 n (by omega) (fun j y => y.xs.length = n ∧ LeastTo n (Ta n q.1.xs) i j (At y.xs i) ∧ ∀ a, a ≠ i → At y.xs a = At s.xs a) s ⟨hs, ⟨fun b hb => by omega, by omega, .inl h0⟩, fun a _ => rfl⟩ ?_ ?_
  · rintro j y hj ⟨h1, ⟨h2, h3, h4⟩, h5⟩
    unfold lychgateref04_Plain_L1
    refine tot_ifd (fun _ => ?_) (fun hh => (hh (by simp only; omega)).elim)
    simp only
    rw [widx hn hi hj]
    refine tot_bind (tot_bind (tot_eq (Ta_get hl hi hj rfl) (tot_bind (tot_eq (at_gidx h1 rfl hi) (tot_bind ?_)))))
    refine tot_ifd (fun hlt => ?_) (fun hge => ?_)
    · have hset : gset y (i : Int) (Ta n q.1.xs i j) = some ⟨y.xs.set i (Ta n q.1.xs i j), y.nn⟩ := by rw [gset_ok (by omega) (by omega), Int.toNat_natCast]
      refine tot_bind (tot_eq (Ta_get hl hi hj rfl) (tot_bind (tot_eq (at_gidx h1 rfl hi) (tot_bind (tot_eq hset (tot_some (tot_some (tot_some ⟨rfl, by simp [h1], ?_, fun a ha => ?_⟩))))))))
      · simp only
        rw [At_set _ _ _ _ (by omega), if_pos rfl]
        refine ⟨fun b hb => ?_, by omega, .inr ⟨j, by omega, hj, rfl⟩⟩
        by_cases e : b = j
        · subst e; exact Int.le_refl _
        · have := h2 b (by omega); omega
      · simp only
        rw [At_set _ _ _ _ (by omega), if_neg ha]; exact h5 a ha
    · refine tot_some (tot_some (tot_some ⟨rfl, h1, ⟨fun b hb => ?_, h3, ?_⟩, h5⟩))
      · by_cases e : b = j
        · subst e; simp only; omega
        · exact h2 b (by omega)
      · rcases h4 with h4 | ⟨b, b1, b2, b3⟩
        · exact .inl h4
        · exact .inr ⟨b, by omega, b2, b3⟩
  · rintro y h
    unfold lychgateref04_Plain_L1
    exact tot_ifd (fun hh => absurd hh (by simp only; omega)) (fun _ => tot_some h)
theorem plain_rows {n : Nat} (hn : n ≤ 96) (q : Sl Int × Bool) (hl : q.1.xs.length = n * n) (s : Sl Int) (hs : s = ⟨List.replicate n 0, true⟩) :
    Tot (loopO (lychgateref04_Plain_L2 n q) (s, 0)) fun y => y.xs.length = n ∧ ∀ i, i < n → LeastTo n (Ta n q.1.xs) i n (At y.xs i) := by
  have hz : ∀ i, At s.xs i = 0 := by
    intro i; rw [hs]; unfold At
    rw [List.getD_eq_getElem?_getD, List.getElem?_replicate]
    split <;> rfl
  refine tot_count2 n (by omega) (fun j y => y.xs.length = n ∧ (∀ i, i < j → LeastTo n (Ta n q.1.xs) i n (At y.xs i)) ∧ ∀ i, j ≤ i → At y.xs i = 0) s ⟨by rw [hs]; simp, fun i hi => by omega, fun i _ => hz i⟩ ?_ ?_
  · rintro j y hj ⟨h1, h2, h3⟩
    unfold lychgateref04_Plain_L2
    refine tot_ifd (fun _ => ?_) (fun hh => (hh (by simp only; omega)).elim)
    refine tot_bind ((plain_row hn q hl hj y y h1 (h3 j (by omega))).mono fun y' ⟨k1, k2, k3⟩ => tot_some ⟨rfl, k1, fun i hi => ?_, fun i hi => ?_⟩)
    · by_cases e : i = j
      · subst e; exact k2
      · rw [k3 i e]; exact h2 i (by omega)
    · rw [k3 i (by omega)]; exact h3 i (by omega)
  · rintro y ⟨h1, h2, h3⟩
    unfold lychgateref04_Plain_L2
    exact tot_ifd (fun hh => absurd hh (by simp only; omega)) (fun _ => tot_some ⟨h1, h2⟩)
theorem best_least {n : Nat} {fs : List Leq} {T : Nat → Nat → Int} {d v : List Int} (hf : Fit n fs) (hT : Tab n fs n T) (hB : Best n fs d) (hv : ∀ i, i < n → LeastTo n T i n (At v i)) : ∀ i, i < n → At v i = At d i := by
  intro i hi
  apply Int.le_antisymm
  · refine hB.up (At v) (fun f hf1 => ?_) (fun x hx => (hv x hx).2.1) i hi
    obtain ⟨hx, hy, c1, c2, _⟩ := hf.at hf1
    obtain ⟨a1, a2, a3⟩ := hv _ hx
    obtain ⟨b1, b2, b3⟩ := hv _ hy
    have hTf := hT.fact f hf1
    rcases b3 with b3 | ⟨b, e1, e2, e3⟩
    · have := a1 _ hy; omega
    · have := (hT.tri _ _ b hy hx e2 (by omega) (by omega)).2
      have := a1 _ e2
      omega
  · obtain ⟨a1, a2, a3⟩ := hv _ hi
    rcases a3 with a3 | ⟨b, e1, e2, e3⟩
    · have := hB.hi i hi; omega
    · have := (hT.snd i b hi e2 (by omega)).sol hB.isSol
      have := hB.hi b e2
      omega
end Go.Px
