/- The table of all pairs: rows and stages. -/
import Derived.Test.YtdgfgjdoahoadaaP13G
namespace Go.Px
set_option linter.unusedVariables false

theorem exT_kk {T : Nat → Nat → Int} {k : Nat} (h : T k k ≠ 4611686018427387904) (h0 : 0 ≤ exT T k k k) : 0 ≤ T k k := by
  unfold exT at h0
  have hz : (if k < k ∧ T k k < 0 then T k k else 0) = 0 := by rw [if_neg (by omega)]
  rw [if_neg (by omega)] at h0
  simp only [hz] at h0
  split at h0 <;> omega
theorem stage_loop {n : Nat} {fs : List Leq} {k : Nat} {T : Nat → Nat → Int} (hf : Fit n fs) (hT : Tab n fs k T) (hk : k < n) (t : Sl Int) (hs : InSt n T k 0 0 t) (u : Sl Int) :
    Tot (loopO (lychgateref04_Table_L4 n (u, (k : Int))) (t, 0)) fun y => match y with | .a t' => InSt n T k n 0 t' ∧ 0 ≤ T k k | .b _ => ∀ z, ¬ Sol fs z := by
  have hn2 := hf.n2
  have hkk := hT.dle k hk
  refine tot_count2 n (by omega) (fun i t => InSt n T k i 0 t ∧ (i ≤ k ∨ 0 ≤ T k k)) t ⟨hs, .inl (by omega)⟩ ?_ ?_
  · rintro i s hi ⟨hin, hik⟩
    unfold lychgateref04_Table_L4
    refine tot_ifd (fun _ => ?_) (fun hh => (hh (by simp only; omega)).elim)
    simp only
    rw [widx hn2 hi hk, widx hn2 hi hi]
    have e1 : Ta n s.xs i k = T i k := by rw [hin.2 i k hi hk, if_neg (by omega)]
    refine tot_bind (tot_bind (tot_eq (Ta_get hin.1 hi hk rfl) ?_))
    rw [e1]
    refine tot_ifd (fun h1 => tot_some (tot_some ⟨rfl, hin.skip h1, ?_⟩)) (fun h1 => ?_)
    · have : i ≠ k := fun e => by subst e; omega
      omega
    · refine tot_bind ((row_loop hf hT hk hi hik s hin h1 u).mono fun t' ht' => ?_)
      have e2 : Ta n t'.xs i i = exT T k i i := by rw [ht'.2 i i hi hi, if_pos (by omega)]
      refine tot_bind (tot_eq (Ta_get ht'.1 hi hi rfl) ?_)
      rw [e2]
      refine tot_ifd (fun h2 => tot_some (tot_some fun z hz => ?_)) (fun h2 => tot_some (tot_some ⟨rfl, ht'.row, ?_⟩))
      · have := (exT_snd hT hk hi hi (by omega)).sol hz
        omega
      · by_cases e : i = k
        · subst e; exact .inr (exT_kk (by omega) (by omega))
        · omega
  · rintro s ⟨hin, hik⟩
    unfold lychgateref04_Table_L4
    exact tot_ifd (fun hh => absurd hh (by simp only; omega)) (fun _ => tot_some ⟨hin, by omega⟩)
theorem Tab.congr {n : Nat} {fs : List Leq} {k : Nat} {T U : Nat → Nat → Int} (hf : Fit n fs) (hk : k ≤ n) (h : Tab n fs k T) (he : ∀ a b, a < n → b < n → U a b = T a b) : Tab n fs k U := by
  refine ⟨fun i j hi hj hfin => ?_, fun f hf1 => ?_, fun i hi => ?_, fun i hi => ?_, fun p i j hp hi hj h1 h2 => ?_, fun i j hi hj => ?_⟩
  · rw [he i j hi hj] at hfin ⊢; exact h.snd i j hi hj hfin
  · obtain ⟨hx, hy, _⟩ := hf.at hf1
    rw [he _ _ hx hy]; exact h.fact f hf1
  · rw [he i i hi hi]; exact h.dle i hi
  · rw [he i i (by omega) (by omega)]; exact h.dge i hi
  · rw [he i p hi (by omega)] at h1 ⊢; rw [he p j (by omega) hj] at h2 ⊢; rw [he i j hi hj]; exact h.tri p i j hp hi hj h1 h2
  · rw [he i j hi hj]; exact h.top i j hi hj
theorem stages_loop {n : Nat} {fs : List Leq} (hf : Fit n fs) (t : Sl Int) (hl : t.xs.length = n * n) (h0 : Tab n fs 0 (Ta n t.xs)) :
    Tot (loopO (lychgateref04_Table_L5 n) (t, 0)) fun y => match y with | .a t' => t'.xs.length = n * n ∧ Tab n fs n (Ta n t'.xs) | .b _ => ∀ z, ¬ Sol fs z := by
  have hn2 := hf.n2
  refine tot_count2 n (by omega) (fun k t => t.xs.length = n * n ∧ Tab n fs k (Ta n t.xs)) t ⟨hl, h0⟩ ?_ ?_
  · rintro k s hk ⟨hsl, hT⟩
    unfold lychgateref04_Table_L5
    refine tot_ifd (fun _ => ?_) (fun hh => (hh (by simp only; omega)).elim)
    refine tot_bind ((stage_loop hf hT hk s ⟨hsl, fun a b ha hb => by rw [if_neg (by omega)]⟩ s).mono ?_)
    rintro (t' | _) h
    · obtain ⟨h1, h2⟩ := h
      refine tot_some ⟨rfl, h1.1, (hT.step hf hk h2).congr hf (by omega) fun a b ha hb => ?_⟩
      rw [h1.2 a b ha hb, if_pos (by omega)]
    · exact tot_some h
  · rintro s ⟨hsl, hT⟩
    unfold lychgateref04_Table_L5
    exact tot_ifd (fun hh => absurd hh (by simp only; omega)) (fun _ => tot_some ⟨hsl, hT⟩)
end Go.Px
