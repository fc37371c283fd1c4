/- DiffSolves, plainly. -/
import Derived.Test.YtdpnogldgiomnaaP04M
namespace Go.Px
set_option linter.unusedVariables false

theorem minus_loop {n : Nat} (hn : n ≤ 96) (s : Sl Int) (hs : s.xs.length = n) (hb : ∀ x, x < n → -1000000000000000000 ≤ At s.xs x ∧ At s.xs x ≤ 0) (h1 : 1 ≤ n) :
    Tot (loopO (lychgateref04_Plain_L3 n (At s.xs 0)) (s, 0)) fun y => y.xs.length = n ∧ ∀ x, x < n → At y.xs x = At s.xs x - At s.xs 0 := by
  refine tot_count2 n (by omega) (fun j y => y.xs.length = n ∧ ∀ x, x < n → At y.xs x = if x < j then At s.xs x - At s.xs 0 else At s.xs x) s ⟨hs, fun x hx => by simp⟩ ?_ ?_
  · rintro j y hj ⟨k2, k3⟩
    unfold lychgateref04_Plain_L3
    refine tot_ifd (fun _ => ?_) (fun hh => (hh (by simp only; omega)).elim)
    have e1 : gidx y (j : Int) = some (At s.xs j) := by rw [at_gidx k2 rfl hj, k3 j hj]; simp
    have b1 := hb j hj; have b2 := hb 0 (by omega)
    refine tot_bind (tot_eq e1 (tot_bind (tot_eq e1 (tot_bind ?_))))
    simp only
    rw [wrap_id (by omega) (by omega)]
    refine tot_eq (gset_ok (by omega) (by omega)) (tot_some ⟨rfl, by simp [k2], fun x hx => ?_⟩)
    simp only [Int.toNat_natCast]
    rw [At_set _ _ _ _ (by omega)]
    by_cases e : x = j
    · subst e; rw [if_pos rfl, if_pos (by omega)]
    · rw [if_neg e, k3 x hx]
      by_cases e2 : x < j
      · rw [if_pos e2, if_pos (by omega)]
      · rw [if_neg e2, if_neg (by omega)]
  · rintro y ⟨k2, k3⟩
    unfold lychgateref04_Plain_L3
    exact tot_ifd (fun hh => absurd hh (by simp only; omega)) (fun _ => tot_some ⟨k2, fun x hx => by rw [k3 x hx, if_pos hx]⟩)
/-- the document's plain solution -/
theorem refPlain_ok {n : Nat} {fs : Sl Leq} (hf : Fit n fs.xs) (r : Sl Glychgateref04_Leq) (hr : r.xs = fs.xs.map toRf) :
    Tot (lychgateref04_Plain n r) fun q => (q.2 = true ∧ q.1.xs.length = n ∧ ∀ d, Best n fs.xs d → ∀ x, x < n → At q.1.xs x = At d x - At d 0) ∧ (∃ z, Sol fs.xs z) ∨ (q.2 = false ∧ ∀ z, ¬ Sol fs.xs z) := by
  have hn2 := hf.n2
  have hn1 := hf.n1
  unfold lychgateref04_Plain
  refine tot_bind ((table_ok hf r hr).mono fun q hq => ?_)
  rcases hq with ⟨h1, h2, h3⟩ | ⟨h1, h2⟩
  · rw [h1]
    simp only [Bool.not_true, Bool.false_eq_true, if_false]
    have hmk : gmake 8 (n : Int) (0 : Int) = some ⟨List.replicate n 0, true⟩ := by rw [gmake_ok (by omega) (by omega) (by omega)]; simp
    refine tot_bind (tot_eq hmk (tot_bind ((plain_rows hn2 q h2 _ rfl).mono fun y ⟨y1, y2⟩ => tot_bind (tot_eq (at_gidx (x := 0) y1 rfl (by omega)) (tot_bind ?_)))))
    have hb : ∀ x, x < n → -1000000000000000000 ≤ At y.xs x ∧ At y.xs x ≤ 0 := fun x hx => by
      obtain ⟨a1, a2, a3⟩ := y2 x hx
      rcases a3 with a3 | ⟨b, e1, e2, e3⟩
      · omega
      · have := h3.lo hf (Nat.le_refl _) hx e2
        push_cast at this
        omega
    obtain ⟨z, hz, _⟩ := h3.inner hf (Nat.le_refl _)
    refine (minus_loop hn2 y y1 hb hn1).mono fun w ⟨w1, w2⟩ => tot_some (.inl ⟨⟨rfl, w1, fun d hd x hx => ?_⟩, z, fun f hf1 => by obtain ⟨hx, hy, _⟩ := hf.at hf1; exact hz f hf1 hx hy⟩)
    rw [w2 x hx, best_least hf h3 hd y2 x hx, best_least hf h3 hd y2 0 (by omega)]
  · rw [h1]
    exact tot_some (.inr ⟨rfl, h2⟩)
theorem solves_loop (r : Sl Int × Bool) (s : Sl Int × Sl Int × Int) (n : Nat) (hn : n ≤ 96) (h1 : s.1.xs.length = n) (h2 : r.1.xs.length = n) (he : ∀ x, x < n → At s.1.xs x = At r.1.xs x) :
    Tot (loopO (lychgatelaw04_DiffSolves_L1 r s) 0) (fun y => match y with | .a _ => True | .b _ => False) := by
  refine tot_count s.1.xs.length (by omega) (fun _ => True) trivial ?_ ?_
  · intro j hj _
    unfold lychgatelaw04_DiffSolves_L1
    refine tot_ifd (fun _ => ?_) (fun hh => (hh (lt_len hj)).elim)
    refine tot_bind (tot_eq (at_gidx rfl rfl hj) (tot_bind (tot_eq (at_gidx h2 rfl (by omega)) ?_)))
    exact tot_ifd (fun hh => absurd (he j (by omega)) hh) (fun _ => tot_some ⟨rfl, trivial⟩)
  · intro _
    unfold lychgatelaw04_DiffSolves_L1
    exact tot_ifd (fun hh => (nlt_len hh).elim) (fun _ => tot_some trivial)
theorem sum4s (l : List Leq) : (l.map fun _ => (1 + 1 + 1 + 1 : Nat)).sum = 4 * l.length := by
  induction l with
  | nil => rfl
  | cons a l ih => simp only [List.map_cons, List.sum_cons, List.length_cons, ih]; omega
theorem diffSolves_law (a0 : Int) (a1 : Sl Gdiff_Leq) (hw : 1 + ((a1.xs.map (fun y => (1 + 1 + 1 + 1))).sum + 1) ≤ 1048576) (g0 : (IntKind.i64.min ≤ a0 ∧ a0 ≤ IntKind.i64.max)) (g1 : ((a1.nn = false → a1.xs = []) ∧ a1.xs.length ≤ maxLen ∧ ∀ y ∈ a1.xs, ((IntKind.i64.min ≤ y.X ∧ y.X ≤ IntKind.i64.max) ∧ (IntKind.i64.min ≤ y.Y ∧ y.Y ≤ IntKind.i64.max) ∧ (IntKind.i64.min ≤ y.C ∧ y.C ≤ IntKind.i64.max)))) : lychgatelaw04_DiffSolves a0 a1 = some true := by
  apply tot_val
  have hl : a1.xs.length ≤ 262144 := by
    have h4 : (a1.xs.map (fun y => (1 + 1 + 1 + 1))).sum = 4 * a1.xs.length := sum4s a1.xs
    rw [h4] at hw
    omega
  unfold lychgatelaw04_DiffSolves
  refine tot_bind (tot_eq (gapp_ok (by simp; omega) (by simp; omega)) (tot_bind ((solve_ok a0 ⟨[] ++ a1.xs, _⟩).mono fun s hs => tot_bind ((refs4_ok a1 (by omega)).mono fun r hr => tot_bind (tot_eq (refFit_ok a0 a1 r hr) (tot_bind (tot_eq wakes_ok ?_)))))))
  simp only [List.nil_append] at hs
  cases hs with
  | unfit h =>
    simp only [Bool.not_true, ne_eq, not_true_eq_false, decide_false, Bool.or_self, Bool.false_eq_true, if_false]
    refine tot_ifd (fun _ => tot_some rfl) (fun hh => absurd h hh)
  | circle c h0 hf hn hC hcl =>
    rw [h0]
    simp only [Bool.not_true, ne_eq, not_true_eq_false, decide_false, Bool.or_self, Bool.false_eq_true, if_false]
    refine tot_ifd (fun _ => tot_some rfl) (fun _ => ?_)
    have hp := refPlain_ok hf r hr
    rw [hn] at hp
    refine tot_bind ((refs4_ok a1 (by omega)).mono fun r2 hr2 => ?_)
    have hp2 := refPlain_ok hf r2 hr2
    rw [hn] at hp2
    refine tot_bind (hp2.mono fun q hq => ?_)
    rcases hq with ⟨_, z, hz⟩ | ⟨h1, h2⟩
    · exact (hC.none hz).elim
    · rw [h1]
      simp only [Bool.not_false, if_true]
      refine tot_bind (tot_ifd (fun _ => tot_bind (tot_eq (circle_ok (c := ⟨c, true⟩) hf hC hcl) (tot_some (tot_some ?_)))) (fun hh => (hh rfl).elim))
      rw [decide_eq_true (show Sl.len (⟨c, true⟩ : Sl Int) ≤ a0 by rw [sl_len]; simp only; omega)]; rfl
  | best v d h0 hf hn hB hvl hv =>
    have hn1 := hf.n1
    have hn2 := hf.n2
    rw [h0]
    simp only [Bool.not_true, ne_eq, not_true_eq_false, decide_false, Bool.or_self, Bool.false_eq_true, if_false]
    refine tot_ifd (fun _ => tot_some rfl) (fun _ => ?_)
    refine tot_bind ((refs4_ok a1 (by omega)).mono fun r2 hr2 => ?_)
    have hp2 := refPlain_ok hf r2 hr2
    rw [hn] at hp2
    refine tot_bind (hp2.mono fun q hq => ?_)
    rcases hq with ⟨⟨h1, h2, h3⟩, _⟩ | ⟨h1, h2⟩
    · rw [h1]
      simp only [Bool.not_true, Bool.false_eq_true, if_false]
      refine tot_if (fun hh => ?_) (fun _ => ?_)
      · exfalso
        simp [sl_len, hvl, h2] at hh
      · refine tot_bind ((solves_loop q (⟨v, true⟩, ⟨[], false⟩, 0) a0.toNat hn2 hvl h2 fun x hx => ?_).mono ?_)
        · rw [h3 d hB x hx]; exact hv x hx
        · rintro (_ | _) h
          · exact tot_some rfl
          · exact h.elim
    · exact (h2 _ hB.isSol).elim
end Go.Px
