/- The table of all pairs as a whole. -/
import Derived.Test.YtdgfgjdoahoadaaP13H
namespace Go.Px
set_option linter.unusedVariables false

theorem gmodN {a b : Nat} (hb : 0 < b) : gmod .i64 (a : Int) (b : Int) = some ((a % b : Nat) : Int) := by
  unfold gmod
  rw [if_neg (by omega), Int.tmod_eq_emod_of_nonneg (by omega)]
  rfl
theorem start_loop {n : Nat} (hn : n ≤ 96) (t : Sl Int) (hl : t.xs.length = n * n) : Tot (loopO (lychgateref04_Table_L1 n) (t, 0)) fun y => y.xs.length = n * n ∧ ∀ p, p < n * n → At y.xs p = if p % (n + 1) = 0 then 0 else 4611686018427387904 := by
  have hnn : n * n ≤ 96 * 96 := Nat.mul_le_mul hn hn
  have hw : IntKind.i64.wrap ((n : Int) * n) = ((n * n : Nat) : Int) := by
    have h2 : ((n * n : Nat) : Int) = (n : Int) * n := by push_cast; rfl
    rw [← h2, wrap_id (by omega) (by omega)]
  have hw1 : IntKind.i64.wrap ((n : Int) + 1) = ((n + 1 : Nat) : Int) := by rw [wrap_id (by omega) (by omega)]; omega
  refine tot_count2 (n * n) (by omega) (fun j s => s.xs.length = n * n ∧ ∀ p, p < j → At s.xs p = if p % (n + 1) = 0 then 0 else 4611686018427387904) t ⟨hl, fun p hp => by omega⟩ ?_ ?_
  · rintro j s hj ⟨h1, h2⟩
    unfold lychgateref04_Table_L1
    rw [hw, hw1]
    refine tot_ifd (fun _ => ?_) (fun hh => (hh (by simp only; omega)).elim)
    have hs1 : gset s (j : Int) 4611686018427387904 = some ⟨s.xs.set j 4611686018427387904, s.nn⟩ := by rw [gset_ok (by omega) (by omega), Int.toNat_natCast]
    have hl1 : (s.xs.set j (4611686018427387904 : Int)).length = n * n := by simp [h1]
    have hs2 : gset (⟨s.xs.set j 4611686018427387904, s.nn⟩ : Sl Int) (j : Int) 0 = some ⟨(s.xs.set j 4611686018427387904).set j 0, s.nn⟩ := by rw [gset_ok (by omega) (by simp only; omega), Int.toNat_natCast]
    refine tot_bind (tot_bind (tot_eq (at_gidx h1 rfl hj) (tot_bind (tot_eq hs1 (tot_bind (tot_eq (gmodN (by omega)) (tot_bind ?_)))))))
    refine tot_ifd (fun h3 => ?_) (fun h3 => ?_)
    · refine tot_bind (tot_eq (at_gidx hl1 rfl hj) (tot_bind (tot_eq hs2 (tot_some (tot_some (tot_some ⟨rfl, by simp [h1], fun p hp => ?_⟩))))))
      simp only
      rw [At_set _ _ _ _ (by omega)]
      by_cases e : p = j
      · subst e; rw [if_pos rfl, if_pos (by omega)]
      · rw [if_neg e, At_set _ _ _ _ (by omega), if_neg e]; exact h2 p (by omega)
    · refine tot_some (tot_some (tot_some ⟨rfl, by simp [h1], fun p hp => ?_⟩))
      simp only
      rw [At_set _ _ _ _ (by omega)]
      by_cases e : p = j
      · subst e; rw [if_pos rfl, if_neg (by omega)]
      · rw [if_neg e]; exact h2 p (by omega)
  · rintro s hs
    unfold lychgateref04_Table_L1
    rw [hw]
    exact tot_ifd (fun hh => absurd hh (by simp only; omega)) (fun _ => tot_some hs)
theorem diag_place {n i j : Nat} (hi : i < n) (hj : j < n) : (i * n + j) % (n + 1) = 0 ↔ i = j := by
  constructor
  · intro h
    by_cases hij : i ≤ j
    · have : i * n + j = (j - i) + (n + 1) * i := by rw [Nat.add_mul, Nat.mul_comm n i]; omega
      rw [this, Nat.add_mul_mod_self_left, Nat.mod_eq_of_lt (by omega)] at h
      omega
    · have h2 : (i - 1) * n + n = i * n := by
        have := Nat.succ_mul (i - 1) n
        rw [show (i - 1).succ = i by omega] at this
        omega
      have : i * n + j = (n + 1 + j - i) + (n + 1) * (i - 1) := by rw [Nat.add_mul, Nat.mul_comm n (i - 1)]; omega
      rw [this, Nat.add_mul_mod_self_left, Nat.mod_eq_of_lt (by omega)] at h
      omega
  · rintro rfl
    have : i * n + i = (n + 1) * i := by rw [Nat.add_mul, Nat.mul_comm n i]; omega
    rw [this, Nat.mul_mod_right]
theorem facts_loop {n : Nat} {fs : Sl Leq} (hf : Fit n fs.xs) (r : Sl Glychgateref04_Leq) (hr : r.xs = fs.xs.map toRf) (t : Sl Int) (hl : t.xs.length = n * n) (h0 : ∀ p, p < n * n → At t.xs p = if p % (n + 1) = 0 then 0 else 4611686018427387904) :
    Tot (loopO (lychgateref04_Table_L2 n r) (t, 0)) fun y => y.xs.length = n * n ∧ Tab n fs.xs 0 (Ta n y.xs) := by
  have hn2 := hf.n2
  have hfl := hf.len
  have hrl : r.xs.length = fs.xs.length := by rw [hr]; simp
  have st : ∀ i j, i < n → j < n → Ta n t.xs i j = if i = j then 0 else 4611686018427387904 := by
    intro i j hi hj
    unfold Ta
    rw [h0 _ (idx_lt hi hj)]
    by_cases e : i = j
    · rw [if_pos ((diag_place hi hj).2 e), if_pos e]
    · rw [if_neg fun h => e ((diag_place hi hj).1 h), if_neg e]
  refine tot_count2 r.xs.length (by omega) (fun m s => s.xs.length = n * n ∧ (∀ i j, i < n → j < n → Ta n s.xs i j ≠ 4611686018427387904 → Snd n fs.xs 0 i j (Ta n s.xs i j)) ∧ (∀ f, f < m → Ta n s.xs (fx fs.xs f) (fy fs.xs f) ≤ fc fs.xs f) ∧ (∀ i, i < n → Ta n s.xs i i ≤ 0) ∧ ∀ i j, i < n → j < n → Ta n s.xs i j ≤ 4611686018427387904)
    t ⟨hl, fun i j hi hj h => ?_, fun f hf1 => by omega, fun i hi => by rw [st i i hi hi, if_pos rfl]; exact Int.le_refl _, fun i j hi hj => by rw [st i j hi hj]; split <;> omega⟩ ?_ ?_
  · rw [st i j hi hj] at h ⊢
    by_cases e : i = j
    · subst e; rw [if_pos rfl]; exact Snd.diag hi
    · rw [if_neg e] at h; exact absurd rfl h
  · rintro m s hm ⟨h1, h2, h3, h4, h5⟩
    unfold lychgateref04_Table_L2
    refine tot_ifd (fun _ => ?_) (fun hh => (hh (lt_len hm)).elim)
    have hm' : m < fs.xs.length := by omega
    obtain ⟨hx, hy, c1, c2, hX, hY⟩ := hf.at hm'
    have er := rf_idx hr hm'
    refine tot_bind (tot_bind (tot_eq er ?_))
    simp only
    have hp : IntKind.i64.wrap (IntKind.i64.wrap ((toRf (fs.xs.getD m default)).X * n) + (toRf (fs.xs.getD m default)).Y) = ((fx fs.xs m * n + fy fs.xs m : Nat) : Int) := by
      show IntKind.i64.wrap (IntKind.i64.wrap ((fs.xs.getD m default).X * n) + (fs.xs.getD m default).Y) = _
      rw [hX, hY]; exact widx hn2 hx hy
    rw [hp]
    refine tot_bind (tot_eq (Ta_get h1 hx hy rfl) (tot_bind ?_))
    refine tot_ifd (fun hlt => ?_) (fun hge => ?_)
    · have hlt' : fc fs.xs m < Ta n s.xs (fx fs.xs m) (fy fs.xs m) := hlt
      refine tot_bind (tot_eq (Ta_put h1 hx hy rfl) (tot_some (tot_some (tot_some ⟨rfl, by simp [h1], fun i j hi hj hfin => ?_, fun f hf1 => ?_, fun i hi => ?_, fun i j hi hj => ?_⟩))))
      · rw [Ta_set h1 hx hy hi hj] at hfin ⊢
        by_cases e : i = fx fs.xs m ∧ j = fy fs.xs m
        · rw [if_pos e, e.1, e.2]; exact Snd.fact hm'
        · rw [if_neg e] at hfin ⊢; exact h2 i j hi hj hfin
      · obtain ⟨hx', hy', _⟩ := hf.at (i := f) (by omega)
        rw [Ta_set h1 hx hy hx' hy']
        by_cases e : fx fs.xs f = fx fs.xs m ∧ fy fs.xs f = fy fs.xs m
        · rw [if_pos e]
          show fc fs.xs m ≤ fc fs.xs f
          by_cases e2 : f = m
          · subst e2; exact Int.le_refl _
          · have := h3 f (by omega)
            rw [e.1, e.2] at this
            omega
        · rw [if_neg e]
          refine h3 f ?_
          have : f ≠ m := fun h => e (by rw [h]; exact ⟨rfl, rfl⟩)
          omega
      · rw [Ta_set h1 hx hy hi hi]
        by_cases e : i = fx fs.xs m ∧ i = fy fs.xs m
        · rw [if_pos e]
          have := h4 i hi
          rw [← e.1, ← e.2] at hlt'
          show fc fs.xs m ≤ 0
          omega
        · rw [if_neg e]; exact h4 i hi
      · rw [Ta_set h1 hx hy hi hj]
        split
        · show fc fs.xs m ≤ _
          omega
        · exact h5 i j hi hj
    · have hge' : ¬ fc fs.xs m < Ta n s.xs (fx fs.xs m) (fy fs.xs m) := hge
      refine tot_some (tot_some (tot_some ⟨rfl, h1, h2, fun f hf1 => ?_, h4, h5⟩))
      by_cases e : f = m
      · subst e; simp only; omega
      · exact h3 f (by omega)
  · rintro s ⟨h1, h2, h3, h4, h5⟩
    unfold lychgateref04_Table_L2
    exact tot_ifd (fun hh => (nlt_len hh).elim) (fun _ => tot_some ⟨h1, h2, fun f hf1 => h3 f (by omega), h4, fun i hi => by omega, fun p i j hp => by omega, h5⟩)
theorem table_ok {n : Nat} {fs : Sl Leq} (hf : Fit n fs.xs) (r : Sl Glychgateref04_Leq) (hr : r.xs = fs.xs.map toRf) :
    Tot (lychgateref04_Table n r) fun q => (q.2 = true ∧ q.1.xs.length = n * n ∧ Tab n fs.xs n (Ta n q.1.xs)) ∨ (q.2 = false ∧ ∀ z, ¬ Sol fs.xs z) := by
  have hn2 := hf.n2
  have hnn : n * n ≤ 96 * 96 := Nat.mul_le_mul hn2 hn2
  have hw : IntKind.i64.wrap ((n : Int) * n) = ((n * n : Nat) : Int) := by
    have h2 : ((n * n : Nat) : Int) = (n : Int) * n := by push_cast; rfl
    rw [← h2, wrap_id (by omega) (by omega)]
  unfold lychgateref04_Table
  rw [hw]
  refine tot_bind (tot_eq (gmake_ok (by omega) (by omega) (by omega)) (tot_bind ((start_loop hn2 _ (by rw [List.length_replicate, Int.toNat_natCast])).mono fun y ⟨y1, y2⟩ => tot_bind ((facts_loop hf r hr y y1 y2).mono fun u ⟨u1, u2⟩ => tot_bind ((stages_loop hf u u1 u2).mono ?_)))))
  rintro (t | _) h
  · exact tot_some (.inl ⟨rfl, h.1, h.2⟩)
  · exact tot_some (.inr ⟨rfl, h⟩)
end Go.Px
