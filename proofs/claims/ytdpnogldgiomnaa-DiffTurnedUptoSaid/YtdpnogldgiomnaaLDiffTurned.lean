/- DiffTurned, plainly. -/
import Derived.Test.YtdpnogldgiomnaaP04D
namespace Go.Px
set_option linter.unusedVariables false

theorem sol_mem {fs : List Leq} {z : Nat → Int} : Sol fs z ↔ ∀ f ∈ fs, z f.X.toNat ≤ z f.Y.toNat + f.C := by
  constructor
  · intro h f hf
    obtain ⟨i, hi, rfl⟩ := List.getElem_of_mem hf
    have := h i hi
    unfold fx fy fc at this
    rw [List.getD_eq_getElem?_getD, List.getElem?_eq_getElem hi] at this
    exact this
  · intro h i hi
    exact h _ (getD_mem default hi)
theorem fitV_same {n : Int} {fs gs : List Leq} (h1 : fs.length ≤ 768) (h2 : gs.length ≤ 768) (h : ∀ f, f ∈ fs ↔ f ∈ gs) : fitV n fs = fitV n gs := by
  unfold fitV
  rw [if_neg (show ¬ 768 < fs.length by omega), if_neg (show ¬ 768 < gs.length by omega)]
  have : fs.any (fun f => badB f n) = gs.any (fun f => badB f n) := by
    rw [Bool.eq_iff_iff, List.any_eq_true, List.any_eq_true]
    constructor
    · rintro ⟨x, hx, hb⟩; exact ⟨x, (h x).1 hx, hb⟩
    · rintro ⟨x, hx, hb⟩; exact ⟨x, (h x).2 hx, hb⟩
  rw [this]
theorem turn_list (a1 : Sl Leq) (hl : a1.xs.length ≤ 384) : Tot (loopO (lychgatelaw04_DiffTurned_L1 a1) ((⟨[], false⟩ : Sl Leq), IntKind.i64.wrap (a1.len - 1))) fun y => y.xs.length = 2 * a1.xs.length ∧ ∀ f, f ∈ y.xs ↔ f ∈ a1.xs := by
  have hw : IntKind.i64.wrap (a1.len - 1) = (a1.xs.length : Int) - 1 := wrap_id (by rw [sl_len]; omega) (by rw [sl_len]; omega)
  rw [hw]
  refine tot_loop (fun x : Sl Leq × Int => ∃ k : Nat, k ≤ a1.xs.length ∧ x.2 = (a1.xs.length : Int) - 1 - k ∧ x.1.xs.length = 2 * k ∧ (∀ f ∈ x.1.xs, f ∈ a1.xs) ∧ ∀ i, i < a1.xs.length → a1.xs.length - k ≤ i → a1.xs.getD i default ∈ x.1.xs)
    (fun x : Sl Leq × Int => (x.2 + 1).toNat) ?_ _ ⟨0, by omega, by simp, rfl, by simp, fun i h1 h2 => by omega⟩
  rintro ⟨s, x⟩ ⟨k, hk, hx, hl2, hs1, hs2⟩
  simp only at hx hl2 hs1 hs2
  subst hx
  unfold lychgatelaw04_DiffTurned_L1
  refine tot_ifd (fun h0 => ?_) (fun h0 => ?_)
  · have hk1 : k < a1.xs.length := by have : (0 : Int) ≤ (a1.xs.length : Int) - 1 - k := h0; omega
    have hj : a1.xs.length - 1 - k < a1.xs.length := by omega
    have e1 : gidx a1 ((a1.xs.length : Int) - 1 - k) = some (a1.xs.getD (a1.xs.length - 1 - k) default) := fact_gidx (by omega) hj
    refine tot_bind (tot_eq e1 (tot_bind (tot_eq e1 (tot_bind (tot_eq (gapp_ok (by simp [hl2]; omega) (by simp [hl2]; omega)) (tot_some ⟨⟨k + 1, by omega, ?_, ?_, fun f hf => ?_, fun i h1 h2 => ?_⟩, ?_⟩))))))
    · simp only; rw [wrap_id (by omega) (by omega)]; omega
    · simp [hl2]; omega
    · rcases List.mem_append.1 hf with h | h
      · exact hs1 f h
      · simp only [List.mem_cons, List.not_mem_nil, or_false, or_self] at h
        subst h; exact getD_mem default hj
    · by_cases e : i = a1.xs.length - 1 - k
      · subst e; simp
      · exact List.mem_append_left _ (hs2 i h1 (by omega))
    · simp only; rw [wrap_id (by omega) (by omega)]; omega
  · have hk1 : k = a1.xs.length := by have : ¬ (0 : Int) ≤ (a1.xs.length : Int) - 1 - k := h0; omega
    subst hk1
    refine tot_some ⟨hl2, fun f => ⟨hs1 f, fun hf => ?_⟩⟩
    obtain ⟨i, hi, rfl⟩ := List.getElem_of_mem hf
    have := hs2 i hi (by omega)
    rw [List.getD_eq_getElem?_getD, List.getElem?_eq_getElem hi] at this
    exact this
theorem turned_loop (r s : Sl Int × Sl Int × Int) (hl : r.1.xs.length = s.1.xs.length) (hb : r.1.xs.length ≤ 96) (he : ∀ x, x < r.1.xs.length → At r.1.xs x = At s.1.xs x) :
    Tot (loopO (lychgatelaw04_DiffTurned_L2 r s) 0) (fun y => match y with | .a _ => True | .b _ => False) := by
  refine tot_count r.1.xs.length (by omega) (fun _ => True) trivial ?_ ?_
  · intro j hj _
    unfold lychgatelaw04_DiffTurned_L2
    refine tot_ifd (fun _ => ?_) (fun hh => (hh (lt_len hj)).elim)
    refine tot_bind (tot_eq (at_gidx rfl rfl hj) (tot_bind (tot_eq (at_gidx rfl rfl (by omega)) ?_)))
    exact tot_ifd (fun hh => absurd (he j hj) hh) (fun _ => tot_some ⟨rfl, trivial⟩)
  · intro _
    unfold lychgatelaw04_DiffTurned_L2
    exact tot_ifd (fun hh => (nlt_len hh).elim) (fun _ => tot_some trivial)
theorem diffTurned_law (a0 : Int) (a1 : Sl Gdiff_Leq) (hw : 1 + ((a1.xs.map (fun y => (1 + 1 + 1 + 1))).sum + 1) ≤ 1048576) (g0 : (IntKind.i64.min ≤ a0 ∧ a0 ≤ IntKind.i64.max)) (g1 : ((a1.nn = false → a1.xs = []) ∧ a1.xs.length ≤ maxLen ∧ ∀ y ∈ a1.xs, ((IntKind.i64.min ≤ y.X ∧ y.X ≤ IntKind.i64.max) ∧ (IntKind.i64.min ≤ y.Y ∧ y.Y ≤ IntKind.i64.max) ∧ (IntKind.i64.min ≤ y.C ∧ y.C ≤ IntKind.i64.max)))) : lychgatelaw04_DiffTurned a0 a1 = some true := by
  apply tot_val
  unfold lychgatelaw04_DiffTurned
  refine tot_bind (tot_eq wakes_ok (tot_if (c := (!true || decide (384 < a1.len)) = true) (fun _ => tot_bind (tot_eq wakes_ok (tot_some rfl))) (fun hh => ?_)))
  have hl : a1.xs.length ≤ 384 := by
    have h2 : ¬ 384 < a1.len := fun h => hh (by rw [decide_eq_true h]; rfl)
    rw [sl_len] at h2
    omega
  refine tot_bind ((turn_list a1 hl).mono fun y ⟨hy1, hy2⟩ => ?_)
  have hsame : fitV a0 a1.xs = fitV a0 y.xs := fitV_same (by omega) (by omega) fun f => (hy2 f).symm
  have hsol : ∀ z, Sol a1.xs z ↔ Sol y.xs z := fun z => by
    rw [sol_mem, sol_mem]
    exact ⟨fun h f hf => h f ((hy2 f).1 hf), fun h f hf => h f ((hy2 f).2 hf)⟩
  refine tot_bind ((solve_ok a0 a1).mono fun r hr => tot_bind ((solve_ok a0 y).mono fun s hs => ?_))
  have fin : ∀ (r s : Sl Int × Sl Int × Int), r.2.2 = s.2.2 → r.1.xs.length = s.1.xs.length → decide (0 < r.2.1.len) = decide (0 < s.2.1.len) → r.1.xs.length ≤ 96 → (∀ x, x < r.1.xs.length → At r.1.xs x = At s.1.xs x) →
      (s.2.1.len = 0 ∨ lychgatelaw04_circle y s.2.1 = some true) → Tot (
    if ((decide (r.2.2 ≠ s.2.2) || decide (r.1.len ≠ s.1.len)) || ((decide (0 < r.2.1.len)) != (decide (0 < s.2.1.len)))) then
      some false
    else
      Option.bind (loopO (lychgatelaw04_DiffTurned_L2 r s) 0) fun y_88 =>
      match y_88 with
      | .a y_89 =>
        Option.bind (if decide (s.2.1.len = 0) then
            some true
          else
            Option.bind (lychgatelaw04_circle y s.2.1) fun r_94 =>
            some r_94) fun b_93 =>
        some b_93
      | .b y_103 =>
        some false) fun b => b = true := by
    intro r s h1 h2 h3 h4 h5 h6
    rw [h1, h3, sl_len r.1, h2, ← sl_len s.1]
    simp only [ne_eq, not_true_eq_false, decide_false, Bool.or_self, bne_self_eq_false, Bool.false_eq_true, if_false]
    refine tot_bind ((turned_loop r s h2 h4 h5).mono ?_)
    rintro (_ | _) hs
    · refine tot_bind (tot_ifd (fun _ => tot_some (tot_some rfl)) (fun hh => ?_))
      rcases h6 with h6 | h6
      · exact absurd h6 hh
      · exact tot_bind (tot_eq h6 (tot_some (tot_some rfl)))
    · exact hs.elim
  cases hr with
  | unfit h =>
    cases hs with
    | unfit h' => exact fin _ _ hsame rfl rfl (by simp) (by simp) (.inl rfl)
    | circle c h0 _ _ _ _ => exact absurd (hsame.trans h0) h
    | best v d h0 _ _ _ _ _ => exact absurd (hsame.trans h0) h
  | circle c h0 hf hn hC hcl =>
    have hne := hC.ne
    cases hs with
    | unfit h' => exact absurd (hsame.symm.trans h0) h'
    | circle c' h0' hf' _ hC' hcl' =>
      have hne' := hC'.ne
      refine fin _ _ rfl rfl ?_ (by simp) (by simp) (.inr (circle_ok (c := ⟨c', true⟩) hf' hC' hcl'))
      rw [decide_eq_true (show 0 < Sl.len (⟨c, true⟩ : Sl Int) by rw [sl_len]; simp only; omega), decide_eq_true (show 0 < Sl.len (⟨c', true⟩ : Sl Int) by rw [sl_len]; simp only; omega)]
    | best v d _ _ _ hB _ _ => exact (hC.none ((hsol _).2 hB.isSol)).elim
  | best v d h0 hf hn hB hl1 hv =>
    have hn2 := hf.n2
    have hn1 := hf.n1
    cases hs with
    | unfit h' => exact absurd (hsame.symm.trans h0) h'
    | circle c' _ _ _ hC' _ => exact (hC'.none ((hsol _).1 hB.isSol)).elim
    | best v' d' _ _ _ hB' hl1' hv' =>
      have hdd : ∀ x, x < a0.toNat → At d x = At d' x := fun x hx => Int.le_antisymm (hB'.up _ ((hsol _).1 hB.isSol) hB.hi x hx) (hB.up _ ((hsol _).2 hB'.isSol) hB'.hi x hx)
      refine fin _ _ rfl (hl1.trans hl1'.symm) rfl (by simp only [hl1]; omega) (fun x hx => ?_) (.inl rfl)
      simp only [hl1] at hx ⊢
      rw [hv x hx, hv' x hx, hdd x hx, hdd 0 (by omega)]
end Go.Px
