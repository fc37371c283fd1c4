/- DiffMore, plainly. -/
import Derived.Test.YtdpnogldgiomnaaP04E
namespace Go.Px
set_option linter.unusedVariables false

theorem sum4 (l : List Leq) : (l.map fun _ => (1 + 1 + 1 + 1 : Nat)).sum = 4 * l.length := by
  induction l with
  | nil => rfl
  | cons a l ih => simp only [List.map_cons, List.sum_cons, List.length_cons, ih]; omega
theorem fitV_perm {n : Int} {fs gs : List Leq} (h1 : fs.length = gs.length) (h : ∀ f, f ∈ fs ↔ f ∈ gs) : fitV n fs = fitV n gs := by
  unfold fitV
  have : fs.any (fun f => badB f n) = gs.any (fun f => badB f n) := by
    rw [Bool.eq_iff_iff, List.any_eq_true, List.any_eq_true]
    constructor
    · rintro ⟨x, hx, hb⟩; exact ⟨x, (h x).1 hx, hb⟩
    · rintro ⟨x, hx, hb⟩; exact ⟨x, (h x).2 hx, hb⟩
  rw [this, h1]
theorem more_list (a1 : Sl Leq) (hl : a1.xs.length ≤ 1048576) : Tot (loopO (lychgatelaw04_DiffMore_L1 a1) ((⟨[], false⟩ : Sl Leq), IntKind.i64.wrap (a1.len - 1))) fun y => y.xs.length = a1.xs.length ∧ (∀ f, f ∈ y.xs ↔ f ∈ a1.xs) ∧ (y.nn = false → y.xs = []) := by
  have hw : IntKind.i64.wrap (a1.len - 1) = (a1.xs.length : Int) - 1 := wrap_id (by rw [sl_len]; omega) (by rw [sl_len]; omega)
  rw [hw]
  refine tot_loop (fun x : Sl Leq × Int => ∃ k : Nat, k ≤ a1.xs.length ∧ x.2 = (a1.xs.length : Int) - 1 - k ∧ x.1.xs.length = k ∧ (∀ f ∈ x.1.xs, f ∈ a1.xs) ∧ (∀ i, i < a1.xs.length → a1.xs.length - k ≤ i → a1.xs.getD i default ∈ x.1.xs) ∧ (x.1.nn = false → x.1.xs = []))
    (fun x : Sl Leq × Int => (x.2 + 1).toNat) ?_ _ ⟨0, by omega, by simp, rfl, by simp, fun i h1 h2 => by omega, fun _ => rfl⟩
  rintro ⟨s, x⟩ ⟨k, hk, hx, hl2, hs1, hs2, hs3⟩
  simp only at hx hl2 hs1 hs2 hs3
  subst hx
  unfold lychgatelaw04_DiffMore_L1
  refine tot_ifd (fun h0 => ?_) (fun h0 => ?_)
  · have hk1 : k < a1.xs.length := by have : (0 : Int) ≤ (a1.xs.length : Int) - 1 - k := h0; omega
    have hj : a1.xs.length - 1 - k < a1.xs.length := by omega
    have e1 : gidx a1 ((a1.xs.length : Int) - 1 - k) = some (a1.xs.getD (a1.xs.length - 1 - k) default) := fact_gidx (by omega) hj
    refine tot_bind (tot_eq e1 (tot_bind (tot_eq (gapp_ok (by simp [hl2]; omega) (by simp [hl2]; omega)) (tot_some ⟨⟨k + 1, by omega, ?_, ?_, fun f hf => ?_, fun i h1 h2 => ?_, by simp⟩, ?_⟩))))
    · simp only; rw [wrap_id (by omega) (by omega)]; omega
    · simp [hl2]
    · rcases List.mem_append.1 hf with h | h
      · exact hs1 f h
      · simp only [List.mem_cons, List.not_mem_nil, or_false] at h
        subst h; exact getD_mem default hj
    · by_cases e : i = a1.xs.length - 1 - k
      · subst e; simp
      · exact List.mem_append_left _ (hs2 i h1 (by omega))
    · simp only; rw [wrap_id (by omega) (by omega)]; omega
  · have hk1 : k = a1.xs.length := by have : ¬ (0 : Int) ≤ (a1.xs.length : Int) - 1 - k := h0; omega
    subst hk1
    refine tot_some ⟨hl2, fun f => ⟨hs1 f, fun hf => ?_⟩, hs3⟩
    obtain ⟨i, hi, rfl⟩ := List.getElem_of_mem hf
    have := hs2 i hi (by omega)
    rw [List.getD_eq_getElem?_getD, List.getElem?_eq_getElem hi] at this
    exact this
theorem diffMore_law (a0 : Int) (a1 : GSt45) (a2 : Sl Gdiff_Leq) (hw : 1 + ((1 + 1 + 1 + 1) + (1 + 1 + 1 + 1) + 1) + ((a2.xs.map (fun y => (1 + 1 + 1 + 1))).sum + 1) ≤ 1048576) (g0 : (IntKind.i64.min ≤ a0 ∧ a0 ≤ IntKind.i64.max)) (g1 : (((IntKind.i64.min ≤ a1.e0.X ∧ a1.e0.X ≤ IntKind.i64.max) ∧ (IntKind.i64.min ≤ a1.e0.Y ∧ a1.e0.Y ≤ IntKind.i64.max) ∧ (IntKind.i64.min ≤ a1.e0.C ∧ a1.e0.C ≤ IntKind.i64.max)) ∧ ((IntKind.i64.min ≤ a1.e1.X ∧ a1.e1.X ≤ IntKind.i64.max) ∧ (IntKind.i64.min ≤ a1.e1.Y ∧ a1.e1.Y ≤ IntKind.i64.max) ∧ (IntKind.i64.min ≤ a1.e1.C ∧ a1.e1.C ≤ IntKind.i64.max)))) (g2 : ((a2.nn = false → a2.xs = []) ∧ a2.xs.length ≤ maxLen ∧ ∀ y ∈ a2.xs, ((IntKind.i64.min ≤ y.X ∧ y.X ≤ IntKind.i64.max) ∧ (IntKind.i64.min ≤ y.Y ∧ y.Y ≤ IntKind.i64.max) ∧ (IntKind.i64.min ≤ y.C ∧ y.C ≤ IntKind.i64.max)))) : lychgatelaw04_DiffMore a0 a1 a2 = some true := by
  apply tot_val
  have hl : a2.xs.length ≤ 262144 := by
    have h4 : (a2.xs.map (fun y => (1 + 1 + 1 + 1))).sum = 4 * a2.xs.length := sum4 a2.xs
    rw [h4] at hw
    omega
  unfold lychgatelaw04_DiffMore lychgatelaw04_DiffMore_K1
  simp only
  refine tot_bind ((entails_ok a0 a1.e0 a2 (by omega) g2.1).mono fun r1 ⟨p1, p2, p3⟩ => tot_bind ((more_list a2 (by omega)).mono fun y ⟨y1, y2, y3⟩ => tot_bind ((entails_ok a0 a1.e0 y (by omega) y3).mono fun r2 ⟨q1, q2, q3⟩ => ?_)))
  have hsl : Tot (gslice a2 0 (if 3 < a2.len then 3 else a2.len)) fun s => s.xs.length ≤ 3 := by
    refine tot_eq (gslice_ok (by omega) (by rw [sl_len]; split <;> omega) (by rw [sl_len]; split <;> omega)) ?_
    simp only [List.length_drop, List.length_take, sl_len]
    have h5 : (if 3 < (a2.xs.length : Int) then (3 : Int) else a2.xs.length) ≤ 3 := by split <;> omega
    omega
  refine tot_bind (hsl.mono fun s hs => tot_bind (tot_eq (gapp_ok (by simp; omega) (by simp; omega)) (tot_bind (tot_eq (gapp_ok (by simp; omega) (by simp; omega)) (tot_bind ?_)))))
  refine (entails_ok a0 a1.e0 ⟨y.xs ++ [a1.e1] ++ s.xs, _⟩ (by simp; omega) (by simp)).mono fun r3 ⟨t1, t2, t3⟩ => tot_bind (tot_eq wakes_ok ?_)
  have hev : entV a0 a1.e0 a2.xs = entV a0 a1.e0 y.xs := by
    unfold entV
    rw [fitV_perm (fs := a2.xs ++ [a1.e0]) (gs := y.xs ++ [a1.e0]) (by simp [y1]) fun f => by simp [y2]]
  have hent : Ent a2.xs a1.e0 ↔ Ent y.xs a1.e0 := by
    unfold Ent
    constructor
    · intro h z hz; exact h z (sol_mem.2 fun f hf => sol_mem.1 hz f ((y2 f).2 hf))
    · intro h z hz; exact h z (sol_mem.2 fun f hf => sol_mem.1 hz f ((y2 f).1 hf))
  have hc : r1.2 = r2.2 := by rw [p1, q1, hev]
  have hb : r1.1 = r2.1 := by
    by_cases h0 : r1.2 = 0
    · exact Bool.eq_iff_iff.2 ((p3 h0).trans (hent.trans (q3 (hc ▸ h0)).symm))
    · rw [p2 h0, q2 (hc ▸ h0)]
  rw [hb, hc]
  simp only [Bool.not_true, bne_self_eq_false, ne_eq, not_true_eq_false, decide_false, Bool.or_self, Bool.false_eq_true, if_false]
  refine tot_some ?_
  by_cases h0 : r2.2 = 0
  · by_cases h1 : r3.2 = 0
    · cases hr : r2.1 with
      | false => simp
      | true =>
        have hE := (q3 h0).1 hr
        have h3 : r3.1 = true := (t3 h1).2 fun z hz => hE z (sol_mem.2 fun f hf => sol_mem.1 hz f (by simp [hf]))
        simp [h3]
    · simp [h1]
  · simp [h0]
end Go.Px
