/- DiffSound, plainly. -/
import Derived.Test.YtdpnogldgiomnaaP04E
namespace Go.Px
set_option linter.unusedVariables false

theorem sound_numbers (n : Nat) (hn : n ≤ 30) (a0 s : Sl Int) (hl : n ≤ a0.xs.length) (hs : s = ⟨List.replicate n 0, true⟩) :
    Tot (loopO (lychgatelaw04_DiffSound_L1 a0 s) (s, 0)) fun y => y.xs.length = n ∧ ∀ x, x < n → -1099511627776 ≤ At y.xs x ∧ At y.xs x ≤ 1099511627776 := by
  have hsl : s.xs.length = n := by rw [hs]; simp
  refine tot_count2 s.xs.length (by omega) (fun j y => y.xs.length = n ∧ ∀ x, x < j → -1099511627776 ≤ At y.xs x ∧ At y.xs x ≤ 1099511627776) s ⟨hsl, fun x hx => by omega⟩ ?_ ?_
  · rintro j y hj ⟨k1, k2⟩
    unfold lychgatelaw04_DiffSound_L1
    refine tot_ifd (fun _ => ?_) (fun hh => (hh (lt_len hj)).elim)
    refine tot_bind (tot_eq (at_gidx rfl rfl (by omega)) (tot_bind (tot_eq (at_gidx k1 rfl (by omega)) (tot_bind (tot_eq (gset_ok (by omega) (by simp only; omega)) (tot_some ⟨rfl, by simp [k1], fun x hx => ?_⟩))))))
    simp only [Int.toNat_natCast]
    rw [At_set _ _ _ _ (by omega)]
    by_cases e : x = j
    · rw [if_pos e]
      exact clamp_le (m := 1099511627776) (x := At a0.xs j) (by omega)
    · rw [if_neg e]; exact k2 x (by omega)
  · rintro y ⟨k1, k2⟩
    unfold lychgatelaw04_DiffSound_L1
    refine tot_ifd (fun hh => (nlt_len hh).elim) (fun _ => tot_some ⟨k1, fun x hx => k2 x (by omega)⟩)
def Kept (n : Nat) (z : List Int) (f : Leq) : Prop := (0 ≤ f.X ∧ f.X < n ∧ 0 ≤ f.Y ∧ f.Y < n ∧ -8796093022208 ≤ f.C ∧ f.C ≤ 8796093022208) ∧ At z f.X.toNat ≤ At z f.Y.toNat + f.C
theorem sound_facts (n : Nat) (a0 : Sl Int) (s : Sl Leq) (y : Sl Int) (hn : (if 30 < a0.len then 30 else a0.len) = (n : Int)) (hs : s.xs.length ≤ 500) (hy : y.xs.length = n) (hyb : ∀ x, x < n → -1099511627776 ≤ At y.xs x ∧ At y.xs x ≤ 1099511627776) :
    Tot (loopO (lychgatelaw04_DiffSound_L2 a0 s y) ((⟨[], false⟩ : Sl Leq), 0)) fun q => q.xs.length ≤ 500 ∧ (q.nn = false → q.xs = []) ∧ ∀ f ∈ q.xs, Kept n y.xs f := by
  refine tot_count2 s.xs.length (by omega) (fun j q => q.xs.length ≤ j ∧ (q.nn = false → q.xs = []) ∧ ∀ f ∈ q.xs, Kept n y.xs f) _ ⟨by simp, fun _ => rfl, by simp⟩ ?_ ?_
  · rintro j q hj ⟨k1, k2, k3⟩
    unfold lychgatelaw04_DiffSound_L2
    refine tot_ifd (fun _ => ?_) (fun hh => (hh (lt_len hj)).elim)
    refine tot_bind (tot_bind (tot_eq (fact_gidx rfl hj) ?_))
    generalize s.xs.getD j default = f
    simp only [hn]
    refine tot_bind ?_
    have hcond : Tot (if (((((decide (0 ≤ f.X) && decide (f.X < (n : Int))) && decide (0 ≤ f.Y)) && decide (f.Y < (n : Int))) && decide (f.C ≤ 8796093022208)) && decide ((-8796093022208) ≤ f.C)) = true then
            Option.bind (gidx y f.X) fun x_67 =>
            Option.bind (gidx y f.Y) fun x_71 =>
            some (decide ((IntKind.i64.wrap (x_67 - x_71)) ≤ f.C))
          else
            some false) fun b => b = true → Kept n y.xs f := by
      refine tot_if (fun h => ?_) (fun _ => tot_some (by simp))
      simp only [Bool.and_eq_true, decide_eq_true_eq] at h
      have hx : f.X = (f.X.toNat : Int) := by omega
      have hy' : f.Y = (f.Y.toNat : Int) := by omega
      have b1 := hyb f.X.toNat (by omega)
      have b2 := hyb f.Y.toNat (by omega)
      refine tot_bind (tot_eq (at_gidx hy hx (by omega)) (tot_bind (tot_eq (at_gidx hy hy' (by omega)) (tot_some fun h2 => ?_))))
      rw [wrap_id (by omega) (by omega)] at h2
      have h3 := of_decide_eq_true h2
      unfold Kept
      omega
    refine hcond.mono fun b hb => ?_
    refine tot_bind (tot_ifb (fun hbt => ?_) (fun hbf => ?_))
    · refine tot_bind (tot_eq (gapp_ok (by simp; omega) (by simp; omega)) (tot_some (tot_some (tot_some ⟨rfl, by simp; omega, by simp, fun g hg => ?_⟩))))
      rcases List.mem_append.1 hg with h | h
      · exact k3 g h
      · simp only [List.mem_cons, List.not_mem_nil, or_false] at h
        subst h; exact hb hbt
    · exact tot_some (tot_some (tot_some ⟨rfl, by simp only; omega, k2, k3⟩))
  · rintro q ⟨k1, k2, k3⟩
    unfold lychgatelaw04_DiffSound_L2
    exact tot_ifd (fun hh => (nlt_len hh).elim) (fun _ => tot_some ⟨by simp only; omega, k2, k3⟩)
theorem diffSound_law (a0 : Sl Int) (a1 : Sl Gdiff_Leq) (a2 : Gdiff_Leq) (hw : ((a0.xs.map (fun y => 1)).sum + 1) + ((a1.xs.map (fun y => (1 + 1 + 1 + 1))).sum + 1) + (1 + 1 + 1 + 1) ≤ 1048576) (g0 : ((a0.nn = false → a0.xs = []) ∧ a0.xs.length ≤ maxLen ∧ ∀ y ∈ a0.xs, (IntKind.i64.min ≤ y ∧ y ≤ IntKind.i64.max))) (g1 : ((a1.nn = false → a1.xs = []) ∧ a1.xs.length ≤ maxLen ∧ ∀ y ∈ a1.xs, ((IntKind.i64.min ≤ y.X ∧ y.X ≤ IntKind.i64.max) ∧ (IntKind.i64.min ≤ y.Y ∧ y.Y ≤ IntKind.i64.max) ∧ (IntKind.i64.min ≤ y.C ∧ y.C ≤ IntKind.i64.max)))) (g2 : ((IntKind.i64.min ≤ a2.X ∧ a2.X ≤ IntKind.i64.max) ∧ (IntKind.i64.min ≤ a2.Y ∧ a2.Y ≤ IntKind.i64.max) ∧ (IntKind.i64.min ≤ a2.C ∧ a2.C ≤ IntKind.i64.max))) : lychgatelaw04_DiffSound a0 a1 a2 = some true := by
  apply tot_val
  unfold lychgatelaw04_DiffSound
  refine tot_bind (tot_eq wakes_ok ?_)
  simp only [Bool.not_true, Bool.false_eq_true, if_false]
  obtain ⟨n, hn⟩ : ∃ n : Nat, (if 30 < a0.len then 30 else a0.len) = (n : Int) := by
    refine ⟨(if 30 < a0.len then 30 else a0.len).toNat, ?_⟩
    rw [sl_len]; split <;> omega
  have hn30 : n ≤ 30 := by rw [sl_len] at hn; split at hn <;> omega
  have hnl : n ≤ a0.xs.length := by rw [sl_len] at hn; split at hn <;> omega
  simp only [hn]
  refine tot_ifd (fun _ => tot_some rfl) (fun h1 => ?_)
  have hmk : gmake 8 (n : Int) (0 : Int) = some ⟨List.replicate n 0, true⟩ := by rw [gmake_ok (by omega) (by omega) (by omega)]; simp
  refine tot_bind (tot_eq hmk (tot_bind ((sound_numbers n hn30 a0 _ hnl rfl).mono fun y ⟨hy1, hy2⟩ => tot_bind ?_)))
  have hsl : Tot (gslice a1 0 (if 500 < a1.len then 500 else a1.len)) fun s => s.xs.length ≤ 500 := by
    refine tot_eq (gslice_ok (by omega) (by rw [sl_len]; split <;> omega) (by rw [sl_len]; split <;> omega)) ?_
    simp only [List.length_drop, List.length_take, sl_len]
    have h5 : (if 500 < (a1.xs.length : Int) then (500 : Int) else a1.xs.length) ≤ 500 := by split <;> omega
    omega
  refine hsl.mono fun s hs => tot_bind ((sound_facts n a0 s y hn hs hy1 hy2).mono fun q ⟨q1, q2, q3⟩ => ?_)
  have hfit : Fit n q.xs := ⟨by omega, by omega, by omega, fun f hf => (q3 f hf).1⟩
  have hsol : Sol q.xs (At y.xs) := sol_mem.2 fun f hf => (q3 f hf).2
  refine tot_bind ((solve_ok n q).mono fun r hr => tot_bind ((entails_ok n a2 q (by omega) q2).mono fun e ⟨e1, e2, e3⟩ => ?_))
  cases hr with
  | unfit h => exact absurd (fitV_ok hfit) h
  | circle c _ _ _ hC _ => exact (hC.none hsol).elim
  | best v d _ _ _ hB hl hv =>
    rw [Int.toNat_natCast] at hl
    simp only [sl_len, hl]
    simp only [ne_eq, not_true_eq_false, decide_false, Bool.or_self, Bool.false_eq_true, if_false]
    refine tot_bind (tot_if (fun _ => tot_some (tot_some rfl)) (fun h2 => ?_))
    simp only [Bool.or_eq_true, Bool.not_eq_true', not_or, Bool.not_eq_false, decide_eq_true_eq, Classical.not_not] at h2
    obtain ⟨h3, h4⟩ := h2
    have hE := (e3 h3).1 h4 _ hsol
    have hf2 : fitV n (q.xs ++ [a2]) = 0 := by
      rw [e1] at h3
      unfold entV at h3
      split at h3
      · rename_i h5; exact absurd h3 h5
      · rename_i h5; omega
    obtain ⟨hf3, _⟩ := fit_of hf2
    have hg := hf3.ok a2 (by simp)
    rw [Int.toNat_natCast] at hg
    have b1 := hy2 a2.X.toNat (by omega)
    have b2 := hy2 a2.Y.toNat (by omega)
    refine tot_bind (tot_eq (at_gidx (x := a2.X.toNat) hy1 (by omega) (by omega)) (tot_bind (tot_eq (at_gidx (x := a2.Y.toNat) hy1 (by omega) (by omega)) (tot_some (tot_some ?_)))))
    rw [wrap_id (by omega) (by omega)]
    exact decide_eq_true (by omega)
end Go.Px
