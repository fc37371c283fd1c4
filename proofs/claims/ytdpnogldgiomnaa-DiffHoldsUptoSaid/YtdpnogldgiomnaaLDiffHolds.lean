/- DiffHolds, plainly. -/
import Derived.Test.YtdpnogldgiomnaaP04D
namespace Go.Px
set_option linter.unusedVariables false

theorem diffHolds_law (a0 : Int) (a1 : Sl Gdiff_Leq) (hw : 1 + ((a1.xs.map (fun y => (1 + 1 + 1 + 1))).sum + 1) ≤ 1048576) (g0 : (IntKind.i64.min ≤ a0 ∧ a0 ≤ IntKind.i64.max)) (g1 : ((a1.nn = false → a1.xs = []) ∧ a1.xs.length ≤ maxLen ∧ ∀ y ∈ a1.xs, ((IntKind.i64.min ≤ y.X ∧ y.X ≤ IntKind.i64.max) ∧ (IntKind.i64.min ≤ y.Y ∧ y.Y ≤ IntKind.i64.max) ∧ (IntKind.i64.min ≤ y.C ∧ y.C ≤ IntKind.i64.max)))) : lychgatelaw04_DiffHolds a0 a1 = some true := by
  apply tot_val
  unfold lychgatelaw04_DiffHolds
  refine tot_bind ((solve_ok a0 a1).mono fun r h => tot_bind (tot_eq wakes_ok ?_))
  cases h with
  | unfit h =>
    refine tot_if (fun _ => tot_bind (tot_eq wakes_ok (tot_some rfl))) (fun hh => ?_)
    simp [h] at hh
  | circle c h0 hf hn hC hl =>
    simp only [sl_len, List.length_nil, Int.natCast_zero]
    simp only [Bool.not_true, ne_eq, not_true_eq_false, decide_false, Bool.or_self, Bool.false_eq_true, if_false]
    refine tot_ifd (fun _ => tot_bind (tot_eq (circle_ok (c := ⟨c, true⟩) hf hC hl) (tot_some rfl))) (fun hh => (hh trivial).elim)
  | best v d h0 hf hn hB hl hv =>
    have hn1 := hf.n1
    have hn2 := hf.n2
    have hfl := hf.len
    simp only [sl_len, List.length_nil, hl, Int.natCast_zero]
    simp only [Bool.not_true, ne_eq, not_true_eq_false, decide_false, Bool.or_self, Bool.false_eq_true, if_false, hn, Bool.or_false]
    refine tot_ifd (fun hh => by omega) (fun _ => ?_)
    have e0 : gidx (⟨v, true⟩ : Sl Int) 0 = some (At v 0) := at_gidx (x := 0) hl rfl (by omega)
    have e1 : At v 0 = 0 := by rw [hv 0 (by omega)]; omega
    refine tot_bind (tot_bind (tot_eq e0 (tot_some ?_)))
    rw [e1]
    simp only [not_true_eq_false, decide_false, Bool.false_eq_true, if_false]
    refine tot_bind ?_
    refine (tot_count a1.xs.length (by omega) (fun _ => True) trivial (Q := fun y => match y with | .a _ => True | .b _ => False) ?_ ?_).mono ?_
    · intro j hj _
      unfold lychgatelaw04_DiffHolds_L1
      refine tot_ifd (fun _ => ?_) (fun hh => (hh (lt_len hj)).elim)
      obtain ⟨hx, hy, _, _, hX, hY⟩ := hf.at hj
      have s1 := hB.sol j hj
      have l1 := hB.lo _ hx; have l2 := hB.lo _ hy; have l3 := hB.hi _ hx; have l4 := hB.hi _ hy
      refine tot_bind (tot_eq (fact_gidx rfl hj) (tot_bind (tot_eq (at_gidx hl hX hx) (tot_bind (tot_eq (at_gidx hl hY hy) ?_)))))
      rw [hv _ hx, hv _ hy, wrap_id (by omega) (by omega)]
      refine tot_ifd (fun hh => ?_) (fun _ => tot_some ⟨rfl, trivial⟩)
      have : fc a1.xs j = (a1.xs.getD j default).C := rfl
      omega
    · intro _
      unfold lychgatelaw04_DiffHolds_L1
      exact tot_ifd (fun hh => (nlt_len hh).elim) (fun _ => tot_some trivial)
    · rintro (_ | _) hs
      · exact tot_some rfl
      · exact hs.elim
end Go.Px
