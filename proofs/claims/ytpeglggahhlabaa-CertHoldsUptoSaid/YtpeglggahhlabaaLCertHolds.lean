/- CertHolds, plainly. -/
import Derived.Test.YtpeglggahhlabaaP05C
namespace Go.Px
set_option linter.unusedVariables false

theorem certHolds_law (a0 : Sl Int) (a1 : Sl Gdiff_Leq) (hw : ((a0.xs.map (fun y => 1)).sum + 1) + ((a1.xs.map (fun y => (1 + 1 + 1 + 1))).sum + 1) ≤ 1048576) (g0 : ((a0.nn = false → a0.xs = []) ∧ a0.xs.length ≤ maxLen ∧ ∀ y ∈ a0.xs, (IntKind.i64.min ≤ y ∧ y ≤ IntKind.i64.max))) (g1 : ((a1.nn = false → a1.xs = []) ∧ a1.xs.length ≤ maxLen ∧ ∀ y ∈ a1.xs, ((IntKind.i64.min ≤ y.X ∧ y.X ≤ IntKind.i64.max) ∧ (IntKind.i64.min ≤ y.Y ∧ y.Y ≤ IntKind.i64.max) ∧ (IntKind.i64.min ≤ y.C ∧ y.C ≤ IntKind.i64.max)))) : lychgatelaw05_CertHolds a0 a1 = some true := by
  apply tot_val
  have l1 : a1.xs.length ≤ 1048576 := len_of_w a1.xs (fun _ => 1 + 1 + 1 + 1) (fun _ => by omega) _ (by omega)
  unfold lychgatelaw05_CertHolds
  refine tot_bind (tot_eq wakes5_ok ?_)
  simp only [if_true]
  refine tot_bind (tot_bind ((certHolds_ok a0 a1 (by omega)).mono fun b hb => tot_bind ((refs_ok a1 l1).mono fun r hr => tot_bind ((refHolds_ok a0 a1 r hr l1).mono fun d hd => tot_some (tot_some ?_)))))
  rw [bool_eq_of_iff (hb.trans hd.symm)]
  simp
end Go.Px
