/- MemPlays, plain: every answer of every script is the reference's, and so are all blocks behind each call. -/
import Derived.Test.YthpibdcdeopneaaP06F
namespace Go.Px
open Go.Proofs
set_option linter.unusedVariables false

theorem memPlays_law (a0 : Sl Glychgatelaw06_Op) (hw : ((a0.xs.map (fun y => (1 + (1 + 1 + 1 + 1) + (1 + 1 + 1 + 1) + 1 + 1))).sum + 1) ≤ 1048576) (g0 : ((a0.nn = false → a0.xs = []) ∧ a0.xs.length ≤ maxLen ∧ ∀ y ∈ a0.xs, ((IntKind.i64.min ≤ y.Kind ∧ y.Kind ≤ IntKind.i64.max) ∧ ((IntKind.i64.min ≤ y.P.Kind ∧ y.P.Kind ≤ IntKind.i64.max) ∧ (IntKind.i64.min ≤ y.P.N ∧ y.P.N ≤ IntKind.i64.max) ∧ (IntKind.i64.min ≤ y.P.Block ∧ y.P.Block ≤ IntKind.i64.max)) ∧ ((IntKind.i64.min ≤ y.V.Kind ∧ y.V.Kind ≤ IntKind.i64.max) ∧ (IntKind.i64.min ≤ y.V.N ∧ y.V.N ≤ IntKind.i64.max) ∧ (IntKind.i64.min ≤ y.V.Block ∧ y.V.Block ≤ IntKind.i64.max)) ∧ True))) : lychgatelaw06_MemPlays a0 = some true := by
  unfold lychgatelaw06_MemPlays
  rw [mem_New_eq, wakes_eq]
  simp only [Option.bind_some, Bool.not_true, Bool.false_eq_true, if_false]
  have hlen := g0.2.1
  simp only [maxLen] at hlen
  have hmin : ∃ n : Nat, (if 300 < a0.len then 300 else a0.len) = (n : Int) ∧ n ≤ 300 ∧ n ≤ a0.xs.length := by
    rw [sl_len]
    split
    · exact ⟨300, rfl, by omega, by omega⟩
    · exact ⟨a0.xs.length, rfl, by omega, by omega⟩
  obtain ⟨n, hn, hn1, hn2⟩ := hmin
  rw [hn, gslice_ok (by omega) (by omega) (by omega)]
  simp only [Option.bind_some, Int.toNat_zero, List.drop_zero, Int.toNat_natCast]
  generalize hsx : (⟨a0.xs.take n, a0.nn⟩ : Sl Glychgatelaw06_Op) = sx
  have hsl : sx.xs.length ≤ 300 := by rw [← hsx]; simp; omega
  have hl : Tot (loopO (lychgatelaw06_MemPlays_L1 sx) (⟨[], false⟩, 0, ⟨[], false⟩, ⟨[], false⟩, ⟨[], false⟩, 0, 0)) (fun y => match y with | .a _ => True | .b _ => False) := by
    refine tot_loop (I := fun x => Both x.1 x.2.1 x.2.2.1 x.2.2.2.1 x.2.2.2.2.1 x.2.2.2.2.2.1 x.2.2.2.2.2.2 ∧ 0 ≤ x.2.2.2.2.2.2 ∧ x.2.2.2.2.2.2 ≤ (sx.xs.length : Int)) (fun x => ((sx.xs.length : Int) - x.2.2.2.2.2.2).toNat) ?_ _ ⟨Both.zero, by simp, by simp⟩
    rintro ⟨m, used, l, s, c, u, i⟩ ⟨h1, h3, h4⟩
    simp only at h1 h3 h4
    unfold lychgatelaw06_MemPlays_L1
    simp only
    refine tot_ifd (fun hc => ?_) (fun hc => tot_some trivial)
    rw [sl_len] at hc
    rw [gidx_ok default h3 hc]
    simp only [Option.bind_some]
    refine tot_bind ((step_ref h1 h3 (by omega) (sx.xs.getD i.toNat default)).mono ?_)
    rintro ⟨b, m', used', l', s', c', u'⟩ ⟨rfl, h2⟩
    simp only [Bool.not_true, Bool.false_eq_true, if_false] at h2 ⊢
    have ok := h2.mem.k.ok (show i + 1 ≤ 2000000 by omega)
    refine tot_bind (Tot.mono (Q := fun y => y = false) (tot_bind ((blocks_eq used' ok h2.nn).mono fun r hr => ?_)) ?_)
    · rw [used_eq]
      simp only [Option.bind_some]
      refine tot_bind ((same_ref hr h2.r ok).mono ?_)
      rintro y rfl
      exact tot_some rfl
    · rintro y rfl
      simp only [Bool.false_eq_true, if_false]
      rw [wrap_id (by omega) (by omega)]
      exact tot_some ⟨⟨h2, by simp only; omega, by simp only; omega⟩, by simp only; omega⟩
  obtain ⟨y, hy, hq⟩ := hl
  rw [hy]
  cases y with
  | a _ => rfl
  | b _ => exact hq.elim
end Go.Px
