/- MemWrites, plain: a cell holds what was written last, and no other cell is changed. -/
import Derived.Test.YthpibdcdeopneaaP06D
namespace Go.Px
open Go.Proofs
set_option linter.unusedVariables false

/-- two blocks of four cells -/
def mem8 (w : List Gmem_Value) : Sl Gmem_Block := ⟨[⟨true, ⟨w.take 4, true⟩, ⟨[0, 0, 0, 0], true⟩, ⟨[false, false, false, false], true⟩⟩, ⟨true, ⟨w.drop 4, true⟩, ⟨[0, 0, 0, 0], true⟩, ⟨[false, false, false, false], true⟩⟩], true⟩
theorem mem8_k {w : List Gmem_Value} (h : w.length = 8) : MemK (mem8 w) 0 := by
  refine ⟨by simp [mem8], fun b hb => ?_⟩
  simp only [mem8, List.mem_cons, List.not_mem_nil, or_false] at hb
  rcases hb with rfl | rfl
  · exact ⟨by simp [h], by simp [h], by simp; omega, fun r hr => by simp at hr; omega⟩
  · exact ⟨by simp [h], by simp [h], by simp; omega, fun r hr => by simp at hr; omega⟩
theorem mem8_n (w : List Gmem_Value) : MemN (mem8 w) := fun b hb => by
  simp only [mem8, List.mem_cons, List.not_mem_nil, or_false] at hb
  rcases hb with rfl | rfl <;> exact ⟨rfl, rfl, rfl⟩
theorem eight {q : Int} (h0 : 0 ≤ q) (h1 : q < 8) : q = 0 ∨ q = 1 ∨ q = 2 ∨ q = 3 ∨ q = 4 ∨ q = 5 ∨ q = 6 ∨ q = 7 := by omega
theorem list8 {α : Type} {w : List α} (h : w.length = 8) : ∃ a b c d e f g k, w = [a, b, c, d, e, f, g, k] := by
  match w, h with
  | [a, b, c, d, e, f, g, k], _ => exact ⟨a, b, c, d, e, f, g, k, rfl⟩
theorem step8 {w : List Gmem_Value} (hw : w.length = 8) {q : Int} (h0 : 0 ≤ q) (h1 : q < 8) {v : Gmem_Value} (hv : plainF v = v) (B : Int) (hB : B = if 3 < q then 2 else 1) :
    (beginF (mem8 w) ⟨2, q.tmod 4, B⟩ true).1 = 0 ∧ (endF (beginF (mem8 w) ⟨2, q.tmod 4, B⟩ true).2 ⟨2, q.tmod 4, B⟩ true v).2 = (0, mem8 (w.set q.toNat v)) := by
  obtain ⟨a, b, c, d, e, f, g, k, rfl⟩ := list8 hw
  subst hB
  rcases eight h0 h1 with rfl | rfl | rfl | rfl | rfl | rfl | rfl | rfl <;> simp [beginF, endF, ccode, bcode, mB, wtr, rdr, setB, Sl.set, mem8, hv]
theorem same8 {w : List Gmem_Value} (hw : w.length = 8) {r : Sl Gmem_Block} (hr : r.xs = (mem8 w).xs) (n : Bool) : Tot (loopO (lychgatelaw06_MemWrites_L1 r ⟨w, n⟩) 0) (fun y => match y with | .a _ => True | .b _ => False) := by
  obtain ⟨a, b, c, d, e, f, g, k, rfl⟩ := list8 hw
  refine tot_loop (I := fun i => 0 ≤ i ∧ i ≤ 8) (fun i => (8 - i).toNat) ?_ _ ⟨by simp, by simp⟩
  rintro i ⟨q1, q2⟩
  unfold lychgatelaw06_MemWrites_L1
  refine tot_ifd (fun hc => ?_) (fun hc => tot_some trivial)
  rw [wrap_id (n := i + 1) (by omega) (by omega)]
  refine tot_eq (a := Step.next (i + 1)) ?_ ⟨⟨by omega, by omega⟩, by omega⟩
  obtain ⟨xs, nn⟩ := r
  simp only at hr
  subst hr
  rcases eight q1 hc with rfl | rfl | rfl | rfl | rfl | rfl | rfl | rfl <;> simp [gdiv, gmod, gidx, mem8, IntKind.wrap, IntKind.bits, IntKind.signed]
theorem memWrites_law (a0 : Sl Int) (a1 : Sl Int) (hw : ((a0.xs.map (fun y => 1)).sum + 1) + ((a1.xs.map (fun y => 1)).sum + 1) ≤ 1048576) (g0 : ((a0.nn = false → a0.xs = []) ∧ a0.xs.length ≤ maxLen ∧ ∀ y ∈ a0.xs, (IntKind.i64.min ≤ y ∧ y ≤ IntKind.i64.max))) (g1 : ((a1.nn = false → a1.xs = []) ∧ a1.xs.length ≤ maxLen ∧ ∀ y ∈ a1.xs, (IntKind.i64.min ≤ y ∧ y ≤ IntKind.i64.max))) : lychgatelaw06_MemWrites a0 a1 = some true := by
  unfold lychgatelaw06_MemWrites
  have hlen := g0.2.1
  have hlen1 := g1.2.1
  simp only [maxLen] at hlen hlen1
  rw [mem_New_eq, wakes_eq]
  simp only [Option.bind_some, Bool.not_true, Bool.false_eq_true, if_false]
  rw [alloc_eq (by simp) (by simp) (by simp)]
  simp only [Option.bind_some]
  rw [show allocF ⟨[], false⟩ 0 4 = (⟨2, 0, 1⟩, true, ⟨[newB 4], true⟩, 5) from by simp [allocF, fits]]
  simp only
  rw [alloc_eq (by simp) (by simp) (by simp)]
  simp only [Option.bind_some]
  rw [show allocF ⟨[newB 4], true⟩ 5 4 = (⟨2, 0, 2⟩, true, mem8 (List.replicate 8 ⟨0, 0, 0⟩), 10) from by simp [allocF, fits, mem8, newB]]
  simp only
  have hl : Tot (loopO (lychgatelaw06_MemWrites_L2 a0 ((⟨2, 0, 1⟩ : Gmem_Value), true, (⟨[newB 4], true⟩ : Sl Gmem_Block), 5) ((⟨2, 0, 2⟩ : Gmem_Value), true, mem8 (List.replicate 8 ⟨0, 0, 0⟩), 10) a1) (mem8 (List.replicate 8 ⟨0, 0, 0⟩), (⟨List.replicate 8 ⟨0, 0, 0⟩, true⟩ : Sl Gmem_Value), 0)) (fun y => match y with | .a _ => True | .b _ => False) := by
    refine tot_loop (I := fun x => x.2.1.xs.length = 8 ∧ x.1 = mem8 x.2.1.xs ∧ 0 ≤ x.2.2 ∧ x.2.2 ≤ (a0.xs.length : Int)) (fun x => ((a0.xs.length : Int) - x.2.2).toNat) ?_ _ ⟨by simp, rfl, by simp, by simp⟩
    rintro ⟨m, ⟨w, wn⟩, i⟩ ⟨e1, e2, e3, e4⟩
    simp only at e1 e2 e3 e4
    subst e2
    unfold lychgatelaw06_MemWrites_L2
    simp only
    refine tot_ifd (fun hc => ?_) (fun hc => tot_some trivial)
    rw [sl_len] at hc
    rw [gidx_ok 0 e3 hc]
    generalize a0.xs.getD i.toNat 0 = z
    simp only [Option.bind_some]
    have hz : 0 ≤ (if 0 < z then z else 0) := by split <;> omega
    generalize (if 0 < z then z else 0) = z at hz
    have hq0 : 0 ≤ z.tmod 8 := by rw [Int.tmod_eq_emod_of_nonneg hz]; omega
    have hq1 : z.tmod 8 < 8 := by rw [Int.tmod_eq_emod_of_nonneg hz]; omega
    rw [show gmod .i64 z 8 = some (z.tmod 8) from by simp [gmod]]
    generalize z.tmod 8 = q at hq0 hq1
    simp only [Option.bind_some]
    rw [show gmod .i64 q 4 = some (q.tmod 4) from by simp [gmod]]
    refine tot_bind (Tot.mono (Q := fun y => y.Kind = 2 ∧ y.Block = if 3 < q then 2 else 1) ?_ ?_)
    · refine tot_ifd (fun h => tot_some ⟨rfl, by rw [if_pos h]⟩) (fun h => tot_some ⟨rfl, by rw [if_neg h]⟩)
    rintro ⟨K, N, B⟩ ⟨f1, f2⟩
    simp only at f1 f2
    subst f1
    simp only [Option.bind_some]
    refine tot_bind (Tot.mono (Q := fun y => plainF y = y) ?_ ?_)
    · refine tot_ifd (fun h => ?_) (fun h => tot_some ?_)
      · rw [sl_len] at h
        rw [gidx_ok 0 e3 h]
        exact tot_some rfl
      · rfl
    intro v hv
    obtain ⟨s1, s2⟩ := step8 e1 hq0 hq1 hv B f2
    have hk := mem8_k e1
    have hk1 := hk.begin_ ⟨2, q.tmod 4, B⟩ true (by omega) (by omega)
    rw [begin_eq _ _ _ (hk.ok (by omega))]
    simp only [Option.bind_some]
    rw [s1, end_eq _ _ _ _ (hk1.ok (by omega))]
    simp only [Option.bind_some, ne_eq, not_true, decide_false, Bool.false_eq_true, if_false]
    rw [s2]
    simp only [not_true, decide_false, Bool.false_eq_true, if_false]
    rw [gidx_ok default hq0 (by simp only; omega), gset_ok hq0 (by simp only; omega)]
    simp only [Option.bind_some]
    have e5 : (w.set q.toNat v).length = 8 := by simpa using e1
    refine tot_bind ((blocks_eq 10 ((mem8_k e5).ok (by omega)) (mem8_n _)).mono fun r hr => ?_)
    refine tot_bind ((same8 e5 hr wn).mono ?_)
    rintro (y | y) hy
    · simp only
      rw [wrap_id (by omega) (by omega)]
      exact tot_some ⟨⟨e5, rfl, by simp only; omega, by simp only; omega⟩, by simp only; omega⟩
    · exact hy.elim
  obtain ⟨y, hy, hq⟩ := hl
  rw [hy]
  cases y with
  | a _ => rfl
  | b _ => exact hq.elim
end Go.Px
