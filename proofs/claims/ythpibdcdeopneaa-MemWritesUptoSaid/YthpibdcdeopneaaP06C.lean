/- The plain law of chapter 06, part 3: a memory that keeps what is written. -/
import Derived.Test.YthpibdcdeopneaaP06B
namespace Go.Px
open Go.Proofs
set_option linter.unusedVariables false

def two (c : Gmem_Value) (r : Int) (w : Bool) : Sl Gmem_Block := ⟨[⟨true, ⟨[c, ⟨0, 0, 0⟩], true⟩, ⟨[r, 0], true⟩, ⟨[w, false], true⟩⟩], true⟩
def pp : Gmem_Value := ⟨2, 0, 1⟩
theorem two_ok (c : Gmem_Value) (r : Int) (w : Bool) (h0 : 0 ≤ r) (h1 : r ≤ 5) : MemOk (two c r w) := by
  refine ⟨by simp [two], fun b hb => ?_⟩
  simp only [two, List.mem_singleton] at hb
  subst hb
  refine ⟨rfl, rfl, by simp, fun x hx => ?_⟩
  simp only [List.mem_cons, List.not_mem_nil, or_false] at hx
  rcases hx with rfl | rfl <;> omega
theorem two_mB (c : Gmem_Value) (r : Int) (w : Bool) : mB (two c r w) pp = ⟨true, ⟨[c, ⟨0, 0, 0⟩], true⟩, ⟨[r, 0], true⟩, ⟨[w, false], true⟩⟩ := rfl
theorem two_c (c : Gmem_Value) (r : Int) (w : Bool) : ccode (two c r w) pp = 0 := by
  have h : bcode (two c r w) pp = 0 := by simp [bcode, two_mB, pp, two]
                                          simp [mB]
  simp [ccode, h, two_mB]; simp [pp]
theorem two_r (c : Gmem_Value) (r : Int) (w : Bool) : rdr (two c r w) pp = r := rfl
theorem two_w (c : Gmem_Value) (r : Int) (w : Bool) : wtr (two c r w) pp = w := rfl
theorem two_cel (c : Gmem_Value) (r : Int) (w : Bool) : cel (two c r w) pp = c := rfl
theorem two_begin (c : Gmem_Value) (r : Int) (w x : Bool) : beginF (two c r w) pp x = if w = true ∨ (x = true ∧ 0 < r) then (6, two c r w) else if x then (0, two c r true) else (0, two c (r + 1) w) := by
  unfold beginF
  rw [two_c, two_r, two_w, if_pos rfl, two_mB]
  rfl
theorem two_end (c : Gmem_Value) (r : Int) (w x : Bool) (v : Gmem_Value) : endF (two c r w) pp x v =
    if x then if w then (⟨0, 0, 0⟩, 0, two (plainF v) r false) else (⟨0, 0, 0⟩, 6, two c r w)
    else if r = 0 then (⟨0, 0, 0⟩, 6, two c r w) else if c.Kind = 0 then (⟨0, 0, 0⟩, 4, two c (r - 1) w) else (c, 0, two c (r - 1) w) := by
  unfold endF
  rw [two_c, two_r, two_w, two_cel, if_pos rfl, two_mB]
  rfl
theorem wakes_eq : lychgatelaw06_wakes = some true := by
  unfold lychgatelaw06_wakes
  have ha : allocF ⟨[], false⟩ 0 2 = (pp, true, two ⟨0, 0, 0⟩ 0 false, 3) := by
    unfold allocF
    rw [if_pos (show fits 0 2 by decide)]
    rfl
  rw [mem_New_eq]
  simp only [Option.bind_some]
  rw [Mem.zero.alloc_eq, ha]
  simp only [Option.bind_some]
  rw [show (!true || !decide (pp = (⟨2, 0, 1⟩ : Gmem_Value))) = false from rfl]
  simp only [Bool.false_eq_true, if_false, used_eq, Option.bind_some]
  rw [show decide ((3 : Int) ≠ 3) = false from rfl]
  simp only [Bool.false_eq_true, if_false, Option.bind_some]
  rw [begin_eq _ _ _ (two_ok _ _ _ (by omega) (by omega)), two_begin]
  simp only [Bool.false_eq_true, false_and, or_self, if_false, Option.bind_some, ne_eq, not_true, decide_false]
  rw [end_eq _ _ _ _ (two_ok _ _ _ (by omega) (by omega)), two_end]
  simp only [Bool.false_eq_true, if_false, Option.bind_some]
  rw [if_neg (by omega)]
  simp only [if_true, Option.bind_some]
  rw [begin_eq _ _ _ (two_ok _ _ _ (by omega) (by omega)), two_begin]
  rw [if_neg (by simp)]
  simp only [if_true, Option.bind_some]
  rw [begin_eq _ _ _ (two_ok _ _ _ (by omega) (by omega)), two_begin]
  simp only [true_or, if_true, Option.bind_some]
  rw [end_eq _ _ _ _ (two_ok _ _ _ (by omega) (by omega)), two_end]
  simp only [if_true, Option.bind_some]
  rw [begin_eq _ _ _ (two_ok _ _ _ (by omega) (by omega)), two_begin]
  simp only [Bool.false_eq_true, false_and, or_self, if_false, Option.bind_some]
  rw [end_eq _ _ _ _ (two_ok _ _ _ (by omega) (by omega)), two_end]
  simp only [Bool.false_eq_true, if_false, Option.bind_some]
  rw [if_neg (by omega), show plainF (⟨1, 7, 0⟩ : Gmem_Value) = ⟨1, 7, 0⟩ by simp [plainF], if_neg (by decide)]
  rfl
end Go.Px
