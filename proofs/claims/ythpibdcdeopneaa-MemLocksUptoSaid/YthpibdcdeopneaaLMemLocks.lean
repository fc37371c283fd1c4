/- MemLocks, plain: of those who lock a cell just one has it. -/
import Derived.Test.YthpibdcdeopneaaP06C
namespace Go.Px
open Go.Proofs
set_option linter.unusedVariables false

theorem alone : allocF ⟨[], false⟩ 0 1 = (⟨2, 0, 1⟩, true, ⟨[newB 1], true⟩, 2) := by
  unfold allocF
  rw [if_pos (show fits 0 1 by decide)]
  rfl
/-- a memory of one cell -/
def uno (c : Gmem_Value) (w : Bool) : Sl Gmem_Block := ⟨[⟨true, ⟨[c], true⟩, ⟨[0], true⟩, ⟨[w], true⟩⟩], true⟩
def up : Gmem_Value := ⟨2, 0, 1⟩
theorem uno_ok (c : Gmem_Value) (w : Bool) : MemOk (uno c w) := by
  refine ⟨by simp [uno], fun b hb => ?_⟩
  simp only [uno, List.mem_singleton] at hb
  subst hb
  refine ⟨rfl, rfl, by simp, fun x hx => ?_⟩
  simp only [List.mem_singleton] at hx
  subst hx; omega
theorem uno_mB (c : Gmem_Value) (w : Bool) : mB (uno c w) up = ⟨true, ⟨[c], true⟩, ⟨[0], true⟩, ⟨[w], true⟩⟩ := rfl
theorem uno_c (c : Gmem_Value) (w : Bool) : ccode (uno c w) up = 0 := by
  have h : bcode (uno c w) up = 0 := by
    unfold bcode
    rw [if_pos (show up.Kind = 2 from rfl), if_pos (show 1 ≤ up.Block ∧ up.Block ≤ ((uno c w).xs.length : Int) ∧ (mB (uno c w) up).Live = true from ⟨by simp [up], by simp [up, uno], rfl⟩)]
  unfold ccode
  rw [h, if_pos rfl, uno_mB, if_pos (show 0 ≤ up.N ∧ _ from ⟨by simp [up], by simp [up]⟩)]
theorem uno_w (c : Gmem_Value) : wcode (uno c false) up = if c.Kind = 0 then 4 else if c.Kind = 1 then 0 else 1 := by
  unfold wcode
  rw [uno_c, if_pos rfl, if_neg]
  · rfl
  · rintro (h | h)
    · change (0 : Int) < 0 at h; omega
    · cases h
theorem memLocks_law (a0 : Sl Bool) (hw : ((a0.xs.map (fun y => 1)).sum + 1) ≤ 1048576) (g0 : ((a0.nn = false → a0.xs = []) ∧ a0.xs.length ≤ maxLen ∧ ∀ y ∈ a0.xs, True)) : lychgatelaw06_MemLocks a0 = some true := by
  unfold lychgatelaw06_MemLocks
  rw [wakes_eq]
  simp only [Option.bind_some, Bool.not_true, Bool.false_eq_true, if_false, mem_New_eq]
  rw [Mem.zero.alloc_eq, alone]
  simp only [Option.bind_some]
  have e0 : lockF (uno ⟨0, 0, 0⟩ false) up = (false, 4, uno ⟨0, 0, 0⟩ false) := by
    unfold lockF; rw [uno_w, if_pos rfl, if_neg (by omega)]
  have e0' : mem_Memory_Lock ⟨[newB 1], true⟩ 2 ⟨2, 0, 1⟩ = some (false, 4, uno ⟨0, 0, 0⟩ false) := by
    have := lock_eq 2 up (uno_ok ⟨0, 0, 0⟩ false); rw [e0] at this; exact this
  rw [e0']
  simp only [Option.bind_some, ne_eq, not_true, decide_false, Bool.false_eq_true, if_false]
  have e1 : beginF (uno ⟨0, 0, 0⟩ false) up true = (0, uno ⟨0, 0, 0⟩ true) := by
    unfold beginF
    rw [uno_c, if_pos rfl, if_neg]
    · rfl
    · rintro (h | ⟨_, h⟩)
      · cases h
      · change (0 : Int) < 0 at h; omega
  have e2 : endF (uno ⟨0, 0, 0⟩ true) up true ⟨1, 0, 0⟩ = (⟨0, 0, 0⟩, 0, uno ⟨1, 0, 0⟩ false) := by
    unfold endF
    rw [uno_c, if_pos rfl]
    have : plainF (⟨1, 0, 0⟩ : Gmem_Value) = ⟨1, 0, 0⟩ := by simp [plainF]
    rw [this]; rfl
  have e1' := begin_eq 2 up true (uno_ok ⟨0, 0, 0⟩ false)
  rw [e1] at e1'
  have e2' := end_eq 2 up true ⟨1, 0, 0⟩ (uno_ok ⟨0, 0, 0⟩ true)
  rw [e2] at e2'
  change (Option.bind (mem_Memory_Begin (uno ⟨0, 0, 0⟩ false) 2 up true) fun r_41 => Option.bind (mem_Memory_End r_41.2 2 up true ⟨1, 0, 0⟩) _) = _
  rw [e1']
  simp only [Option.bind_some]
  rw [e2']
  simp only [Option.bind_some]
  have hl : Tot (loopO (lychgatelaw06_MemLocks_L1 (⟨2, 0, 1⟩, true, ⟨[newB 1], true⟩, 2) a0) (uno ⟨1, 0, 0⟩ false, false, 0)) (fun y => match y with | .a _ => True | .b _ => False) := by
    refine tot_loop (I := fun x => x.1 = uno ⟨1, bif x.2.1 then 1 else 0, 0⟩ false ∧ 0 ≤ x.2.2 ∧ x.2.2 ≤ (a0.xs.length : Int)) (fun x => ((a0.xs.length : Int) - x.2.2).toNat) ?_ _ ⟨rfl, by simp, by simp⟩
    rintro ⟨m, held, i⟩ ⟨h1, h2, h3⟩
    simp only at h1 h2 h3
    subst h1
    unfold lychgatelaw06_MemLocks_L1
    refine tot_ifd (c := i < a0.len) (fun hc => ?_) (fun hc => tot_some trivial)
    rw [sl_len] at hc
    have hlen := g0.2.1
    simp only [maxLen] at hlen
    rw [gidx_ok false h2 hc]
    simp only [Option.bind_some]
    have eu : unlockF (uno ⟨1, bif held then 1 else 0, 0⟩ false) up = (0, uno ⟨1, 0, 0⟩ false) := by
      unfold unlockF; rw [uno_w, if_neg (show ¬ (1 : Int) = 0 by omega), if_pos rfl, if_pos rfl]; rfl
    have eu' := unlock_eq 2 up (uno_ok ⟨1, bif held then 1 else 0, 0⟩ false)
    rw [eu] at eu'
    have el : lockF (uno ⟨1, bif held then 1 else 0, 0⟩ false) up = (!held, 0, uno ⟨1, 1, 0⟩ false) := by
      unfold lockF; rw [uno_w, if_neg (show ¬ (1 : Int) = 0 by omega), if_pos rfl, if_pos rfl]
      cases held
      · rw [if_pos (show (cel (uno ⟨1, bif false then 1 else 0, 0⟩ false) up).N = 0 from rfl)]; rfl
      · rw [if_neg]
        · rfl
        · intro h; change (1 : Int) = 0 at h; omega
    have el' := lock_eq 2 up (uno_ok ⟨1, bif held then 1 else 0, 0⟩ false)
    rw [el] at el'
    cases hx : a0.xs.getD i.toNat false with
    | false =>
      simp only [Bool.not_false, if_true]
      change Tot (Option.bind (Option.bind (mem_Memory_Unlock _ 2 up) _) _) _
      rw [eu']
      simp only [Option.bind_some, ne_eq, not_true, decide_false, Bool.false_eq_true, if_false]
      rw [wrap_id (by omega) (by omega)]
      exact tot_some ⟨⟨rfl, by simp only; omega, by simp only; omega⟩, by simp only; omega⟩
    | true =>
      simp only [Bool.not_true, Bool.false_eq_true, if_false]
      change Tot (Option.bind (Option.bind (mem_Memory_Lock _ 2 up) _) _) _
      rw [el']
      simp only [Option.bind_some, ne_eq, not_true, decide_false, Bool.false_or]
      rw [show ((!held) == held) = false by cases held <;> rfl]
      simp only [Bool.false_eq_true, if_false, Option.bind_some]
      rw [wrap_id (by omega) (by omega)]
      exact tot_some ⟨⟨rfl, by simp only; omega, by simp only; omega⟩, by simp only; omega⟩
  obtain ⟨y, hy, hq⟩ := hl
  rw [hy]
  cases y with
  | a _ => rfl
  | b _ => exact hq.elim
end Go.Px
