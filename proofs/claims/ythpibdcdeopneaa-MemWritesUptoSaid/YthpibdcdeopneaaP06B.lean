/- The plain law of chapter 06, part 2: what stays true of a memory; new blocks; the beginning. -/
import Derived.Test.YthpibdcdeopneaaP06A
namespace Go.Px
open Go.Proofs
set_option linter.unusedVariables false

def GoodB (b : Gmem_Block) (k : Int) : Prop := b.Readers.xs.length = b.Cells.xs.length ∧ b.Writer.xs.length = b.Cells.xs.length ∧ b.Cells.xs.length ≤ 256 ∧ ∀ r ∈ b.Readers.xs, 0 ≤ r ∧ r ≤ k
/-- as MemOk, with a bound of the readers -/
structure MemK (bs : Sl Gmem_Block) (k : Int) : Prop where
  len : bs.xs.length ≤ 5000
  blk : ∀ b ∈ bs.xs, GoodB b k
theorem GoodB.mono {b : Gmem_Block} {k k' : Int} (h : GoodB b k) (hk : k ≤ k') : GoodB b k' := ⟨h.1, h.2.1, h.2.2.1, fun r hr => ⟨(h.2.2.2 r hr).1, Int.le_trans (h.2.2.2 r hr).2 hk⟩⟩
theorem MemK.mono {bs : Sl Gmem_Block} {k k' : Int} (h : MemK bs k) (hk : k ≤ k') : MemK bs k' := ⟨h.len, fun b hb => (h.blk b hb).mono hk⟩
theorem MemK.ok {bs : Sl Gmem_Block} {k : Int} (h : MemK bs k) (hk : k ≤ 2000000) : MemOk bs := ⟨h.len, fun b hb => (h.blk b hb).mono hk⟩
theorem MemK.set {bs : Sl Gmem_Block} {k : Int} {p : Gmem_Value} {b : Gmem_Block} (h : MemK bs k) (hb : GoodB b k) : MemK (setB bs p b) k := by
  refine ⟨by simpa [setB, Sl.set] using h.len, fun c hc => ?_⟩
  simp only [setB, Sl.set] at hc
  rcases List.mem_or_eq_of_mem_set hc with h1 | rfl
  · exact h.blk c h1
  · exact hb
theorem MemK.goodAt {bs : Sl Gmem_Block} {k : Int} {p : Gmem_Value} (h : MemK bs k) (hk : k ≤ 2000000) (hc : ccode bs p = 0) : GoodB (mB bs p) k := h.blk _ (List.mem_of_getElem? (at_of (h.ok hk) hc).get)
theorem mem_set_or {α : Type} {l : List α} {i : Nat} {x y : α} (h : y ∈ l.set i x) : y ∈ l ∨ y = x := List.mem_or_eq_of_mem_set h
theorem MemK.begin_ {bs : Sl Gmem_Block} {k : Int} (p : Gmem_Value) (w : Bool) (h : MemK bs k) (hk : k ≤ 2000000) (h0 : 0 ≤ k) : MemK (beginF bs p w).2 (k + 1) := by
  unfold beginF
  split
  · rename_i hc
    have g := h.goodAt hk hc
    have a := at_of (h.ok hk) hc
    split
    · exact h.mono (by omega)
    · split
      · refine (h.mono (by omega : k ≤ k + 1)).set ?_
        obtain ⟨g1, g2, g3, g4⟩ := g.mono (by omega : k ≤ k + 1)
        exact ⟨g1, by simpa [Sl.set] using g2, g3, g4⟩
      · refine (h.mono (by omega : k ≤ k + 1)).set ?_
        obtain ⟨g1, g2, g3, g4⟩ := g
        refine ⟨by simpa [Sl.set] using g1, g2, g3, fun r hr => ?_⟩
        simp only [Sl.set] at hr
        have hrd := g4 _ (getD_mem 0 a.readers)
        rcases mem_set_or hr with h1 | rfl
        · have := g4 r h1; omega
        · change 0 ≤ rdr bs p + 1 ∧ rdr bs p + 1 ≤ k + 1
          change 0 ≤ rdr bs p ∧ rdr bs p ≤ k at hrd
          omega
  · exact h.mono (by omega)
theorem MemK.end_ {bs : Sl Gmem_Block} {k : Int} (p : Gmem_Value) (w : Bool) (v : Gmem_Value) (h : MemK bs k) (hk : k ≤ 2000000) : MemK (endF bs p w v).2.2 k := by
  unfold endF
  split
  · rename_i hc
    have g := h.goodAt hk hc
    have a := at_of (h.ok hk) hc
    obtain ⟨g1, g2, g3, g4⟩ := g
    have hrd := g4 _ (getD_mem 0 a.readers)
    change 0 ≤ rdr bs p ∧ rdr bs p ≤ k at hrd
    have gr : rdr bs p ≠ 0 → GoodB { mB bs p with Readers := (mB bs p).Readers.set p.N (rdr bs p - 1) } k := fun hne => by
      refine ⟨by simpa [Sl.set] using g1, g2, g3, fun r hr => ?_⟩
      simp only [Sl.set] at hr
      rcases mem_set_or hr with h1 | rfl
      · exact g4 r h1
      · omega
    split
    · split
      · refine h.set ⟨by simpa [Sl.set] using g1, by simpa [Sl.set] using g2, by simpa [Sl.set] using g3, g4⟩
      · exact h
    · split
      · exact h
      · rename_i hne
        split
        · exact h.set (gr hne)
        · exact h.set (gr hne)
  · exact h
theorem MemK.cells {bs : Sl Gmem_Block} {k : Int} {p : Gmem_Value} {c : Gmem_Value} (h : MemK bs k) (hk : k ≤ 2000000) (hc : ccode bs p = 0) : MemK (setB bs p { mB bs p with Cells := (mB bs p).Cells.set p.N c }) k := by
  obtain ⟨g1, g2, g3, g4⟩ := h.goodAt hk hc
  exact h.set ⟨by simpa [Sl.set] using g1, by simpa [Sl.set] using g2, by simpa [Sl.set] using g3, g4⟩
theorem MemK.lock_ {bs : Sl Gmem_Block} {k : Int} (p : Gmem_Value) (h : MemK bs k) (hk : k ≤ 2000000) : MemK (lockF bs p).2.2 k := by
  unfold lockF
  split
  · rename_i hc
    split
    · exact h.cells hk (wcode_zero hc).1
    · exact h
  · exact h
theorem MemK.unlock_ {bs : Sl Gmem_Block} {k : Int} (p : Gmem_Value) (h : MemK bs k) (hk : k ≤ 2000000) : MemK (unlockF bs p).2 k := by
  unfold unlockF
  split
  · rename_i hc; exact h.cells hk (wcode_zero hc).1
  · exact h
theorem MemK.free_ {bs : Sl Gmem_Block} {k : Int} (p : Gmem_Value) (h : MemK bs k) (hk : k ≤ 2000000) : MemK (freeF bs p).2 k := by
  unfold freeF
  split
  · rename_i hc
    obtain ⟨k1, k2, k3, k4⟩ := bcode_zero hc
    have g := h.blk _ (List.mem_of_getElem? (gidx_some.1 (mB_idx k2 k3)).2)
    split
    · split
      · exact h
      · exact h.set ⟨g.1, g.2.1, g.2.2.1, g.2.2.2⟩
    · exact h
  · exact h
/-- a new block -/
def newB (n : Nat) : Gmem_Block := ⟨true, ⟨List.replicate n ⟨0, 0, 0⟩, true⟩, ⟨List.replicate n 0, true⟩, ⟨List.replicate n false, true⟩⟩
def fits (used n : Int) : Prop := 0 ≤ n ∧ n ≤ 256 ∧ used + n + 1 ≤ 4096
instance (a b : Int) : Decidable (fits a b) := by unfold fits; infer_instance
def allocF (bs : Sl Gmem_Block) (used n : Int) : Gmem_Value × Bool × Sl Gmem_Block × Int :=
  if fits used n then (⟨2, 0, bs.xs.length + 1⟩, true, ⟨bs.xs ++ [newB n.toNat], true⟩, used + n + 1) else (⟨0, 0, 0⟩, false, bs, used)
theorem alloc_eq {bs : Sl Gmem_Block} {used n : Int} (hl : bs.xs.length ≤ 5000) (h0 : 0 ≤ used) (h1 : used ≤ 5000) : mem_Memory_Alloc bs used n = some (allocF bs used n) := by
  unfold mem_Memory_Alloc allocF
  by_cases hn : 0 ≤ n ∧ n ≤ 256
  · obtain ⟨n1, n2⟩ := hn
    rw [wrap_id (n := used + n) (by omega) (by omega), wrap_id (n := used + n + 1) (by omega) (by omega)]
    by_cases h2 : used + n + 1 ≤ 4096
    · rw [if_neg (show ¬ ((decide (n < 0) || decide (256 < n)) || decide (4096 < used + n + 1)) = true by simp only [Bool.or_eq_true, decide_eq_true_eq]; omega), if_pos ⟨n1, n2, h2⟩]
      rw [gmake_ok n1 (by omega) (by omega), gmake_ok n1 (by omega) (by omega), gmake_ok n1 (by omega) (by omega)]
      simp only [Option.bind_some]
      rw [gapp_ok (by simp; omega) (by simp; omega)]
      simp only [Option.bind_some, mem_Memory_Alloc_K1]
      rw [wrap_id (n := n + 1) (by omega) (by omega), wrap_id (n := used + (n + 1)) (by omega) (by omega)]
      simp [newB, sl_len, Int.add_assoc]
    · rw [if_pos (show ((decide (n < 0) || decide (256 < n)) || decide (4096 < used + n + 1)) = true by simp only [Bool.or_eq_true, decide_eq_true_eq]; omega), if_neg (fun h => h2 h.2.2)]
  · rw [if_pos (show ((decide (n < 0) || decide (256 < n)) || _) = true by simp only [Bool.or_eq_true, decide_eq_true_eq]; left; omega), if_neg (fun h => hn ⟨h.1, h.2.1⟩)]
theorem newB_good (n : Nat) (h : n ≤ 256) : GoodB (newB n) 0 := ⟨by simp [newB], by simp [newB], by simp [newB]; omega, fun r hr => by simp [newB] at hr; omega⟩
/-- a memory as a whole: how many cells were made -/
structure Mem (bs : Sl Gmem_Block) (used k : Int) : Prop where
  k : MemK bs k
  lo : (bs.xs.length : Int) ≤ used
  hi : used ≤ 4096
theorem Mem.zero : Mem ⟨[], false⟩ 0 0 := ⟨⟨by simp, by simp⟩, by simp, by simp⟩
theorem Mem.alloc {bs : Sl Gmem_Block} {used k n : Int} (h : Mem bs used k) (h0 : 0 ≤ k) : Mem (allocF bs used n).2.2.1 (allocF bs used n).2.2.2 k := by
  unfold allocF
  split
  · rename_i hf
    have h1 := h.lo
    have h2 := h.hi
    refine ⟨⟨by simp; have := hf.2.2; have := hf.1; omega, fun b hb => ?_⟩, by simp; have := hf.1; omega, hf.2.2⟩
    simp only [List.mem_append, List.mem_singleton] at hb
    rcases hb with hb | rfl
    · exact h.k.blk b hb
    · exact (newB_good _ (by have := hf.2.1; omega)).mono h0
  · exact h
theorem Mem.alloc_eq {bs : Sl Gmem_Block} {used k n : Int} (h : Mem bs used k) : mem_Memory_Alloc bs used n = some (allocF bs used n) := Go.Px.alloc_eq h.k.len (by have := h.lo; omega) (by have := h.hi; omega)
theorem mem_New_eq : mem_New = some ⟨[], false⟩ := rfl
theorem used_eq (bs : Sl Gmem_Block) (u : Int) : mem_Memory_Used bs u = some () := rfl
end Go.Px
