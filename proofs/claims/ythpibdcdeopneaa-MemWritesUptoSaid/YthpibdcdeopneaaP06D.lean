/- The plain law of chapter 06, part 4: what is told of all blocks. -/
import Derived.Test.YthpibdcdeopneaaP06C
namespace Go.Px
open Go.Proofs
set_option linter.unusedVariables false

def NnB (b : Gmem_Block) : Prop := b.Cells.nn = true ∧ b.Readers.nn = true ∧ b.Writer.nn = true
/-- no part of a block is nil -/
def MemN (bs : Sl Gmem_Block) : Prop := ∀ b ∈ bs.xs, NnB b
theorem MemN.set {bs : Sl Gmem_Block} {p : Gmem_Value} {b : Gmem_Block} (h : MemN bs) (hb : NnB b) : MemN (setB bs p b) := fun c hc => by
  simp only [setB, Sl.set] at hc
  rcases mem_set_or hc with h1 | rfl
  · exact h c h1
  · exact hb
theorem MemN.at_ {bs : Sl Gmem_Block} {p : Gmem_Value} (h : MemN bs) (hb : bcode bs p = 0) : NnB (mB bs p) := by
  obtain ⟨k1, k2, k3, k4⟩ := bcode_zero hb
  exact h _ (List.mem_of_getElem? (gidx_some.1 (mB_idx k2 k3)).2)
theorem MemN.begin_ {bs : Sl Gmem_Block} (p : Gmem_Value) (w : Bool) (h : MemN bs) : MemN (beginF bs p w).2 := by
  unfold beginF
  split
  · rename_i hc
    have g := h.at_ (ccode_zero hc).1
    split
    · exact h
    · split
      · exact h.set ⟨g.1, g.2.1, g.2.2⟩
      · exact h.set ⟨g.1, g.2.1, g.2.2⟩
  · exact h
theorem MemN.end_ {bs : Sl Gmem_Block} (p : Gmem_Value) (w : Bool) (v : Gmem_Value) (h : MemN bs) : MemN (endF bs p w v).2.2 := by
  unfold endF
  split
  · rename_i hc
    have g := h.at_ (ccode_zero hc).1
    split
    · split
      · exact h.set ⟨g.1, g.2.1, g.2.2⟩
      · exact h
    · split
      · exact h
      · split <;> exact h.set ⟨g.1, g.2.1, g.2.2⟩
  · exact h
theorem MemN.lock_ {bs : Sl Gmem_Block} (p : Gmem_Value) (h : MemN bs) : MemN (lockF bs p).2.2 := by
  unfold lockF
  split
  · rename_i hc
    have g := h.at_ (ccode_zero (wcode_zero hc).1).1
    split
    · exact h.set ⟨g.1, g.2.1, g.2.2⟩
    · exact h
  · exact h
theorem MemN.unlock_ {bs : Sl Gmem_Block} (p : Gmem_Value) (h : MemN bs) : MemN (unlockF bs p).2 := by
  unfold unlockF
  split
  · rename_i hc
    have g := h.at_ (ccode_zero (wcode_zero hc).1).1
    exact h.set ⟨g.1, g.2.1, g.2.2⟩
  · exact h
theorem MemN.free_ {bs : Sl Gmem_Block} (p : Gmem_Value) (h : MemN bs) : MemN (freeF bs p).2 := by
  unfold freeF
  split
  · rename_i hc
    have g := h.at_ hc
    split
    · split
      · exact h
      · exact h.set ⟨g.1, g.2.1, g.2.2⟩
    · exact h
  · exact h
theorem MemN.alloc_ {bs : Sl Gmem_Block} (used n : Int) (h : MemN bs) : MemN (allocF bs used n).2.2.1 := by
  unfold allocF
  split
  · intro b hb
    simp only [List.mem_append, List.mem_singleton] at hb
    rcases hb with hb | rfl
    · exact h b hb
    · exact ⟨rfl, rfl, rfl⟩
  · exact h
theorem clone_eq (s : Sl Gmem_Value) (h : s.nn = true) (hl : s.xs.length ≤ 256) : slices_Clone s = some s := by
  unfold slices_Clone
  rw [h]
  simp only [Bool.not_true, Bool.false_eq_true, if_false]
  rw [gapp_ok (by simp; omega) (by simp; omega)]
  obtain ⟨xs, nn⟩ := s
  simp only at h; subst h
  simp
theorem clone_eq2 (s : Sl Int) (h : s.nn = true) (hl : s.xs.length ≤ 256) : slices_Clone_v2 s = some s := by
  unfold slices_Clone_v2
  rw [h]
  simp only [Bool.not_true, Bool.false_eq_true, if_false]
  rw [gapp_ok (by simp; omega) (by simp; omega)]
  obtain ⟨xs, nn⟩ := s
  simp only at h; subst h
  simp
theorem clone_eq3 (s : Sl Bool) (h : s.nn = true) (hl : s.xs.length ≤ 256) : slices_Clone_v3 s = some s := by
  unfold slices_Clone_v3
  rw [h]
  simp only [Bool.not_true, Bool.false_eq_true, if_false]
  rw [gapp_ok (by simp; omega) (by simp; omega)]
  obtain ⟨xs, nn⟩ := s
  simp only at h; subst h
  simp
theorem blocks_eq {bs : Sl Gmem_Block} (u : Int) (ok : MemOk bs) (hn : MemN bs) : Tot (mem_Memory_Blocks bs u) (fun r => r.xs = bs.xs) := by
  unfold mem_Memory_Blocks
  have hl := ok.len
  refine tot_bind (Tot.mono (Q := fun r => r.xs = bs.xs) ?_ fun r hr => tot_some hr)
  refine tot_loop (I := fun x => x.1.xs = bs.xs.take x.2.toNat ∧ 0 ≤ x.2 ∧ x.2 ≤ (bs.xs.length : Int)) (fun x => ((bs.xs.length : Int) - x.2).toNat) ?_ _ ⟨by simp, by simp, by simp⟩
  rintro ⟨r, i⟩ ⟨h1, h2, h3⟩
  simp only at h1 h2 h3
  unfold mem_Memory_Blocks_L1
  refine tot_ifd (c := i < bs.len) (fun hc => ?_) (fun hc => tot_some ?_)
  · rw [sl_len] at hc
    have hit : i.toNat < bs.xs.length := by omega
    rw [gidx_ok default h2 hc]
    have hm := getD_mem default hit
    obtain ⟨q1, q2, q3, q4⟩ := ok.blk _ hm
    obtain ⟨n1, n2, n3⟩ := hn _ hm
    simp only [Option.bind_some]
    rw [clone_eq _ n1 q3]
    simp only [Option.bind_some]
    rw [clone_eq2 _ n2 (by omega)]
    simp only [Option.bind_some]
    rw [clone_eq3 _ n3 (by omega)]
    simp only [Option.bind_some]
    have hlen : r.xs.length = i.toNat := by rw [h1]; simp; omega
    rw [gapp_ok (by simp [hlen]; omega) (by simp [hlen]; omega), wrap_id (by omega) (by omega)]
    simp only [Option.bind_some]
    refine tot_some ⟨⟨?_, by simp only; omega, by simp only; omega⟩, by simp only; omega⟩
    simp only
    rw [show (i + 1).toNat = i.toNat + 1 by omega, List.take_succ_eq_append_getElem hit, h1]
    rw [List.getD_eq_getElem?_getD, List.getElem?_eq_getElem hit]
    rfl
  · rw [sl_len] at hc
    simp only
    rw [h1, show i.toNat = bs.xs.length by omega, List.take_length]
end Go.Px
