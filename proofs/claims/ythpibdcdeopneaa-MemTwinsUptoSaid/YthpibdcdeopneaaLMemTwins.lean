/- MemTwins, plain: two memories have nothing to do with one another; a nil one refuses; what is told is new. -/
import Derived.Test.YthpibdcdeopneaaP06F
namespace Go.Px
open Go.Proofs
set_option linter.unusedVariables false

variable {bs : Sl Gmem_Block} {used : Int} {live : Sl Bool} {sizes : Sl Int} {cells : Sl Glychgateref06_Cell} {ru : Int} {p : Gmem_Value}
theorem Both.up {k k' : Int} (h : Both bs used live sizes cells ru k) (hk : k ≤ k') : Both bs used live sizes cells ru k' := ⟨⟨h.mem.k.mono hk, h.mem.lo, h.mem.hi⟩, h.nn, h.r⟩
theorem nil_cell : mem_Memory_cell_v2 ⟨2, 0, 1⟩ = some 2 := by simp [mem_Memory_cell_v2, mem_Memory_block_v2]
theorem nil_whole : mem_Memory_whole_v2 ⟨2, 0, 1⟩ = some 2 := by simp [mem_Memory_whole_v2, nil_cell]
theorem nil_end (w : Bool) (v : Gmem_Value) : mem_Memory_End_v2 ⟨2, 0, 1⟩ w v = some 2 := by simp [mem_Memory_End_v2, nil_cell]
theorem nil_lock : mem_Memory_Lock_v2 ⟨2, 0, 1⟩ = some 2 := by simp [mem_Memory_Lock_v2, nil_whole]
theorem nil_free : mem_Memory_Free_v2 ⟨2, 0, 1⟩ = some 2 := by simp [mem_Memory_Free_v2, mem_Memory_block_v2]
theorem nil_unlock : mem_Memory_Unlock_v2 ⟨2, 0, 1⟩ = some 2 := by simp [mem_Memory_Unlock_v2, nil_whole]
theorem nil_begin : mem_Memory_Begin_v2 ⟨0, 0, 0⟩ true = some 1 := by simp [mem_Memory_Begin_v2, mem_Memory_cell_v2, mem_Memory_block_v2]
/-- the parts of every block are of one length -/
def Lens (l : List Gmem_Block) : Prop := ∀ b ∈ l, b.Readers.xs.length = b.Cells.xs.length ∧ b.Writer.xs.length = b.Cells.xs.length ∧ b.Cells.xs.length ≤ 256
theorem twins_L2 {x : Sl Gmem_Block × Int} {b : Gmem_Block} (h : b.Readers.xs.length = b.Cells.xs.length ∧ b.Writer.xs.length = b.Cells.xs.length ∧ b.Cells.xs.length ≤ 256) :
    Tot (loopO (lychgatelaw06_MemTwins_L2 x b) (b.Cells, b.Readers, b.Writer, 0)) (fun y => ∃ b', y = x.1.set x.2 b' ∧ b'.Readers.xs.length = b'.Cells.xs.length ∧ b'.Writer.xs.length = b'.Cells.xs.length ∧ b'.Cells.xs.length ≤ 256) := by
  obtain ⟨g1, g2, g3⟩ := h
  refine tot_loop (I := fun y => y.1.xs.length = b.Cells.xs.length ∧ y.2.1.xs.length = b.Cells.xs.length ∧ y.2.2.1.xs.length = b.Cells.xs.length ∧ 0 ≤ y.2.2.2 ∧ y.2.2.2 ≤ (b.Cells.xs.length : Int)) (fun y => ((b.Cells.xs.length : Int) - y.2.2.2).toNat) ?_ _ ⟨rfl, g1, g2, by simp, by simp⟩
  rintro ⟨c, r, w, i⟩ ⟨q1, q2, q3, q4, q5⟩
  simp only at q1 q2 q3 q4 q5
  unfold lychgatelaw06_MemTwins_L2
  simp only
  refine tot_ifd (fun hc => ?_) (fun hc => tot_some ⟨_, rfl, by simp only; omega, by simp only; omega, by simp only; omega⟩)
  rw [sl_len] at hc
  rw [gidx_ok default q4 (by omega), gset_ok q4 (by omega), gidx_ok 0 q4 (by omega), gset_ok q4 (by omega), gidx_ok false q4 (by omega), gset_ok q4 (by omega)]
  simp only [Option.bind_some, lychgatelaw06_MemTwins_K1]
  rw [wrap_id (by omega) (by omega)]
  exact tot_some ⟨⟨by simpa using q1, by simpa using q2, by simpa using q3, by simp only; omega, by simp only; omega⟩, by simp only; omega⟩
theorem twins_L3 {r : Sl Gmem_Block} (h : Lens r.xs) (hl : r.xs.length ≤ 5000) : Tot (loopO (lychgatelaw06_MemTwins_L3 r) (r, 0)) (fun y => True) := by
  refine tot_loop (I := fun y => y.1.xs.length = r.xs.length ∧ Lens y.1.xs ∧ 0 ≤ y.2 ∧ y.2 ≤ (r.xs.length : Int)) (fun y => ((r.xs.length : Int) - y.2).toNat) ?_ _ ⟨rfl, h, by simp, by simp⟩
  rintro ⟨c, i⟩ ⟨q1, q2, q3, q4⟩
  simp only at q1 q2 q3 q4
  unfold lychgatelaw06_MemTwins_L3
  simp only
  refine tot_ifd (fun hc => ?_) (fun hc => tot_some trivial)
  rw [sl_len] at hc
  rw [gidx_ok default q3 (by omega)]
  simp only [Option.bind_some]
  refine tot_bind ((twins_L2 (q2 _ (getD_mem default (by omega)))).mono ?_)
  rintro y ⟨b', rfl, hb⟩
  rw [wrap_id (by omega) (by omega)]
  refine tot_some ⟨⟨by simpa [Sl.set] using q1, fun d hd => ?_, by simp only; omega, by simp only; omega⟩, by simp only; omega⟩
  simp only [Sl.set] at hd
  rcases List.mem_or_eq_of_mem_set hd with h1 | rfl
  · exact q2 d h1
  · exact hb
theorem memTwins_law (a0 : Sl Glychgatelaw06_Op) (a1 : Sl Glychgatelaw06_Op) (hw : ((a0.xs.map (fun y => (1 + (1 + 1 + 1 + 1) + (1 + 1 + 1 + 1) + 1 + 1))).sum + 1) + ((a1.xs.map (fun y => (1 + (1 + 1 + 1 + 1) + (1 + 1 + 1 + 1) + 1 + 1))).sum + 1) ≤ 1048576) (g0 : ((a0.nn = false → a0.xs = []) ∧ a0.xs.length ≤ maxLen ∧ ∀ y ∈ a0.xs, ((IntKind.i64.min ≤ y.Kind ∧ y.Kind ≤ IntKind.i64.max) ∧ ((IntKind.i64.min ≤ y.P.Kind ∧ y.P.Kind ≤ IntKind.i64.max) ∧ (IntKind.i64.min ≤ y.P.N ∧ y.P.N ≤ IntKind.i64.max) ∧ (IntKind.i64.min ≤ y.P.Block ∧ y.P.Block ≤ IntKind.i64.max)) ∧ ((IntKind.i64.min ≤ y.V.Kind ∧ y.V.Kind ≤ IntKind.i64.max) ∧ (IntKind.i64.min ≤ y.V.N ∧ y.V.N ≤ IntKind.i64.max) ∧ (IntKind.i64.min ≤ y.V.Block ∧ y.V.Block ≤ IntKind.i64.max)) ∧ True))) (g1 : ((a1.nn = false → a1.xs = []) ∧ a1.xs.length ≤ maxLen ∧ ∀ y ∈ a1.xs, ((IntKind.i64.min ≤ y.Kind ∧ y.Kind ≤ IntKind.i64.max) ∧ ((IntKind.i64.min ≤ y.P.Kind ∧ y.P.Kind ≤ IntKind.i64.max) ∧ (IntKind.i64.min ≤ y.P.N ∧ y.P.N ≤ IntKind.i64.max) ∧ (IntKind.i64.min ≤ y.P.Block ∧ y.P.Block ≤ IntKind.i64.max)) ∧ ((IntKind.i64.min ≤ y.V.Kind ∧ y.V.Kind ≤ IntKind.i64.max) ∧ (IntKind.i64.min ≤ y.V.N ∧ y.V.N ≤ IntKind.i64.max) ∧ (IntKind.i64.min ≤ y.V.Block ∧ y.V.Block ≤ IntKind.i64.max)) ∧ True))) : lychgatelaw06_MemTwins a0 a1 = some true := by
  unfold lychgatelaw06_MemTwins
  rw [mem_New_eq, wakes_eq, nil_end, nil_lock, nil_free, nil_unlock, nil_begin]
  have hlen := g0.2.1
  have hlen1 := g1.2.1
  simp only [maxLen] at hlen hlen1
  simp only [mem_Memory_Alloc_v2, mem_Memory_Blocks_v2, mem_Memory_Used_v2, Option.bind_some, Bool.not_true, Bool.or_false, Bool.false_eq_true, if_false, ne_eq, not_true, decide_false]
  have hl : Tot (loopO (lychgatelaw06_MemTwins_L1 a0 a1) (⟨[], false⟩, 0, ⟨[], false⟩, 0, ⟨[], false⟩, ⟨[], false⟩, ⟨[], false⟩, 0, ⟨[], false⟩, ⟨[], false⟩, ⟨[], false⟩, 0, 0)) (fun y => match y with
      | .a x => Both x.1 x.2.1 x.2.2.2.2.1 x.2.2.2.2.2.1 x.2.2.2.2.2.2.1 x.2.2.2.2.2.2.2.1 1000 ∧ Both x.2.2.1 x.2.2.2.1 x.2.2.2.2.2.2.2.2.1 x.2.2.2.2.2.2.2.2.2.1 x.2.2.2.2.2.2.2.2.2.2.1 x.2.2.2.2.2.2.2.2.2.2.2 1000
      | .b _ => False) := by
    refine tot_loop (I := fun x => Both x.1 x.2.1 x.2.2.2.2.1 x.2.2.2.2.2.1 x.2.2.2.2.2.2.1 x.2.2.2.2.2.2.2.1 x.2.2.2.2.2.2.2.2.2.2.2.2 ∧ Both x.2.2.1 x.2.2.2.1 x.2.2.2.2.2.2.2.2.1 x.2.2.2.2.2.2.2.2.2.1 x.2.2.2.2.2.2.2.2.2.2.1 x.2.2.2.2.2.2.2.2.2.2.2.1 x.2.2.2.2.2.2.2.2.2.2.2.2 ∧ 0 ≤ x.2.2.2.2.2.2.2.2.2.2.2.2 ∧ x.2.2.2.2.2.2.2.2.2.2.2.2 ≤ 200) (fun x => (200 - x.2.2.2.2.2.2.2.2.2.2.2.2).toNat) ?_ _ ⟨Both.zero, Both.zero, by simp, by simp⟩
    rintro ⟨m, u, m2, u2, l, s, c, r, l2, s2, c2, r2, i⟩ ⟨h1, h2, h3, h4⟩
    simp only at h1 h2 h3 h4
    unfold lychgatelaw06_MemTwins_L1
    simp only
    refine tot_if (fun hc => ?_) (fun hc => tot_some ⟨h1.up (by omega), h2.up (by omega)⟩)
    simp only [Bool.and_eq_true, decide_eq_true_eq] at hc
    have h5 := hc.1
    refine tot_bind (Tot.mono (Q := fun y => y.2.2.2.2.2.2 = false ∧ Both y.1 y.2.1 y.2.2.1 y.2.2.2.1 y.2.2.2.2.1 y.2.2.2.2.2.1 (i + 1)) ?_ ?_)
    · refine tot_ifd (fun hq => ?_) (fun hq => tot_some ⟨rfl, h1.up (by omega)⟩)
      rw [sl_len] at hq
      rw [gidx_ok default h3 hq]
      simp only [Option.bind_some]
      refine tot_bind ((step_ref h1 h3 (by omega) (a0.xs.getD i.toNat default)).mono ?_)
      rintro ⟨b, m', used', l', s', c', u'⟩ ⟨rfl, h2⟩
      exact tot_some ⟨rfl, h2⟩
    rintro ⟨n, v, l, s, c, r, b⟩ ⟨rfl, h1⟩
    simp only [Bool.false_eq_true, if_false] at h1 ⊢
    refine tot_bind (Tot.mono (Q := fun y => y.2.2.2.2.2.2 = false ∧ Both y.1 y.2.1 y.2.2.1 y.2.2.2.1 y.2.2.2.2.1 y.2.2.2.2.2.1 (i + 1)) ?_ ?_)
    · refine tot_bind (Tot.mono (Q := fun y => y.2.2.2.2.2.2 = false ∧ Both y.1 y.2.1 y.2.2.1 y.2.2.2.1 y.2.2.2.2.1 y.2.2.2.2.2.1 (i + 1)) ?_ (fun y hy => tot_some hy))
      refine tot_ifd (fun hq => ?_) (fun hq => tot_some ⟨rfl, h2.up (by omega)⟩)
      rw [sl_len] at hq
      rw [gidx_ok default h3 hq]
      simp only [Option.bind_some]
      refine tot_bind ((step_ref h2 h3 (by omega) (a1.xs.getD i.toNat default)).mono ?_)
      rintro ⟨b, m', used', l', s', c', u'⟩ ⟨rfl, h2⟩
      exact tot_some ⟨rfl, h2⟩
    rintro ⟨n2, v2, l2, s2, c2, r2, b⟩ ⟨rfl, h2⟩
    simp only [Bool.false_eq_true, if_false] at h2 ⊢
    rw [wrap_id (by omega) (by omega)]
    exact tot_some ⟨⟨h1, h2, by simp only; omega, by simp only; omega⟩, by simp only; omega⟩
  obtain ⟨y, hy, hq⟩ := hl
  rw [hy]
  cases y with
  | b _ => exact hq.elim
  | a x =>
    obtain ⟨h1, h2⟩ := hq
    have ok1 := h1.mem.k.ok (by omega)
    have ok2 := h2.mem.k.ok (by omega)
    obtain ⟨r1, e1, x1⟩ := blocks_eq x.2.1 ok1 h1.nn
    obtain ⟨r2, e2, x2⟩ := blocks_eq x.2.2.2.1 ok2 h2.nn
    obtain ⟨z, e3, _⟩ := twins_L3 (r := r1) (by rw [x1]; exact fun b hb => ⟨(ok1.blk b hb).1, (ok1.blk b hb).2.1, (ok1.blk b hb).2.2.1⟩) (by rw [x1]; exact ok1.len)
    obtain ⟨_, e4, rfl⟩ := same_ref x1 h1.r ok1
    obtain ⟨_, e5, rfl⟩ := same_ref x2 h2.r ok2
    simp only [Option.bind_some, e1, e2, e3, e4, e5, used_eq, if_true]
end Go.Px
