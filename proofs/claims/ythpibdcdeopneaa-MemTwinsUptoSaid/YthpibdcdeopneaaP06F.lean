/- The plain law of chapter 06, part 6: one call beside the reference; the two memories side by side. -/
import Derived.Test.YthpibdcdeopneaaP06E
namespace Go.Px
open Go.Proofs
set_option linter.unusedVariables false

variable {bs : Sl Gmem_Block} {used : Int} {live : Sl Bool} {sizes : Sl Int} {cells : Sl Glychgateref06_Cell} {ru : Int} {p : Gmem_Value}
/-- the program's memory and the reference's, after k calls -/
structure Both (bs : Sl Gmem_Block) (used : Int) (live : Sl Bool) (sizes : Sl Int) (cells : Sl Glychgateref06_Cell) (ru : Int) (k : Int) : Prop where
  mem : Mem bs used k
  nn : MemN bs
  r : R bs used live sizes cells ru
theorem Both.zero : Both ⟨[], false⟩ 0 ⟨[], false⟩ ⟨[], false⟩ ⟨[], false⟩ 0 0 := ⟨Mem.zero, fun b hb => by simp at hb, R.zero⟩
theorem lens (p : Gmem_Value) (b : Gmem_Block) : (setB bs p b).xs.length = bs.xs.length := by simp [setB, Sl.set]
theorem Mem.up {bs' : Sl Gmem_Block} {k k' : Int} (h : Mem bs used k) (hk : MemK bs' k') (hle : k' ≤ k + 1) (hl : bs'.xs.length = bs.xs.length) : Mem bs' used (k + 1) := ⟨hk.mono hle, by rw [hl]; exact h.lo, h.hi⟩
theorem step_ref {k : Int} (h : Both bs used live sizes cells ru k) (h0 : 0 ≤ k) (h1 : k ≤ 1000000) (o : Glychgatelaw06_Op) : Tot (lychgatelaw06_step bs used live sizes cells ru o) (fun y => y.1 = true ∧ Both y.2.1 y.2.2.1 y.2.2.2.1 y.2.2.2.2.1 y.2.2.2.2.2.1 y.2.2.2.2.2.2 (k + 1)) := by
  obtain ⟨hm, hn, hr⟩ := h
  have ok := hm.k.ok (show k ≤ 2000000 by omega)
  have hlo := hm.lo
  have hhi := hm.hi
  unfold lychgatelaw06_step
  simp only [lychgatelaw06_val, Option.bind_some]
  refine tot_ifd (fun k1 => ?_) (fun k1 => ?_)
  · rw [hm.alloc_eq]
    simp only [Option.bind_some]
    refine tot_bind ((alloc_ref hr ok o.P.N (by omega) (by omega)).mono ?_)
    rintro ⟨v, b, l', s', c', u'⟩ ⟨e1, e2, e3⟩
    simp only at e1 e2 e3 ⊢
    have ha := hm.alloc (n := o.P.N) h0
    refine tot_some ⟨?_, ⟨ha.k.mono (by omega), ha.lo, ha.hi⟩, hn.alloc_ _ _, e3⟩
    simp [e1, e2, toV]
  refine tot_ifd (fun k2 => ?_) (fun k2 => ?_)
  · rw [free_eq _ _ ok]
    simp only [Option.bind_some]
    refine tot_bind ((free_ref hr ok).mono ?_)
    rintro ⟨r, l'⟩ ⟨e1, e3⟩
    simp only [lychgatelaw06_step_K1] at e1 e3 ⊢
    refine tot_some ⟨by simp [e1], hm.up (hm.k.free_ o.P (by omega)) (by omega) ?_, hn.free_ _, e3⟩
    unfold freeF; split
    · split
      · split
        · rfl
        · exact lens _ _
      · rfl
    · rfl
  refine tot_ifd (fun k3 => ?_) (fun k3 => ?_)
  · rw [begin_eq _ _ _ ok]
    simp only [Option.bind_some]
    refine tot_bind ((begin_ref hr ok o.Write).mono ?_)
    rintro ⟨r, l'⟩ ⟨e1, e3⟩
    simp only [lychgatelaw06_step_K2] at e1 e3 ⊢
    refine tot_some ⟨by simp [e1], hm.up (hm.k.begin_ o.P o.Write (by omega) h0) (by omega) ?_, hn.begin_ _ _, e3⟩
    unfold beginF; split
    · split
      · rfl
      · split <;> exact lens _ _
    · rfl
  refine tot_ifd (fun k4 => ?_) (fun k4 => ?_)
  · rw [end_eq _ _ _ _ ok]
    simp only [Option.bind_some]
    refine tot_bind ((end_ref hr ok o.Write o.V).mono ?_)
    rintro ⟨v, r, l'⟩ ⟨e1, e2, e3⟩
    simp only [lychgatelaw06_step_K3, lychgatelaw06_val, Option.bind_some] at e1 e2 e3 ⊢
    refine tot_some ⟨by simp [e1, e2, toV], hm.up (hm.k.end_ o.P o.Write o.V (by omega)) (by omega) ?_, hn.end_ _ _ _, e3⟩
    unfold endF; split
    · split
      · split
        · exact lens _ _
        · rfl
      · split
        · rfl
        · split <;> exact lens _ _
    · rfl
  refine tot_ifd (fun k5 => ?_) (fun k5 => ?_)
  · rw [lock_eq _ _ ok]
    simp only [Option.bind_some]
    refine tot_bind ((lock_ref hr ok).mono ?_)
    rintro ⟨v, r, l'⟩ ⟨e1, e2, e3⟩
    simp only at e1 e2 e3 ⊢
    refine tot_some ⟨by simp [e1, e2], hm.up (hm.k.lock_ o.P (by omega)) (by omega) ?_, hn.lock_ _, e3⟩
    unfold lockF; split
    · split
      · exact lens _ _
      · rfl
    · rfl
  refine tot_ifd (fun k6 => ?_) (fun k6 => ?_)
  · rw [unlock_eq _ _ ok]
    simp only [Option.bind_some]
    refine tot_bind ((unlock_ref hr ok).mono ?_)
    rintro ⟨r, l'⟩ ⟨e1, e3⟩
    simp only [lychgatelaw06_step_K4] at e1 e3 ⊢
    refine tot_some ⟨by simp [e1], hm.up (hm.k.unlock_ o.P (by omega)) (by omega) ?_, hn.unlock_ _, e3⟩
    unfold unlockF; split
    · exact lens _ _
    · rfl
  exact tot_some ⟨rfl, hm.up hm.k (by omega) rfl, hn, hr⟩
theorem off_succ : ∀ (l : List Gmem_Block) (i : Nat), i < l.length → off l (i + 1) = off l i + (l.getD i default).Cells.xs.length
  | [], _, h => by simp at h
  | b :: l, 0, _ => by simp [off]
  | b :: l, i + 1, h => by
    have := off_succ l i (by simpa using h)
    simp only [off, List.getD_cons_succ] at this ⊢
    omega
theorem same_ref {bl : Sl Gmem_Block} (hb : bl.xs = bs.xs) (h : R bs used live sizes cells ru) (ok : MemOk bs) : Tot (lychgatelaw06_sameMemory bl used live sizes cells ru) (fun y => y = true) := by
  have hl := ok.len
  have hcl := h.clen ok
  have hlen : live.xs.length = bs.xs.length := by rw [h.live]; simp
  have hsl : sizes.xs.length = bs.xs.length := by rw [h.sizes]; simp
  unfold lychgatelaw06_sameMemory
  rw [if_neg (show ¬ (decide (bl.len ≠ live.len) || decide (used ≠ ru)) = true by rw [sl_len, sl_len, hb, hlen]; simp [h.used])]
  have hloop : Tot (loopO (lychgatelaw06_sameMemory_L2 cells bl live sizes) (0, 0)) (fun y => match y with | .a _ => True | .b _ => False) := by
    refine tot_loop (I := fun x => 0 ≤ x.2 ∧ x.2 ≤ (bs.xs.length : Int) ∧ x.1 = (off bs.xs x.2.toNat : Int)) (fun x => ((bs.xs.length : Int) - x.2).toNat) ?_ _ ⟨by simp, by simp, by simp [off]⟩
    rintro ⟨at0, i⟩ ⟨q1, q2, q3⟩
    simp only at q1 q2 q3
    unfold lychgatelaw06_sameMemory_L2
    simp only
    refine tot_ifd (fun hc => ?_) (fun hc => tot_some trivial)
    rw [sl_len, hb] at hc
    have hit : i.toNat < bs.xs.length := by omega
    rw [gidx_ok default q1 (by rw [hb]; exact hc), hb]
    generalize hbd : bs.xs.getD i.toNat default = b
    have hm : b ∈ bs.xs := by rw [← hbd]; exact getD_mem default hit
    obtain ⟨g1, g2, g3, g4⟩ := ok.blk b hm
    have hgb : bs.xs[i.toNat]? = some b := by rw [← hbd, List.getD_eq_getElem?_getD, List.getElem?_eq_getElem hit]; rfl
    have e1 : gidx live i = some b.Live := gidx_some.2 ⟨q1, by rw [h.live, List.getElem?_map, hgb]; rfl⟩
    have e2 : gidx sizes i = some (b.Cells.xs.length : Int) := gidx_some.2 ⟨q1, by rw [h.sizes, List.getElem?_map, hgb]; rfl⟩
    simp only [Option.bind_some, e1, e2, bne_self_eq_false, Bool.false_eq_true, if_false]
    rw [if_neg (show ¬ ((decide (b.Cells.len ≠ (b.Cells.xs.length : Int)) || decide (b.Readers.len ≠ b.Cells.len)) || decide (b.Writer.len ≠ b.Cells.len)) = true by rw [sl_len, sl_len, sl_len, g1, g2]; simp)]
    have hget : ∀ j, j < b.Cells.xs.length → cells.xs[off bs.xs i.toNat + j]? = some (cellAt i.toNat b j) := fun j hj => by
      have := flatc_get bs.xs 0 i.toNat j hit (by rw [hbd]; exact hj)
      rw [h.cells, this, hbd, Nat.zero_add]
    have hoff := off_succ bs.xs i.toNat hit
    rw [hbd] at hoff
    have hbound : b.Cells.xs.length = 0 ∨ off bs.xs i.toNat + b.Cells.xs.length ≤ cells.xs.length := by
      by_cases hz : b.Cells.xs.length = 0
      · exact .inl hz
      · right
        have := (List.getElem?_eq_some_iff.1 (hget (b.Cells.xs.length - 1) (by omega))).1
        omega
    have hin : Tot (loopO (lychgatelaw06_sameMemory_L1 cells b) (at0, 0)) (fun y => match y with | .a z => z = (off bs.xs (i.toNat + 1) : Int) | .b _ => False) := by
      refine tot_loop (I := fun x => 0 ≤ x.2 ∧ x.2 ≤ (b.Cells.xs.length : Int) ∧ x.1 = (off bs.xs i.toNat : Int) + x.2) (fun x => ((b.Cells.xs.length : Int) - x.2).toNat) ?_ _ ⟨by simp, by simp, by simp [q3]⟩
      rintro ⟨a1, j⟩ ⟨r1, r2, r3⟩
      simp only at r1 r2 r3
      unfold lychgatelaw06_sameMemory_L1
      simp only
      refine tot_ifd (fun hc => ?_) (fun hc => tot_some ?_)
      · rw [sl_len] at hc
        have e3 : gidx cells a1 = some (cellAt i.toNat b j.toNat) := gidx_some.2 ⟨by omega, by rw [show a1.toNat = off bs.xs i.toNat + j.toNat by omega]; exact hget j.toNat (by omega)⟩
        rw [e3, gidx_ok default r1 hc, gidx_ok 0 r1 (by omega), gidx_ok false r1 (by omega)]
        simp only [Option.bind_some, lychgatelaw06_val]
        rw [if_neg (show ¬ (!(decide ((⟨(b.Cells.xs.getD j.toNat default).Kind, (b.Cells.xs.getD j.toNat default).N, (b.Cells.xs.getD j.toNat default).Block⟩ : Glychgateref06_Value) = (cellAt i.toNat b j.toNat).V))) = true by simp [cellAt])]
        simp only [Option.bind_some]
        rw [show decide (b.Readers.xs.getD j.toNat 0 ≠ (cellAt i.toNat b j.toNat).Readers) = false from by simp [cellAt]]
        simp only [Bool.false_eq_true, if_false, Option.bind_some]
        rw [show (b.Writer.xs.getD j.toNat false != (cellAt i.toNat b j.toNat).Writer) = false from by simp [cellAt]]
        simp only [Bool.false_eq_true, if_false]
        rw [wrap_id (n := a1 + 1) (by omega) (by omega), wrap_id (n := j + 1) (by omega) (by omega)]
        exact tot_some ⟨⟨by simp only; omega, by simp only; omega, by simp only; omega⟩, by simp only; omega⟩
      · rw [sl_len] at hc
        simp only
        rw [hoff]
        omega
    refine tot_bind (hin.mono ?_)
    rintro (z | z) hz
    · simp only at hz ⊢
      rw [wrap_id (by omega) (by omega)]
      refine tot_some ⟨⟨by simp only; omega, by simp only; omega, ?_⟩, by simp only; omega⟩
      simp only
      rw [hz, show (i + 1).toNat = i.toNat + 1 by omega]
    · exact hz.elim
  obtain ⟨y, hy, hq⟩ := hloop
  rw [hy]
  cases y with
  | a _ => exact tot_some rfl
  | b _ => exact hq.elim
end Go.Px
