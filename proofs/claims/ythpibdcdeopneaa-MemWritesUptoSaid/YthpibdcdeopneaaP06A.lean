/- The plain law of chapter 06, part 1: what each call on a memory does. -/
import Derived.Test.YthpibdcdeopneaaMd
import Derived.Test.YthpibdcdeopneaaC9
namespace Go.Px
open Go.Proofs
set_option linter.unusedVariables false

/-- the block that a pointer names -/
noncomputable def mB (bs : Sl Gmem_Block) (p : Gmem_Value) : Gmem_Block := bs.xs.getD (p.Block - 1).toNat default
/-- why the block can't be used (0: it can) -/
noncomputable def bcode (bs : Sl Gmem_Block) (p : Gmem_Value) : Int := if p.Kind = 2 then (if 1 ≤ p.Block ∧ p.Block ≤ bs.xs.length ∧ (mB bs p).Live = true then 0 else 2) else 1
/-- the same of the cell -/
noncomputable def ccode (bs : Sl Gmem_Block) (p : Gmem_Value) : Int := if bcode bs p = 0 then (if 0 ≤ p.N ∧ p.N < (mB bs p).Cells.xs.length then 0 else 3) else bcode bs p
/-- a memory's blocks are as many as may be, and their parts are of one length -/
structure MemOk (bs : Sl Gmem_Block) : Prop where
  len : bs.xs.length ≤ 5000
  blk : ∀ b ∈ bs.xs, b.Readers.xs.length = b.Cells.xs.length ∧ b.Writer.xs.length = b.Cells.xs.length ∧ b.Cells.xs.length ≤ 256 ∧ ∀ r ∈ b.Readers.xs, 0 ≤ r ∧ r ≤ 2000000
theorem bcode_zero {bs : Sl Gmem_Block} {p : Gmem_Value} (h : bcode bs p = 0) : p.Kind = 2 ∧ 1 ≤ p.Block ∧ p.Block ≤ bs.xs.length ∧ (mB bs p).Live = true := by
  unfold bcode at h
  split at h
  · rename_i h1
    split at h
    · rename_i h2; exact ⟨h1, h2⟩
    · cases h
  · cases h
theorem mB_idx {bs : Sl Gmem_Block} {p : Gmem_Value} (h1 : 1 ≤ p.Block) (h2 : p.Block ≤ bs.xs.length) : gidx bs (p.Block - 1) = some (mB bs p) := gidx_ok _ (by omega) (by omega)
theorem block_eq {bs : Sl Gmem_Block} (u : Int) (p : Gmem_Value) (hl : bs.xs.length ≤ 5000) : mem_Memory_block bs u p = some (if bcode bs p = 0 then some (p.Block - 1) else none, bcode bs p) := by
  unfold mem_Memory_block
  by_cases h1 : p.Kind = 2
  · rw [if_neg (by simp [h1])]
    by_cases h2 : 1 ≤ p.Block ∧ p.Block ≤ bs.xs.length
    · obtain ⟨h2, h3⟩ := h2
      rw [wrap_id (by omega) (by omega), mB_idx h2 h3]
      rw [if_neg (show ¬ (decide (p.Block < 1) || decide (bs.len < p.Block)) = true by simp only [Bool.or_eq_true, decide_eq_true_eq]; rw [sl_len]; omega)]
      cases hv : (mB bs p).Live <;> simp [bcode, h1, h2, h3, hv]
    · rw [if_pos (show (decide (p.Block < 1) || decide (bs.len < p.Block)) = true by simp only [Bool.or_eq_true, decide_eq_true_eq]; rw [sl_len]; omega)]
      have : ¬ (1 ≤ p.Block ∧ p.Block ≤ bs.xs.length ∧ (mB bs p).Live = true) := fun h => h2 ⟨h.1, h.2.1⟩
      simp [bcode, h1, this]
  · rw [if_pos (by simp [h1])]
    simp [bcode, h1]
theorem ccode_zero {bs : Sl Gmem_Block} {p : Gmem_Value} (h : ccode bs p = 0) : bcode bs p = 0 ∧ 0 ≤ p.N ∧ p.N < (mB bs p).Cells.xs.length := by
  unfold ccode at h
  split at h
  · rename_i h1
    split at h
    · rename_i h2; exact ⟨h1, h2⟩
    · cases h
  · rename_i h1; exact absurd h h1
theorem cell_eq {bs : Sl Gmem_Block} (u : Int) (p : Gmem_Value) (hl : bs.xs.length ≤ 5000) : mem_Memory_cell bs u p = some (if ccode bs p = 0 then some (p.Block - 1) else none, ccode bs p) := by
  unfold mem_Memory_cell
  rw [block_eq u p hl]
  simp only [Option.bind_some]
  by_cases h0 : bcode bs p = 0
  · obtain ⟨h1, h2, h3, h4⟩ := bcode_zero h0
    simp only [h0, decide_true, if_true, mB_idx h2 h3]
    by_cases hn : p.N < 0
    · have : ¬ (0 ≤ p.N ∧ p.N < (mB bs p).Cells.xs.length) := fun h => by omega
      simp [hn, ccode, h0, this]
    · by_cases hc : p.N < (mB bs p).Cells.xs.length
      · have : 0 ≤ p.N ∧ p.N < (mB bs p).Cells.xs.length := ⟨by omega, hc⟩
        simp only [hn, decide_false, Bool.false_eq_true, if_false, Option.bind_some, mB_idx h2 h3]
        rw [decide_eq_false (show ¬ (mB bs p).Cells.len ≤ p.N by rw [sl_len]; omega)]
        simp [ccode, h0, this]
      · have : ¬ (0 ≤ p.N ∧ p.N < (mB bs p).Cells.xs.length) := fun h => hc h.2
        simp only [hn, decide_false, Bool.false_eq_true, if_false, Option.bind_some, mB_idx h2 h3]
        rw [decide_eq_true (show (mB bs p).Cells.len ≤ p.N by rw [sl_len]; omega)]
        simp [ccode, h0, this]
  · simp [h0, ccode]
/-- what is known where the cell is one -/
structure At (bs : Sl Gmem_Block) (p : Gmem_Value) (i : Nat) (j : Nat) (b : Gmem_Block) : Prop where
  kind : p.Kind = 2
  blk : p.Block = i + 1
  lt : i < bs.xs.length
  get : bs.xs[i]? = some b
  idx : gidx bs (p.Block - 1) = some b
  live : b.Live = true
  n : p.N = j
  cells : j < b.Cells.xs.length
  readers : j < b.Readers.xs.length
  writer : j < b.Writer.xs.length
theorem at_of {bs : Sl Gmem_Block} {p : Gmem_Value} (ok : MemOk bs) (h : ccode bs p = 0) : At bs p (p.Block - 1).toNat p.N.toNat (mB bs p) := by
  obtain ⟨h0, h1, h2⟩ := ccode_zero h
  obtain ⟨k1, k2, k3, k4⟩ := bcode_zero h0
  have hg := mB_idx k2 k3
  have hget := (gidx_some.1 hg).2
  obtain ⟨q1, q2, q3, q4⟩ := ok.blk _ (List.mem_of_getElem? hget)
  exact ⟨k1, by omega, by omega, hget, hg, k4, by omega, by omega, by omega, by omega⟩
/-- the block with one part changed -/
noncomputable def setB (bs : Sl Gmem_Block) (p : Gmem_Value) (b : Gmem_Block) : Sl Gmem_Block := Sl.set bs (p.Block - 1) b
noncomputable def rdr (bs : Sl Gmem_Block) (p : Gmem_Value) : Int := (mB bs p).Readers.xs.getD p.N.toNat 0
noncomputable def wtr (bs : Sl Gmem_Block) (p : Gmem_Value) : Bool := (mB bs p).Writer.xs.getD p.N.toNat false
noncomputable def cel (bs : Sl Gmem_Block) (p : Gmem_Value) : Gmem_Value := (mB bs p).Cells.xs.getD p.N.toNat default
noncomputable def beginF (bs : Sl Gmem_Block) (p : Gmem_Value) (w : Bool) : Int × Sl Gmem_Block :=
  if ccode bs p = 0 then
    if wtr bs p = true ∨ (w = true ∧ 0 < rdr bs p) then (6, bs)
    else if w then (0, setB bs p { mB bs p with Writer := (mB bs p).Writer.set p.N true })
    else (0, setB bs p { mB bs p with Readers := (mB bs p).Readers.set p.N (rdr bs p + 1) })
  else (ccode bs p, bs)
theorem gset_eq {α : Type} {s : Sl α} {i : Int} {v : α} (h0 : 0 ≤ i) (h1 : i < s.xs.length) : gset s i v = some (s.set i v) := gset_ok h0 h1
theorem begin_eq {bs : Sl Gmem_Block} (u : Int) (p : Gmem_Value) (w : Bool) (ok : MemOk bs) : mem_Memory_Begin bs u p w = some (beginF bs p w) := by
  unfold mem_Memory_Begin
  rw [cell_eq u p ok.len]
  simp only [Option.bind_some]
  unfold beginF
  by_cases h : ccode bs p = 0
  · have a := at_of ok h
    have hN := a.n
    have e1 : gidx (mB bs p).Writer p.N = some (wtr bs p) := gidx_ok _ (by omega) (by have := a.writer; omega)
    have e2 : gidx (mB bs p).Readers p.N = some (rdr bs p) := gidx_ok _ (by omega) (by have := a.readers; omega)
    have e3 : gset (mB bs p).Writer p.N true = some ((mB bs p).Writer.set p.N true) := gset_eq (by omega) (by have := a.writer; omega)
    have hb := (ok.blk _ (List.mem_of_getElem? a.get)).2.2.2
    have hr : 0 ≤ rdr bs p ∧ rdr bs p ≤ 2000000 := hb _ (getD_mem 0 a.readers)
    have e4 : gset (mB bs p).Readers p.N (rdr bs p + 1) = some ((mB bs p).Readers.set p.N (rdr bs p + 1)) := gset_eq (by omega) (by have := a.readers; omega)
    simp only [h, ne_eq, not_true, decide_false, Bool.false_eq_true, if_false, if_true, Option.bind_some, a.idx, e1, e2, e3, wrap_id (show -9223372036854775808 ≤ rdr bs p + 1 by omega) (by omega), e4]
    generalize wtr bs p = ww
    generalize rdr bs p = rr
    generalize ccode bs p = cc at h
    cases ww with
    | true => simp [h]
    | false => cases w with
      | true =>
        by_cases h2 : 0 < rr
        · simp [h, h2]
        · simp [h, h2, setB]
      | false => simp [h, setB]
  · simp [h]

theorem gidx_set {α : Type} {s : Sl α} {i : Int} {x y : α} (h : gidx s i = some y) : gidx (s.set i x) i = some x := by
  obtain ⟨h0, h1⟩ := gidx_some.1 h
  obtain ⟨h2, _⟩ := List.getElem?_eq_some_iff.1 h1
  refine gidx_some.2 ⟨h0, ?_⟩
  simp [Sl.set, h2]
theorem sset_sset {α : Type} (s : Sl α) (i : Int) (x y : α) : (s.set i x).set i y = s.set i y := by simp [Sl.set]
noncomputable def plainF (v : Gmem_Value) : Gmem_Value := if v.Kind = 1 then ⟨v.Kind, v.N, 0⟩ else if v.Kind = 2 then v else ⟨0, 0, 0⟩
theorem plain_eq (v : Gmem_Value) : mem_Value_plain v = some (plainF v) := by
  unfold mem_Value_plain plainF
  by_cases h1 : v.Kind = 1
  · simp [h1]
  · by_cases h2 : v.Kind = 2
    · simp [h2]
    · simp [h1, h2]
noncomputable def endF (bs : Sl Gmem_Block) (p : Gmem_Value) (w : Bool) (v : Gmem_Value) : Gmem_Value × Int × Sl Gmem_Block :=
  if ccode bs p = 0 then
    if w then
      if wtr bs p then (⟨0, 0, 0⟩, 0, setB bs p { mB bs p with Writer := (mB bs p).Writer.set p.N false, Cells := (mB bs p).Cells.set p.N (plainF v) })
      else (⟨0, 0, 0⟩, 6, bs)
    else if rdr bs p = 0 then (⟨0, 0, 0⟩, 6, bs)
    else if (cel bs p).Kind = 0 then (⟨0, 0, 0⟩, 4, setB bs p { mB bs p with Readers := (mB bs p).Readers.set p.N (rdr bs p - 1) })
    else (cel bs p, 0, setB bs p { mB bs p with Readers := (mB bs p).Readers.set p.N (rdr bs p - 1) })
  else (⟨0, 0, 0⟩, ccode bs p, bs)
theorem end_eq {bs : Sl Gmem_Block} (u : Int) (p : Gmem_Value) (w : Bool) (v : Gmem_Value) (ok : MemOk bs) : mem_Memory_End bs u p w v = some (endF bs p w v) := by
  unfold mem_Memory_End
  rw [cell_eq u p ok.len]
  simp only [Option.bind_some]
  unfold endF
  by_cases h : ccode bs p = 0
  · have a := at_of ok h
    have hN := a.n
    have e1 : gidx (mB bs p).Writer p.N = some (wtr bs p) := gidx_ok _ (by omega) (by have := a.writer; omega)
    have e2 : gidx (mB bs p).Readers p.N = some (rdr bs p) := gidx_ok _ (by omega) (by have := a.readers; omega)
    have e3 : gset (mB bs p).Writer p.N false = some ((mB bs p).Writer.set p.N false) := gset_eq (by omega) (by have := a.writer; omega)
    have e5 : gidx (mB bs p).Cells p.N = some (cel bs p) := gidx_ok _ (by omega) (by have := a.cells; omega)
    have e6 : gset (mB bs p).Cells p.N (plainF v) = some ((mB bs p).Cells.set p.N (plainF v)) := gset_eq (by omega) (by have := a.cells; omega)
    have hb := (ok.blk _ (List.mem_of_getElem? a.get)).2.2.2
    have hr : 0 ≤ rdr bs p ∧ rdr bs p ≤ 2000000 := hb _ (getD_mem 0 a.readers)
    have e4 : gset (mB bs p).Readers p.N (rdr bs p - 1) = some ((mB bs p).Readers.set p.N (rdr bs p - 1)) := gset_eq (by omega) (by have := a.readers; omega)
    have e7 : ∀ b', gidx (Sl.set bs (p.Block - 1) b') (p.Block - 1) = some b' := fun b' => gidx_set a.idx
    simp only [h, ne_eq, not_true, decide_false, Bool.false_eq_true, if_false, if_true, Option.bind_some, a.idx, e1, e2, e3, e5, e7, plain_eq, e6, wrap_id (show -9223372036854775808 ≤ rdr bs p - 1 by omega) (by omega), e4, mem_Memory_End_K1, sset_sset]
    generalize wtr bs p = ww
    generalize rdr bs p = rr
    generalize (cel bs p) = cc
    cases w with
    | true => cases ww <;> simp [setB]
    | false =>
      by_cases h2 : rr = 0
      · simp [h2]
      · by_cases h3 : cc.Kind = 0 <;> simp [h2, h3, setB]
  · simp [h]
noncomputable def wcode (bs : Sl Gmem_Block) (p : Gmem_Value) : Int :=
  if ccode bs p = 0 then
    if 0 < rdr bs p ∨ wtr bs p = true then 6 else if (cel bs p).Kind = 0 then 4 else if (cel bs p).Kind = 1 then 0 else 1
  else ccode bs p
theorem busy_eq (l : Bool) (c : Sl Gmem_Value) (r : Sl Int) (w : Sl Bool) (i : Int) (h0 : 0 ≤ i) (h1 : i < r.xs.length) (h2 : i < w.xs.length) : mem_Block_busy l c r w i = some (decide (0 < r.xs.getD i.toNat 0) || w.xs.getD i.toNat false) := by
  unfold mem_Block_busy
  rw [gidx_ok 0 h0 h1, gidx_ok false h0 h2]
  simp only [Option.bind_some]
  cases h : decide (0 < r.xs.getD i.toNat 0) <;> simp
theorem whole_eq {bs : Sl Gmem_Block} (u : Int) (p : Gmem_Value) (ok : MemOk bs) : mem_Memory_whole bs u p = some (if wcode bs p = 0 then some (p.Block - 1) else none, wcode bs p) := by
  unfold mem_Memory_whole
  rw [cell_eq u p ok.len]
  simp only [Option.bind_some]
  unfold wcode
  by_cases h : ccode bs p = 0
  · have a := at_of ok h
    have hN := a.n
    have e5 : gidx (mB bs p).Cells p.N = some (cel bs p) := gidx_ok _ (by omega) (by have := a.cells; omega)
    have e8 := busy_eq (mB bs p).Live (mB bs p).Cells (mB bs p).Readers (mB bs p).Writer p.N (by omega) (by have := a.readers; omega) (by have := a.writer; omega)
    simp only [h, ne_eq, not_true, decide_false, Bool.false_eq_true, if_false, if_true, Option.bind_some, a.idx, e5, e8]
    change (if (decide (0 < rdr bs p) || wtr bs p) = true then _ else _) = _
    generalize wtr bs p = ww
    generalize rdr bs p = rr
    generalize (cel bs p) = cc
    by_cases h1 : 0 < rr ∨ ww = true
    · rw [if_pos (by simpa using h1), if_pos h1]; simp
    · rw [if_neg (by simpa using h1), if_neg h1]
      by_cases h2 : cc.Kind = 0
      · simp [h2]
      · by_cases h3 : cc.Kind = 1 <;> simp [h2, h3]
  · simp [h]
noncomputable def lockF (bs : Sl Gmem_Block) (p : Gmem_Value) : Bool × Int × Sl Gmem_Block :=
  if wcode bs p = 0 then if (cel bs p).N = 0 then (true, 0, setB bs p { mB bs p with Cells := (mB bs p).Cells.set p.N ⟨(cel bs p).Kind, 1, (cel bs p).Block⟩ }) else (false, 0, bs)
  else (false, wcode bs p, bs)
theorem wcode_zero {bs : Sl Gmem_Block} {p : Gmem_Value} (h : wcode bs p = 0) : ccode bs p = 0 ∧ ¬ (0 < rdr bs p) ∧ wtr bs p = false ∧ (cel bs p).Kind = 1 := by
  unfold wcode at h
  split at h
  · rename_i h1
    split at h
    · cases h
    · rename_i h2
      split at h
      · cases h
      · split at h
        · rename_i h3; refine ⟨h1, fun h => h2 (.inl h), ?_, h3⟩
          cases hw : wtr bs p
          · rfl
          · exact absurd (.inr hw) h2
        · cases h
  · rename_i h1; exact absurd h h1
theorem lock_eq {bs : Sl Gmem_Block} (u : Int) (p : Gmem_Value) (ok : MemOk bs) : mem_Memory_Lock bs u p = some (lockF bs p) := by
  unfold mem_Memory_Lock
  rw [whole_eq u p ok]
  simp only [Option.bind_some]
  unfold lockF
  by_cases h : wcode bs p = 0
  · have a := at_of ok (wcode_zero h).1
    have hN := a.n
    have e5 : gidx (mB bs p).Cells p.N = some (cel bs p) := gidx_ok _ (by omega) (by have := a.cells; omega)
    simp only [h, ne_eq, not_true, decide_false, Bool.false_eq_true, if_false, if_true, Option.bind_some, a.idx, e5]
    by_cases h1 : (cel bs p).N = 0 <;> simp [h1, setB]
  · simp [h]
noncomputable def unlockF (bs : Sl Gmem_Block) (p : Gmem_Value) : Int × Sl Gmem_Block :=
  if wcode bs p = 0 then (0, setB bs p { mB bs p with Cells := (mB bs p).Cells.set p.N ⟨(cel bs p).Kind, 0, (cel bs p).Block⟩ }) else (wcode bs p, bs)
theorem unlock_eq {bs : Sl Gmem_Block} (u : Int) (p : Gmem_Value) (ok : MemOk bs) : mem_Memory_Unlock bs u p = some (unlockF bs p) := by
  unfold mem_Memory_Unlock
  rw [whole_eq u p ok]
  simp only [Option.bind_some]
  unfold unlockF
  by_cases h : wcode bs p = 0
  · have a := at_of ok (wcode_zero h).1
    have hN := a.n
    have e5 : gidx (mB bs p).Cells p.N = some (cel bs p) := gidx_ok _ (by omega) (by have := a.cells; omega)
    simp only [h, decide_true, if_true, Option.bind_some, a.idx, e5]
    simp [setB]
  · simp [h]
/-- has a cell of the block a reader or a writer? -/
noncomputable def anyBusy (b : Gmem_Block) : Prop := ∃ i, i < b.Cells.xs.length ∧ (0 < b.Readers.xs.getD i 0 ∨ b.Writer.xs.getD i false = true)
open Classical in
noncomputable def freeF (bs : Sl Gmem_Block) (p : Gmem_Value) : Int × Sl Gmem_Block :=
  if bcode bs p = 0 then if p.N = 0 then if anyBusy (mB bs p) then (6, bs) else (0, setB bs p { mB bs p with Live := false }) else (5, bs)
  else (bcode bs p, bs)
theorem free_eq {bs : Sl Gmem_Block} (u : Int) (p : Gmem_Value) (ok : MemOk bs) : mem_Memory_Free bs u p = some (freeF bs p) := by
  unfold mem_Memory_Free
  rw [block_eq u p ok.len]
  simp only [Option.bind_some]
  unfold freeF
  by_cases h : bcode bs p = 0
  · obtain ⟨k1, k2, k3, k4⟩ := bcode_zero h
    have hg := mB_idx k2 k3
    obtain ⟨q1, q2, q3, q4⟩ := ok.blk _ (List.mem_of_getElem? (gidx_some.1 hg).2)
    by_cases hn : p.N = 0
    · simp only [h, hn, ne_eq, not_true, decide_false, Bool.false_eq_true, if_false, if_true, Option.bind_some, hg]
      have hl : Tot (loopO (mem_Memory_Free_L1 (mB bs p) bs) (some (p.Block - 1), 0)) (fun y => match y with | .a o => o = some (p.Block - 1) ∧ ¬ anyBusy (mB bs p) | .b _ => anyBusy (mB bs p)) := by
        refine tot_loop (I := fun x => x.1 = some (p.Block - 1) ∧ 0 ≤ x.2 ∧ x.2 ≤ ((mB bs p).Cells.xs.length : Int) ∧ ∀ i : Nat, (i : Int) < x.2 → ¬ (0 < (mB bs p).Readers.xs.getD i 0 ∨ (mB bs p).Writer.xs.getD i false = true)) (fun x => (((mB bs p).Cells.xs.length : Int) - x.2).toNat) ?_ _ ⟨rfl, by simp, by simp, fun i hi => by simp at hi; omega⟩
        rintro ⟨o, i⟩ ⟨h1, h2, h3, h4⟩
        simp only at h1 h2 h3 h4
        subst h1
        unfold mem_Memory_Free_L1
        refine tot_ifd (c := i < (mB bs p).Cells.len) (fun hc => ?_) (fun hc => ?_)
        · rw [sl_len] at hc
          simp only [Option.bind_some, hg]
          rw [busy_eq _ _ _ _ _ h2 (by omega) (by omega)]
          simp only [Option.bind_some]
          refine tot_if (fun hb => tot_some ?_) (fun hb => tot_some ?_)
          · exact ⟨i.toNat, by omega, by simpa using hb⟩
          · rw [wrap_id (by omega) (by omega)]
            refine ⟨⟨rfl, by simp only; omega, by simp only; omega, fun j hj => ?_⟩, by simp only; omega⟩
            simp only at hj
            by_cases hj2 : (j : Int) < i
            · exact h4 j hj2
            · have : j = i.toNat := by omega
              subst this; simpa using hb
        · rw [sl_len] at hc
          refine tot_some ⟨rfl, ?_⟩
          rintro ⟨j, hj, hb⟩
          exact h4 j (by omega) hb
      obtain ⟨y, hy, hq⟩ := hl
      rw [hy]
      cases y with
      | a o =>
        obtain ⟨rfl, hq⟩ := hq
        simp [hq, hg, setB]
      | b _ => simp only at hq; simp [hq]
    · simp [h, hn]
  · simp [h]
end Go.Px
