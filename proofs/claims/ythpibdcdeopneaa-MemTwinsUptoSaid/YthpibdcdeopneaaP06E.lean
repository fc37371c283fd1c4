/- The plain law of chapter 06, part 5: the reference's one list of cells, beside the program's blocks. -/
import Derived.Test.YthpibdcdeopneaaP06D
namespace Go.Px
open Go.Proofs
set_option linter.unusedVariables false

abbrev toV (v : Gmem_Value) : Glychgateref06_Value := ⟨v.Kind, v.N, v.Block⟩
def cellAt (k : Nat) (b : Gmem_Block) (j : Nat) : Glychgateref06_Cell := ⟨(k : Int) + 1, j, toV (b.Cells.xs.getD j default), b.Readers.xs.getD j 0, b.Writer.xs.getD j false⟩
def flatB (k : Nat) (b : Gmem_Block) : List Glychgateref06_Cell := (List.range b.Cells.xs.length).map (cellAt k b)
def flat : Nat → List Gmem_Block → List Glychgateref06_Cell
  | _, [] => []
  | k, b :: l => flatB k b ++ flat (k + 1) l
/-- the cells ahead of a block -/
def off : List Gmem_Block → Nat → Nat
  | _, 0 => 0
  | [], _ + 1 => 0
  | b :: l, k + 1 => b.Cells.xs.length + off l k
theorem flatB_len (k : Nat) (b : Gmem_Block) : (flatB k b).length = b.Cells.xs.length := by simp [flatB]
theorem flatB_get (k : Nat) (b : Gmem_Block) (j : Nat) (h : j < b.Cells.xs.length) : (flatB k b)[j]? = some (cellAt k b j) := by simp [flatB, h]
theorem flatc_get : ∀ (l : List Gmem_Block) (k i j : Nat), i < l.length → j < (l.getD i default).Cells.xs.length → (flat k l)[off l i + j]? = some (cellAt (k + i) (l.getD i default) j)
  | [], _, _, _, h, _ => by simp at h
  | b :: l, k, 0, j, _, h => by
    simp only [List.getD_cons_zero] at h ⊢
    simp only [flat, off, Nat.zero_add, Nat.add_zero]
    rw [List.getElem?_append_left (by rw [flatB_len]; exact h), flatB_get k b j h]
  | b :: l, k, i + 1, j, hi, h => by
    simp only [List.getD_cons_succ] at h ⊢
    simp only [flat, off]
    rw [List.getElem?_append_right (by rw [flatB_len]; omega), flatB_len, show b.Cells.xs.length + off l i + j - b.Cells.xs.length = off l i + j by omega, flatc_get l (k + 1) i j (by simpa using hi) h, show k + 1 + i = k + (i + 1) by omega]
theorem flat_inv : ∀ (l : List Gmem_Block) (k n : Nat), n < (flat k l).length → ∃ i j, i < l.length ∧ j < (l.getD i default).Cells.xs.length ∧ n = off l i + j
  | [], k, n, h => by simp [flat] at h
  | b :: l, k, n, h => by
    simp only [flat, List.length_append, flatB_len] at h
    by_cases hn : n < b.Cells.xs.length
    · exact ⟨0, n, by simp, by simpa using hn, by simp [off]⟩
    · obtain ⟨i, j, h1, h2, h3⟩ := flat_inv l (k + 1) (n - b.Cells.xs.length) (by omega)
      exact ⟨i + 1, j, by simpa using h1, by simpa using h2, by simp only [off]; omega⟩
theorem flat_len : ∀ (l : List Gmem_Block) (k : Nat), (∀ b ∈ l, b.Cells.xs.length ≤ 256) → (flat k l).length ≤ l.length * 256
  | [], k, _ => by simp [flat]
  | b :: l, k, h => by
    have h1 := h b (by simp)
    have h2 := flat_len l (k + 1) (fun c hc => h c (by simp [hc]))
    simp only [flat, List.length_append, flatB_len, List.length_cons]
    omega
theorem flatB_set {k j : Nat} {b b' : Gmem_Block} (h : b'.Cells.xs.length = b.Cells.xs.length) (hj : j < b.Cells.xs.length) (hs : ∀ m, m ≠ j → ∀ q, cellAt q b' m = cellAt q b m) : flatB k b' = (flatB k b).set j (cellAt k b' j) := by
  apply List.ext_getElem?
  intro n
  rw [List.getElem?_set, flatB_len]
  by_cases hn : n < b.Cells.xs.length
  · rw [flatB_get k b' n (by omega)]
    by_cases e : j = n
    · subst e; rw [if_pos rfl, if_pos hn]
    · rw [if_neg e, flatB_get k b n hn, hs n (fun h => e h.symm) k]
  · rw [List.getElem?_eq_none (by rw [flatB_len]; omega)]
    have : ¬ j = n := by omega
    rw [if_neg this, List.getElem?_eq_none (by rw [flatB_len]; omega)]
theorem flat_set : ∀ (l : List Gmem_Block) (k i j : Nat) (b' : Gmem_Block), i < l.length → b'.Cells.xs.length = (l.getD i default).Cells.xs.length → j < (l.getD i default).Cells.xs.length →
    (∀ m, m ≠ j → ∀ q, cellAt q b' m = cellAt q (l.getD i default) m) → flat k (l.set i b') = (flat k l).set (off l i + j) (cellAt (k + i) b' j)
  | [], _, _, _, _, h, _, _, _ => by simp at h
  | b :: l, k, 0, j, b', _, h, hj, hs => by
    simp only [List.getD_cons_zero] at h hj hs
    simp only [List.set_cons_zero, flat, off, Nat.zero_add, Nat.add_zero]
    rw [List.set_append_left _ _ (by rw [flatB_len]; exact hj), flatB_set h hj hs]
  | b :: l, k, i + 1, j, b', hi, h, hj, hs => by
    simp only [List.getD_cons_succ] at h hj hs
    simp only [List.set_cons_succ, flat, off]
    rw [List.set_append_right _ _ (by rw [flatB_len]; omega), flatB_len, show b.Cells.xs.length + off l i + j - b.Cells.xs.length = off l i + j by omega, flat_set l (k + 1) i j b' (by simpa using hi) h hj hs, show k + 1 + i = k + (i + 1) by omega]
theorem flat_same : ∀ (l : List Gmem_Block) (k i : Nat) (b' : Gmem_Block), i < l.length → b'.Cells.xs.length = (l.getD i default).Cells.xs.length →
    (∀ m q, cellAt q b' m = cellAt q (l.getD i default) m) → flat k (l.set i b') = flat k l
  | [], _, _, _, h, _, _ => by simp at h
  | b :: l, k, 0, b', _, h, hs => by
    simp only [List.getD_cons_zero] at h hs
    simp only [List.set_cons_zero, flat, flatB]
    rw [h, show cellAt k b' = cellAt k b from funext fun m => hs m k]
  | b :: l, k, i + 1, b', hi, h, hs => by
    simp only [List.getD_cons_succ] at h hs
    simp only [List.set_cons_succ, flat]
    rw [flat_same l (k + 1) i b' (by simpa using hi) h hs]
theorem flat_append : ∀ (l : List Gmem_Block) (k : Nat) (b : Gmem_Block), flat k (l ++ [b]) = flat k l ++ flatB (k + l.length) b
  | [], k, b => by simp [flat]
  | c :: l, k, b => by
    simp only [List.cons_append, flat, flat_append l (k + 1) b, List.append_assoc, List.length_cons]
    rw [show k + 1 + l.length = k + (l.length + 1) by omega]
theorem map_set_same {α β : Type} [Inhabited α] (f : α → β) : ∀ (l : List α) (i : Nat) (x : α), f x = f (l.getD i default) → (l.set i x).map f = l.map f
  | [], _, _, _ => by simp
  | a :: l, 0, x, h => by simpa using h
  | a :: l, i + 1, x, h => by simpa using map_set_same f l i x (by simpa using h)

/-- the reference's memory is the program's -/
structure R (bs : Sl Gmem_Block) (used : Int) (live : Sl Bool) (sizes : Sl Int) (cells : Sl Glychgateref06_Cell) (ru : Int) : Prop where
  live : live.xs = bs.xs.map (·.Live)
  sizes : sizes.xs = bs.xs.map (fun b => (b.Cells.xs.length : Int))
  cells : cells.xs = flat 0 bs.xs
  used : ru = used
theorem R.zero : R ⟨[], false⟩ 0 ⟨[], false⟩ ⟨[], false⟩ ⟨[], false⟩ 0 := ⟨rfl, rfl, rfl, rfl⟩
variable {bs : Sl Gmem_Block} {used : Int} {live : Sl Bool} {sizes : Sl Int} {cells : Sl Glychgateref06_Cell} {ru : Int} {p : Gmem_Value}
noncomputable def place (bs : Sl Gmem_Block) (p : Gmem_Value) : Int := ((off bs.xs (p.Block - 1).toNat + p.N.toNat : Nat) : Int)
/-- the reference's cell -/
noncomputable def cA (bs : Sl Gmem_Block) (p : Gmem_Value) : Glychgateref06_Cell := cellAt (p.Block - 1).toNat (mB bs p) p.N.toNat
theorem R.idx (h : R bs used live sizes cells ru) (ok : MemOk bs) (hc : ccode bs p = 0) : gidx cells (place bs p) = some ⟨(cA bs p).Block, (cA bs p).Number, toV (cel bs p), rdr bs p, wtr bs p⟩ := by
  have a := at_of ok hc
  refine gidx_some.2 ⟨by unfold place; omega, ?_⟩
  unfold place
  rw [Int.toNat_natCast, h.cells, flatc_get bs.xs 0 _ _ a.lt a.cells, Nat.zero_add]
  rfl
theorem R.set {b' : Gmem_Block} {c : Glychgateref06_Cell} (h : R bs used live sizes cells ru) (ok : MemOk bs) (hc : ccode bs p = 0) (h1 : b'.Live = (mB bs p).Live) (h2 : b'.Cells.xs.length = (mB bs p).Cells.xs.length)
    (h3 : ∀ m, m ≠ p.N.toNat → ∀ q, cellAt q b' m = cellAt q (mB bs p) m) (h4 : c = cellAt (p.Block - 1).toNat b' p.N.toNat) : R (setB bs p b') used live sizes (cells.set (place bs p) c) ru := by
  have a := at_of ok hc
  refine ⟨?_, ?_, ?_, h.used⟩
  · show _ = (bs.xs.set _ b').map _
    rw [map_set_same (fun b : Gmem_Block => b.Live) bs.xs _ b' h1, h.live]
  · simp only [setB, Sl.set]
    rw [map_set_same (fun b : Gmem_Block => (b.Cells.xs.length : Int)) bs.xs _ b' (congrArg (fun n : Nat => (n : Int)) h2), h.sizes]
  · simp only [setB, Sl.set]
    unfold place
    rw [Int.toNat_natCast, h.cells, flat_set bs.xs 0 _ p.N.toNat b' a.lt h2 a.cells h3, Nat.zero_add, h4]
theorem live_eq (h : R bs used live sizes cells ru) (hl : bs.xs.length ≤ 5000) : lychgateref06_live live sizes cells ru (toV p) = some (bcode bs p) := by
  unfold lychgateref06_live
  have hlen : live.xs.length = bs.xs.length := by rw [h.live]; simp
  simp only
  by_cases h1 : p.Kind = 2
  · rw [if_neg (by simp [h1])]
    by_cases h2 : 1 ≤ p.Block ∧ p.Block ≤ bs.xs.length
    · obtain ⟨h2, h3⟩ := h2
      have he : gidx live (p.Block - 1) = some (mB bs p).Live := by
        refine gidx_some.2 ⟨by omega, ?_⟩
        rw [h.live, List.getElem?_map, (gidx_some.1 (mB_idx h2 h3)).2]; rfl
      rw [wrap_id (by omega) (by omega), he]
      rw [if_neg (show ¬ (decide (p.Block < 1) || decide (live.len < p.Block)) = true by simp only [Bool.or_eq_true, decide_eq_true_eq]; rw [sl_len]; omega)]
      cases hv : (mB bs p).Live <;> simp [bcode, h1, h2, h3, hv]
    · rw [if_pos (show (decide (p.Block < 1) || decide (live.len < p.Block)) = true by simp only [Bool.or_eq_true, decide_eq_true_eq]; rw [sl_len]; omega)]
      have : ¬ (1 ≤ p.Block ∧ p.Block ≤ bs.xs.length ∧ (mB bs p).Live = true) := fun h => h2 ⟨h.1, h.2.1⟩
      simp [bcode, h1, this]
  · rw [if_pos (by simp [h1])]
    simp [bcode, h1]
theorem R.clen (h : R bs used live sizes cells ru) (ok : MemOk bs) : cells.xs.length ≤ 1280000 := by
  have h1 := flat_len bs.xs 0 (fun b hb => (ok.blk b hb).2.2.1)
  have h2 := ok.len
  rw [h.cells]; omega
theorem find_loop (q : Glychgateref06_Value) (hl : cells.xs.length ≤ 1280000) : Tot (loopO (lychgateref06_Find_L1 q cells) 0) (fun y => match y with
    | .a _ => ∀ n : Nat, n < cells.xs.length → ¬ ((cells.xs.getD n default).Block = q.Block ∧ (cells.xs.getD n default).Number = q.N)
    | .b i => ∃ n : Nat, i = n ∧ n < cells.xs.length ∧ (cells.xs.getD n default).Block = q.Block ∧ (cells.xs.getD n default).Number = q.N) := by
  refine tot_loop (I := fun x => 0 ≤ x ∧ x ≤ (cells.xs.length : Int) ∧ ∀ n : Nat, (n : Int) < x → ¬ ((cells.xs.getD n default).Block = q.Block ∧ (cells.xs.getD n default).Number = q.N)) (fun x => ((cells.xs.length : Int) - x).toNat) ?_ _ ⟨by simp, by simp, fun n hn => by omega⟩
  rintro i ⟨h1, h2, h3⟩
  unfold lychgateref06_Find_L1
  refine tot_ifd (c := i < cells.len) (fun hc => ?_) (fun hc => tot_some ?_)
  · rw [sl_len] at hc
    rw [gidx_ok default h1 hc]
    simp only [Option.bind_some]
    refine tot_if (fun hb => tot_some ?_) (fun hb => tot_some ?_)
    · simp only [Bool.and_eq_true, decide_eq_true_eq] at hb
      exact ⟨i.toNat, by omega, by omega, hb⟩
    · simp only [Bool.and_eq_true, decide_eq_true_eq] at hb
      rw [wrap_id (by omega) (by omega)]
      refine ⟨⟨by omega, by omega, fun n hn => ?_⟩, by omega⟩
      by_cases e : (n : Int) < i
      · exact h3 n e
      · obtain rfl : n = i.toNat := by omega
        exact hb
  · rw [sl_len] at hc
    exact fun n hn => h3 n (by omega)
theorem R.at_ (h : R bs used live sizes cells ru) {n : Nat} (hn : n < cells.xs.length) : ∃ i j, i < bs.xs.length ∧ j < (bs.xs.getD i default).Cells.xs.length ∧ n = off bs.xs i + j ∧ cells.xs.getD n default = cellAt i (bs.xs.getD i default) j := by
  rw [h.cells] at hn
  obtain ⟨i, j, h1, h2, h3⟩ := flat_inv bs.xs 0 n hn
  refine ⟨i, j, h1, h2, h3, ?_⟩
  rw [h.cells, List.getD_eq_getElem?_getD, h3, flatc_get bs.xs 0 i j h1 h2, Nat.zero_add]; rfl
theorem find_eq (h : R bs used live sizes cells ru) (ok : MemOk bs) : lychgateref06_Find live sizes cells ru (toV p) = some (if ccode bs p = 0 then place bs p else -1, ccode bs p) := by
  unfold lychgateref06_Find
  rw [live_eq h ok.len]
  simp only [Option.bind_some]
  by_cases hb : bcode bs p = 0
  · rw [if_neg (by simp [hb])]
    obtain ⟨k1, k2, k3, k4⟩ := bcode_zero hb
    obtain ⟨y, hy, hq⟩ := find_loop (cells := cells) (toV p) (h.clen ok)
    rw [hy]
    simp only [Option.bind_some]
    by_cases hc : ccode bs p = 0
    · have a := at_of ok hc
      have hi := h.idx ok hc
      have haN := a.n
      cases y with
      | a u =>
        exfalso
        obtain ⟨g1, g2⟩ := gidx_some.1 hi
        refine hq (place bs p).toNat (by obtain ⟨z, _⟩ := List.getElem?_eq_some_iff.1 g2; exact z) ?_
        rw [List.getD_eq_getElem?_getD, g2]
        simp only [Option.getD_some, cA, cellAt]
        omega
      | b i =>
        obtain ⟨n, rfl, hn, e1, e2⟩ := hq
        obtain ⟨i, j, h1, h2, h3, h4⟩ := h.at_ hn
        rw [h4] at e1 e2
        simp only [cellAt, toV] at e1 e2
        obtain rfl : i = (p.Block - 1).toNat := by omega
        obtain rfl : j = p.N.toNat := by omega
        simp [hc, place, h3]
    · have h3 : ccode bs p = 3 := by
        unfold ccode at hc ⊢
        rw [if_pos hb] at hc ⊢
        split at hc
        · exact absurd rfl hc
        · rename_i z; rw [if_neg z]
      cases y with
      | a u => simp [h3]
      | b i =>
        exfalso
        obtain ⟨n, rfl, hn, e1, e2⟩ := hq
        obtain ⟨i, j, h1, h2, h3, h4⟩ := h.at_ hn
        rw [h4] at e1 e2
        simp only [cellAt, toV] at e1 e2
        obtain rfl : i = (p.Block - 1).toNat := by omega
        apply hc
        unfold ccode
        rw [if_pos hb, if_pos]
        change j < (mB bs p).Cells.xs.length at h2
        omega
  · rw [if_pos (by simp [hb])]
    have hc : ccode bs p = bcode bs p := by unfold ccode; rw [if_neg hb]
    simp [hc, hb]
theorem getD_set_ne {α : Type} (l : List α) (i j : Nat) (v d : α) (h : j ≠ i) : (l.set i v).getD j d = l.getD j d := by
  simp only [List.getD_eq_getElem?_getD, List.getElem?_set, if_neg (show ¬ i = j from fun e => h e.symm)]
theorem getD_set_self {α : Type} (l : List α) (i : Nat) (v d : α) (h : i < l.length) : (l.set i v).getD i d = v := by
  simp [List.getD_eq_getElem?_getD, h]
theorem R.writer (h : R bs used live sizes cells ru) (ok : MemOk bs) (hc : ccode bs p = 0) (x : Bool) :
    R (setB bs p { mB bs p with Writer := (mB bs p).Writer.set p.N x }) used live sizes (cells.set (place bs p) ⟨(cA bs p).Block, (cA bs p).Number, toV (cel bs p), rdr bs p, x⟩) ru := by
  have a := at_of ok hc
  refine h.set ok hc rfl rfl (fun m hm q => ?_) ?_
  · simp only [cellAt, Sl.set]; rw [getD_set_ne _ _ _ _ _ hm]
  · simp only [cellAt, Sl.set]; rw [getD_set_self _ _ _ _ a.writer]; rfl
theorem R.readers (h : R bs used live sizes cells ru) (ok : MemOk bs) (hc : ccode bs p = 0) (x : Int) :
    R (setB bs p { mB bs p with Readers := (mB bs p).Readers.set p.N x }) used live sizes (cells.set (place bs p) ⟨(cA bs p).Block, (cA bs p).Number, toV (cel bs p), x, wtr bs p⟩) ru := by
  have a := at_of ok hc
  refine h.set ok hc rfl rfl (fun m hm q => ?_) ?_
  · simp only [cellAt, Sl.set]; rw [getD_set_ne _ _ _ _ _ hm]
  · simp only [cellAt, Sl.set]; rw [getD_set_self _ _ _ _ a.readers]; rfl
theorem R.cell (h : R bs used live sizes cells ru) (ok : MemOk bs) (hc : ccode bs p = 0) (x : Gmem_Value) :
    R (setB bs p { mB bs p with Cells := (mB bs p).Cells.set p.N x }) used live sizes (cells.set (place bs p) ⟨(cA bs p).Block, (cA bs p).Number, toV x, rdr bs p, wtr bs p⟩) ru := by
  have a := at_of ok hc
  refine h.set ok hc rfl (by simp [Sl.set]) (fun m hm q => ?_) ?_
  · simp only [cellAt, Sl.set]; rw [getD_set_ne _ _ _ _ _ hm]
  · simp only [cellAt, Sl.set]; rw [getD_set_self _ _ _ _ a.cells]; rfl
theorem R.both (h : R bs used live sizes cells ru) (ok : MemOk bs) (hc : ccode bs p = 0) (x : Gmem_Value) (w : Bool) :
    R (setB bs p { mB bs p with Writer := (mB bs p).Writer.set p.N w, Cells := (mB bs p).Cells.set p.N x }) used live sizes (cells.set (place bs p) ⟨(cA bs p).Block, (cA bs p).Number, toV x, rdr bs p, w⟩) ru := by
  have a := at_of ok hc
  refine h.set ok hc rfl (by simp [Sl.set]) (fun m hm q => ?_) ?_
  · simp only [cellAt, Sl.set]; rw [getD_set_ne _ _ _ _ _ hm, getD_set_ne _ _ _ _ _ hm]
  · simp only [cellAt, Sl.set]; rw [getD_set_self _ _ _ _ a.cells, getD_set_self _ _ _ _ a.writer]; rfl
theorem begin_ref (h : R bs used live sizes cells ru) (ok : MemOk bs) (w : Bool) : Tot (lychgateref06_Begin live sizes cells ru (toV p) w) (fun y => y.1 = (beginF bs p w).1 ∧ R (beginF bs p w).2 used live sizes y.2 ru) := by
  unfold lychgateref06_Begin
  rw [find_eq h ok]
  simp only [Option.bind_some]
  unfold beginF
  by_cases hc : ccode bs p = 0
  · have a := at_of ok hc
    rw [if_neg (by simp [hc]), if_pos hc, if_pos hc, h.idx ok hc]
    simp only [Option.bind_some]
    have hb := (ok.blk _ (List.mem_of_getElem? a.get)).2.2.2 _ (getD_mem 0 a.readers)
    change 0 ≤ rdr bs p ∧ rdr bs p ≤ 2000000 at hb
    refine tot_if (fun hw => ?_) (fun hw => ?_)
    · rw [if_pos (show wtr bs p = true ∨ (w = true ∧ 0 < rdr bs p) by simpa using hw)]
      exact tot_some ⟨rfl, h⟩
    · rw [if_neg (show ¬ (wtr bs p = true ∨ (w = true ∧ 0 < rdr bs p)) by simpa using hw)]
      cases w with
      | true => exact tot_some ⟨rfl, h.writer ok hc true⟩
      | false =>
        simp only [Bool.false_eq_true, if_false, Option.bind_some]
        rw [wrap_id (by omega) (by omega)]
        exact tot_some ⟨rfl, h.readers ok hc _⟩
  · rw [if_pos (by simp [hc]), if_neg hc]
    exact tot_some ⟨rfl, h⟩
theorem plain_ref (v : Gmem_Value) : lychgateref06_Plain (toV v) = some (toV (plainF v)) := by
  unfold lychgateref06_Plain plainF toV
  by_cases h1 : v.Kind = 1
  · simp [h1]
  · by_cases h2 : v.Kind = 2
    · simp [h2]
    · simp [h1, h2]
theorem end_ref (h : R bs used live sizes cells ru) (ok : MemOk bs) (w : Bool) (v : Gmem_Value) : Tot (lychgateref06_End live sizes cells ru (toV p) w (toV v)) (fun y => y.1 = toV (endF bs p w v).1 ∧ y.2.1 = (endF bs p w v).2.1 ∧ R (endF bs p w v).2.2 used live sizes y.2.2 ru) := by
  unfold lychgateref06_End
  rw [find_eq h ok]
  simp only [Option.bind_some]
  unfold endF
  by_cases hc : ccode bs p = 0
  · have a := at_of ok hc
    have hi := h.idx ok hc
    have hs : ∀ c, gidx (cells.set (place bs p) c) (place bs p) = some c := fun c => gidx_set hi
    rw [if_neg (by simp [hc]), if_pos hc, if_pos hc, hi]
    simp only [Option.bind_some, plain_ref, hs, sset_sset]
    have hb := (ok.blk _ (List.mem_of_getElem? a.get)).2.2.2 _ (getD_mem 0 a.readers)
    change 0 ≤ rdr bs p ∧ rdr bs p ≤ 2000000 at hb
    cases w with
    | true =>
      simp only [if_true]
      refine tot_if (fun hw => ?_) (fun hw => ?_)
      · rw [if_neg (show ¬ wtr bs p = true by simpa using hw)]
        exact tot_some ⟨rfl, rfl, h⟩
      · rw [if_pos (show wtr bs p = true by simpa using hw)]
        exact tot_some ⟨rfl, rfl, h.both ok hc _ _⟩
    | false =>
      simp only [Bool.false_eq_true, if_false]
      refine tot_ifd (fun h0 => ?_) (fun h0 => ?_)
      · rw [if_pos h0]; exact tot_some ⟨rfl, rfl, h⟩
      · rw [if_neg h0, wrap_id (n := rdr bs p - 1) (by omega) (by omega)]
        refine tot_ifd (fun h1 => ?_) (fun h1 => ?_)
        · rw [if_pos h1]; exact tot_some ⟨rfl, rfl, h.readers ok hc _⟩
        · rw [if_neg h1]; exact tot_some ⟨rfl, rfl, h.readers ok hc _⟩
  · rw [if_pos (by simp [hc]), if_neg hc]
    exact tot_some ⟨rfl, rfl, h⟩
theorem whole_ref (h : R bs used live sizes cells ru) (ok : MemOk bs) : lychgateref06_whole live sizes cells ru (toV p) = some (if ccode bs p = 0 then place bs p else -1, wcode bs p) := by
  unfold lychgateref06_whole
  rw [find_eq h ok]
  simp only [Option.bind_some]
  unfold wcode
  by_cases hc : ccode bs p = 0
  · rw [if_neg (by simp [hc]), if_pos hc, if_pos hc, h.idx ok hc]
    simp only [Option.bind_some]
    by_cases h1 : 0 < rdr bs p ∨ wtr bs p = true
    · rw [if_pos (show (decide (0 < rdr bs p) || wtr bs p) = true by simpa using h1), if_pos h1]
    · rw [if_neg (show ¬ (decide (0 < rdr bs p) || wtr bs p) = true by simpa using h1), if_neg h1]
      by_cases h2 : (cel bs p).Kind = 0
      · rw [if_pos (show decide ((cel bs p).Kind = 0) = true by simpa using h2), if_pos h2]
      · rw [if_neg (show ¬ decide ((cel bs p).Kind = 0) = true by simpa using h2), if_neg h2]
        by_cases h3 : (cel bs p).Kind = 1
        · rw [if_neg (show ¬ decide ((cel bs p).Kind ≠ 1) = true by simpa using h3), if_pos h3]
        · rw [if_pos (show decide ((cel bs p).Kind ≠ 1) = true by simpa using h3), if_neg h3]
  · rw [if_pos (by simp [hc])]
    simp [hc]
theorem lock_ref (h : R bs used live sizes cells ru) (ok : MemOk bs) : Tot (lychgateref06_Lock live sizes cells ru (toV p)) (fun y => y.1 = (lockF bs p).1 ∧ y.2.1 = (lockF bs p).2.1 ∧ R (lockF bs p).2.2 used live sizes y.2.2 ru) := by
  unfold lychgateref06_Lock
  rw [whole_ref h ok]
  simp only [Option.bind_some]
  unfold lockF
  by_cases hw : wcode bs p = 0
  · have hc := (wcode_zero hw).1
    rw [if_neg (by simp [hw]), if_pos hw, if_pos hc, h.idx ok hc]
    simp only [Option.bind_some]
    by_cases h0 : (cel bs p).N = 0
    · rw [if_neg (show ¬ decide ((cel bs p).N ≠ 0) = true by simpa using h0), if_pos h0]
      exact tot_some ⟨rfl, rfl, h.cell ok hc _⟩
    · rw [if_pos (show decide ((cel bs p).N ≠ 0) = true by simpa using h0), if_neg h0]
      exact tot_some ⟨rfl, rfl, h⟩
  · rw [if_pos (by simp [hw]), if_neg hw]
    exact tot_some ⟨rfl, rfl, h⟩
theorem unlock_ref (h : R bs used live sizes cells ru) (ok : MemOk bs) : Tot (lychgateref06_Unlock live sizes cells ru (toV p)) (fun y => y.1 = (unlockF bs p).1 ∧ R (unlockF bs p).2 used live sizes y.2 ru) := by
  unfold lychgateref06_Unlock
  rw [whole_ref h ok]
  simp only [Option.bind_some]
  unfold unlockF
  by_cases hw : wcode bs p = 0
  · have hc := (wcode_zero hw).1
    rw [if_pos (show decide (wcode bs p = 0) = true by simpa using hw), if_pos hw, if_pos hc, h.idx ok hc]
    exact tot_some ⟨hw, h.cell ok hc _⟩
  · rw [if_neg (show ¬ decide (wcode bs p = 0) = true by simpa using hw), if_neg hw]
    exact tot_some ⟨rfl, h⟩
theorem free_loop (q : Glychgateref06_Value) (hl : cells.xs.length ≤ 1280000) : Tot (loopO (lychgateref06_Free_L1 q cells) 0) (fun y => match y with
    | .a _ => ∀ n : Nat, n < cells.xs.length → ¬ ((cells.xs.getD n default).Block = q.Block ∧ (0 < (cells.xs.getD n default).Readers ∨ (cells.xs.getD n default).Writer = true))
    | .b _ => ∃ n : Nat, n < cells.xs.length ∧ (cells.xs.getD n default).Block = q.Block ∧ (0 < (cells.xs.getD n default).Readers ∨ (cells.xs.getD n default).Writer = true)) := by
  refine tot_loop (I := fun x => 0 ≤ x ∧ x ≤ (cells.xs.length : Int) ∧ ∀ n : Nat, (n : Int) < x → ¬ ((cells.xs.getD n default).Block = q.Block ∧ (0 < (cells.xs.getD n default).Readers ∨ (cells.xs.getD n default).Writer = true))) (fun x => ((cells.xs.length : Int) - x).toNat) ?_ _ ⟨by simp, by simp, fun n hn => by omega⟩
  rintro i ⟨h1, h2, h3⟩
  unfold lychgateref06_Free_L1
  refine tot_ifd (c := i < cells.len) (fun hc => ?_) (fun hc => tot_some ?_)
  · rw [sl_len] at hc
    rw [gidx_ok default h1 hc]
    simp only [Option.bind_some]
    refine tot_if (fun hb => tot_some ?_) (fun hb => tot_some ?_)
    · simp only [Bool.and_eq_true, Bool.or_eq_true, decide_eq_true_eq] at hb
      exact ⟨i.toNat, by omega, hb⟩
    · simp only [Bool.and_eq_true, Bool.or_eq_true, decide_eq_true_eq] at hb
      rw [wrap_id (by omega) (by omega)]
      refine ⟨⟨by omega, by omega, fun n hn => ?_⟩, by omega⟩
      by_cases e : (n : Int) < i
      · exact h3 n e
      · obtain rfl : n = i.toNat := by omega
        exact hb
  · rw [sl_len] at hc
    exact fun n hn => h3 n (by omega)
theorem free_ref (h : R bs used live sizes cells ru) (ok : MemOk bs) : Tot (lychgateref06_Free live sizes cells ru (toV p)) (fun y => y.1 = (freeF bs p).1 ∧ R (freeF bs p).2 used y.2 sizes cells ru) := by
  unfold lychgateref06_Free
  rw [live_eq h ok.len]
  simp only [Option.bind_some]
  unfold freeF
  by_cases hb : bcode bs p = 0
  · rw [if_neg (by simp [hb]), if_pos hb]
    obtain ⟨k1, k2, k3, k4⟩ := bcode_zero hb
    by_cases hn : p.N = 0
    · rw [if_neg (show ¬ decide ((toV p).N ≠ 0) = true by simp [hn]), if_pos hn]
      refine tot_bind ((free_loop (cells := cells) (toV p) (h.clen ok)).mono ?_)
      have key : (∃ n : Nat, n < cells.xs.length ∧ (cells.xs.getD n default).Block = (toV p).Block ∧ (0 < (cells.xs.getD n default).Readers ∨ (cells.xs.getD n default).Writer = true)) ↔ anyBusy (mB bs p) := by
        constructor
        · rintro ⟨n, hn, e1, e2⟩
          obtain ⟨i, j, h1, h2, h3, h4⟩ := h.at_ hn
          rw [h4] at e1 e2
          simp only [cellAt, toV] at e1 e2
          obtain rfl : i = (p.Block - 1).toNat := by omega
          exact ⟨j, h2, e2⟩
        · rintro ⟨j, hj, e2⟩
          have hg := flatc_get bs.xs 0 (p.Block - 1).toNat j (by omega) hj
          rw [← h.cells, Nat.zero_add] at hg
          refine ⟨_, (List.getElem?_eq_some_iff.1 hg).1, ?_⟩
          rw [List.getD_eq_getElem?_getD, hg]
          refine ⟨?_, e2⟩
          simp only [Option.getD_some, cellAt, toV]; omega
      rintro (u | u) hq
      · have hnb : ¬ anyBusy (mB bs p) := fun hz => by
          obtain ⟨n, h1, h2⟩ := key.2 hz
          exact hq n h1 h2
        rw [if_neg hnb]
        have hlen : live.xs.length = bs.xs.length := by rw [h.live]; simp
        have hbl := ok.len
        simp only
        rw [wrap_id (by omega) (by omega), gidx_ok false (by omega) (by omega), gset_eq (by omega) (by omega)]
        refine tot_some ⟨rfl, ?_, ?_, ?_, h.used⟩
        · simp only [setB, Sl.set, List.map_set, h.live]
        · simp only [setB, Sl.set]
          rw [map_set_same (fun b : Gmem_Block => (b.Cells.xs.length : Int)) bs.xs _ _ (by rfl), h.sizes]
        · simp only [setB, Sl.set]
          rw [flat_same bs.xs 0 _ _ (by omega) (by rfl) (fun m q => by rfl), h.cells]
      · rw [if_pos (key.1 hq)]
        exact tot_some ⟨rfl, h⟩
    · rw [if_pos (show decide ((toV p).N ≠ 0) = true by simp [hn]), if_neg hn]
      exact tot_some ⟨rfl, h⟩
  · rw [if_pos (by simp [hb]), if_neg hb]
    exact tot_some ⟨rfl, h⟩
theorem alloc_ref (h : R bs used live sizes cells ru) (ok : MemOk bs) (n : Int) (h0 : 0 ≤ used) (h1 : used ≤ 5000) : Tot (lychgateref06_Alloc live sizes cells ru n) (fun y => y.1 = toV (allocF bs used n).1 ∧ y.2.1 = (allocF bs used n).2.1 ∧
    R (allocF bs used n).2.2.1 (allocF bs used n).2.2.2 y.2.2.1 y.2.2.2.1 y.2.2.2.2.1 y.2.2.2.2.2) := by
  obtain rfl := h.used
  unfold lychgateref06_Alloc allocF
  have hl := ok.len
  have hcl := h.clen ok
  have hlen : live.xs.length = bs.xs.length := by rw [h.live]; simp
  have hsl : sizes.xs.length = bs.xs.length := by rw [h.sizes]; simp
  by_cases hn : 0 ≤ n ∧ n ≤ 256
  · obtain ⟨n1, n2⟩ := hn
    rw [wrap_id (n := ru + n) (by omega) (by omega), wrap_id (n := ru + n + 1) (by omega) (by omega)]
    by_cases h2 : ru + n + 1 ≤ 4096
    · rw [if_neg (show ¬ ((decide (n < 0) || decide (256 < n)) || decide (4096 < ru + n + 1)) = true by simp only [Bool.or_eq_true, decide_eq_true_eq]; omega), if_pos ⟨n1, n2, h2⟩]
      rw [gapp_ok (by simp; omega) (by simp; omega)]
      simp only [Option.bind_some]
      rw [gapp_ok (by simp; omega) (by simp; omega)]
      simp only [Option.bind_some]
      have hsl2 : (⟨live.xs ++ [true], live.nn || !([true] : List Bool).isEmpty⟩ : Sl Bool).len = (bs.xs.length : Int) + 1 := by rw [sl_len]; simp [hlen]
      refine tot_bind (Tot.mono (Q := fun y => y.xs = cells.xs ++ (List.range n.toNat).map (fun j : Nat => (⟨(bs.xs.length : Int) + 1, j, ⟨0, 0, 0⟩, 0, false⟩ : Glychgateref06_Cell))) ?_ (fun y hy => tot_some ?_))
      · refine tot_loop (I := fun x => 0 ≤ x.2 ∧ x.2 ≤ n ∧ x.1.xs = cells.xs ++ (List.range x.2.toNat).map (fun j : Nat => (⟨(bs.xs.length : Int) + 1, j, ⟨0, 0, 0⟩, 0, false⟩ : Glychgateref06_Cell))) (fun x => (n - x.2).toNat) ?_ _ ⟨by simp, by simpa using n1, by simp⟩
        rintro ⟨c, i⟩ ⟨q1, q2, q3⟩
        simp only at q1 q2 q3
        unfold lychgateref06_Alloc_L1
        simp only
        refine tot_ifd (c := i < n) (fun hc => ?_) (fun hc => tot_some ?_)
        · have hcx : c.xs.length = cells.xs.length + i.toNat := by rw [q3]; simp
          rw [gapp_ok (by simp; omega) (by simp; omega), wrap_id (by omega) (by omega), hsl2]
          refine tot_some ⟨⟨by simp only; omega, by simp only; omega, ?_⟩, by simp only; omega⟩
          simp only
          rw [show (i + 1).toNat = i.toNat + 1 by omega, List.range_succ, List.map_append, q3, List.append_assoc]
          simp only [List.map_cons, List.map_nil]
          rw [show ((i.toNat : Nat) : Int) = i by omega]
        · simp only
          rw [q3, show i = n by omega]
      · refine ⟨?_, rfl, ?_, ?_, ?_, rfl⟩
        · simp only [toV]; rw [hsl2]
        · simp [h.live, newB]
        · simp [h.sizes, newB]; omega
        · simp only
          rw [flat_append, hy, h.cells, Nat.zero_add]
          congr 1
          unfold flatB
          simp only [newB, List.length_replicate]
          refine List.map_congr_left fun j hj => ?_
          rw [List.mem_range] at hj
          simp [cellAt, toV, List.getD_eq_getElem?_getD, hj]
    · rw [if_pos (show ((decide (n < 0) || decide (256 < n)) || decide (4096 < ru + n + 1)) = true by simp only [Bool.or_eq_true, decide_eq_true_eq]; omega), if_neg (fun h => h2 h.2.2)]
      exact tot_some ⟨rfl, rfl, h⟩
  · rw [if_pos (show ((decide (n < 0) || decide (256 < n)) || _) = true by simp only [Bool.or_eq_true, decide_eq_true_eq]; left; omega), if_neg (fun h => hn ⟨h.1, h.2.1⟩)]
    exact tot_some ⟨rfl, rfl, h⟩
end Go.Px
