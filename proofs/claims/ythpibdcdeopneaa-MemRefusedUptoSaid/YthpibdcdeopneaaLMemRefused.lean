/- MemRefused, plain: a call that is refused changes nothing, but that a read of an empty cell is over. -/
import Derived.Test.YthpibdcdeopneaaP06D
namespace Go.Px
open Go.Proofs
set_option linter.unusedVariables false

theorem sum_bound : ∀ (l : List Int), (∀ x ∈ l, 0 ≤ x ∧ x ≤ 2000000) → 0 ≤ l.sum ∧ l.sum ≤ (l.length : Int) * 2000000
  | [], _ => by simp
  | x :: l, h => by
    have h1 := h x (by simp)
    have h2 := sum_bound l (fun y hy => h y (by simp [hy]))
    simp only [List.sum_cons, List.length_cons]
    omega
theorem sum_take_succ (l : List Int) (k : Nat) (h : k < l.length) : (l.take (k + 1)).sum = (l.take k).sum + l.getD k 0 := by
  rw [List.take_succ_eq_append_getElem h, List.sum_append, List.getD_eq_getElem?_getD, List.getElem?_eq_getElem h]; simp
theorem sum_set : ∀ (l : List Int) (k : Nat) (x : Int), k < l.length → (l.set k x).sum = l.sum - l.getD k 0 + x
  | [], _, _, h => by simp at h
  | a :: l, 0, x, _ => by simp; omega
  | a :: l, k + 1, x, h => by
    have := sum_set l k x (by simpa using h)
    simp only [List.set_cons_succ, List.sum_cons, this, List.getD_cons_succ]; omega
/-- what two tellings of a block agree in -/
structure SameB (b c : Gmem_Block) : Prop where
  good : GoodB b 2000000
  good2 : GoodB c 2000000
  live : b.Live = c.Live
  cells : b.Cells.xs = c.Cells.xs
  writer : b.Writer.xs = c.Writer.xs
theorem ref_L1 {b c : Gmem_Block} (h : SameB b c) (acc : Int) (h0 : -4000000000000 ≤ acc) (h1 : acc ≤ 4000000000000) :
    Tot (loopO (lychgatelaw06_MemRefused_L1 b c) (acc, 0)) (fun y => match y with | .a s => s = acc + b.Readers.xs.sum - c.Readers.xs.sum | .b _ => False) := by
  obtain ⟨g1, g2, g3, g4⟩ := h.good
  obtain ⟨k1, k2, k3, k4⟩ := h.good2
  have hlen : b.Cells.xs.length = c.Cells.xs.length := by rw [h.cells]
  refine tot_loop (I := fun x => x.1 = acc + (b.Readers.xs.take x.2.toNat).sum - (c.Readers.xs.take x.2.toNat).sum ∧ 0 ≤ x.2 ∧ x.2 ≤ (b.Cells.xs.length : Int)) (fun x => ((b.Cells.xs.length : Int) - x.2).toNat) ?_ _ ⟨by simp, by simp, by simp⟩
  rintro ⟨s, i⟩ ⟨q1, q2, q3⟩
  simp only at q1 q2 q3
  unfold lychgatelaw06_MemRefused_L1
  refine tot_ifd (c := i < b.Cells.len) (fun hc => ?_) (fun hc => tot_some ?_)
  · rw [sl_len] at hc
    rw [gidx_ok default q2 hc, gidx_ok default q2 (by omega), gidx_ok false q2 (by omega), gidx_ok false q2 (by omega), gidx_ok 0 q2 (by omega), gidx_ok 0 q2 (by omega), h.cells, h.writer]
    simp only [Option.bind_some, decide_true, Bool.not_true, Bool.false_eq_true, if_false, bne_self_eq_false]
    have hb := sum_bound (b.Readers.xs.take i.toNat) (fun x hx => g4 x (List.mem_of_mem_take hx))
    have hc2 := sum_bound (c.Readers.xs.take i.toNat) (fun x hx => k4 x (List.mem_of_mem_take hx))
    simp only [List.length_take] at hb hc2
    have e1 := g4 _ (getD_mem 0 (show i.toNat < b.Readers.xs.length by omega))
    have e2 := k4 _ (getD_mem 0 (show i.toNat < c.Readers.xs.length by omega))
    rw [wrap_id (n := b.Readers.xs.getD i.toNat 0 - c.Readers.xs.getD i.toNat 0) (by omega) (by omega), wrap_id (by omega) (by omega), wrap_id (n := i + 1) (by omega) (by omega)]
    refine tot_some ⟨⟨?_, by simp only; omega, by simp only; omega⟩, by simp only; omega⟩
    simp only
    rw [show (i + 1).toNat = i.toNat + 1 by omega, sum_take_succ _ _ (by omega), sum_take_succ _ _ (by omega)]
    omega
  · rw [sl_len] at hc
    simp only
    rw [q1, List.take_of_length_le (by omega), List.take_of_length_le (by omega)]
def readers (l : List Gmem_Block) : Int := (l.map fun b => b.Readers.xs.sum).sum
theorem readers_bound : ∀ (l : List Gmem_Block), (∀ b ∈ l, GoodB b 2000000) → 0 ≤ readers l ∧ readers l ≤ (l.length : Int) * 512000000
  | [], _ => by simp [readers]
  | b :: l, h => by
    obtain ⟨g1, g2, g3, g4⟩ := h b (by simp)
    have h1 := sum_bound b.Readers.xs g4
    have h2 := readers_bound l (fun c hc => h c (by simp [hc]))
    simp only [readers, List.map_cons, List.sum_cons, List.length_cons] at h2 ⊢
    omega
theorem readers_take (l : List Gmem_Block) (k : Nat) (h : k < l.length) : readers (l.take (k + 1)) = readers (l.take k) + (l.getD k default).Readers.xs.sum := by
  unfold readers
  rw [List.take_succ_eq_append_getElem h, List.map_append, List.sum_append, List.getD_eq_getElem?_getD, List.getElem?_eq_getElem h]; simp
theorem ref_L2 {was now : Sl Gmem_Block} (hl : was.xs.length = now.xs.length) (h5 : was.xs.length ≤ 5000) (h : ∀ i, i < was.xs.length → SameB (was.xs.getD i default) (now.xs.getD i default)) :
    Tot (loopO (lychgatelaw06_MemRefused_L2 now was) (0, 0)) (fun y => match y with | .a s => s = readers was.xs - readers now.xs | .b _ => False) := by
  have g1 : ∀ b ∈ was.xs, GoodB b 2000000 := fun b hb => by
    obtain ⟨i, hi, rfl⟩ := List.getElem_of_mem hb
    have := (h i hi).good
    rwa [List.getD_eq_getElem?_getD, List.getElem?_eq_getElem hi] at this
  have g2 : ∀ b ∈ now.xs, GoodB b 2000000 := fun b hb => by
    obtain ⟨i, hi, rfl⟩ := List.getElem_of_mem hb
    have := (h i (by omega)).good2
    rwa [List.getD_eq_getElem?_getD (l := now.xs), List.getElem?_eq_getElem hi] at this
  refine tot_loop (I := fun x => x.1 = readers (was.xs.take x.2.toNat) - readers (now.xs.take x.2.toNat) ∧ 0 ≤ x.2 ∧ x.2 ≤ (was.xs.length : Int)) (fun x => ((was.xs.length : Int) - x.2).toNat) ?_ _ ⟨by simp [readers], by simp, by simp⟩
  rintro ⟨s, i⟩ ⟨q1, q2, q3⟩
  simp only at q1 q2 q3
  unfold lychgatelaw06_MemRefused_L2
  refine tot_ifd (c := i < was.len) (fun hc => ?_) (fun hc => tot_some ?_)
  · rw [sl_len] at hc
    have hs := h i.toNat (by omega)
    rw [gidx_ok default q2 hc, gidx_ok default q2 (by omega)]
    simp only [Option.bind_some]
    rw [hs.live]
    simp only [bne_self_eq_false, Bool.false_eq_true, if_false]
    have b1 := readers_bound (was.xs.take i.toNat) (fun b hb => g1 b (List.mem_of_mem_take hb))
    have b2 := readers_bound (now.xs.take i.toNat) (fun b hb => g2 b (List.mem_of_mem_take hb))
    simp only [List.length_take] at b1 b2
    refine tot_bind ((ref_L1 hs s (by omega) (by omega)).mono ?_)
    rintro (y | y) hy
    · simp only at hy
      rw [wrap_id (by omega) (by omega)]
      refine tot_some ⟨⟨?_, by simp only; omega, by simp only; omega⟩, by simp only; omega⟩
      simp only
      rw [show (i + 1).toNat = i.toNat + 1 by omega, readers_take _ _ (by omega), readers_take _ _ (by omega)]
      omega
    · exact hy.elim
  · rw [sl_len] at hc
    simp only
    rw [q1, List.take_of_length_le (by omega), List.take_of_length_le (by omega)]
/-- one reader less -/
def Dec (m m' : Sl Gmem_Block) : Prop := ∃ p, ccode m p = 0 ∧ 0 < rdr m p ∧ m' = setB m p { mB m p with Readers := (mB m p).Readers.set p.N (rdr m p - 1) }
theorem same_refl {m : Sl Gmem_Block} {k : Int} (h : MemK m k) (hk : k ≤ 2000000) (i : Nat) (hi : i < m.xs.length) : SameB (m.xs.getD i default) (m.xs.getD i default) :=
  have g := (h.blk _ (getD_mem default hi)).mono hk
  ⟨g, g, rfl, rfl, rfl⟩
theorem dec_len {m m' : Sl Gmem_Block} (h : Dec m m') : m'.xs.length = m.xs.length := by obtain ⟨p, _, _, rfl⟩ := h; simp [setB, Sl.set]
theorem dec_same {m m' : Sl Gmem_Block} {k : Int} (hd : Dec m m') (h : MemK m k) (h' : MemK m' k) (hk : k ≤ 2000000) (i : Nat) (hi : i < m.xs.length) : SameB (m.xs.getD i default) (m'.xs.getD i default) := by
  have g := (h.blk _ (getD_mem default hi)).mono hk
  have g' := (h'.blk _ (getD_mem default (show i < m'.xs.length by rw [dec_len hd]; exact hi))).mono hk
  obtain ⟨p, hc, hr, rfl⟩ := hd
  have a := at_of (h.ok hk) hc
  have he : (setB m p { mB m p with Readers := (mB m p).Readers.set p.N (rdr m p - 1) }).xs.getD i default = if i = (p.Block - 1).toNat then { mB m p with Readers := (mB m p).Readers.set p.N (rdr m p - 1) } else m.xs.getD i default := getD_set _ _ _ _ _ a.lt
  rw [he] at g' ⊢
  split
  · rename_i hip
    rw [if_pos hip] at g'
    subst hip
    exact ⟨g, g', rfl, rfl, rfl⟩
  · exact ⟨g, g, rfl, rfl, rfl⟩
theorem dec_readers {m m' : Sl Gmem_Block} {k : Int} (hd : Dec m m') (h : MemK m k) (hk : k ≤ 2000000) : readers m.xs - readers m'.xs = 1 := by
  obtain ⟨p, hc, hr, rfl⟩ := hd
  have a := at_of (h.ok hk) hc
  have hm : (setB m p { mB m p with Readers := (mB m p).Readers.set p.N (rdr m p - 1) }).xs.map (fun b => b.Readers.xs.sum) = (m.xs.map fun b => b.Readers.xs.sum).set (p.Block - 1).toNat ((mB m p).Readers.set p.N (rdr m p - 1)).xs.sum := by
    simp only [setB, Sl.set, List.map_set]
  unfold readers
  rw [hm, sum_set _ _ _ (by simpa using a.lt)]
  have e1 : (m.xs.map fun b => b.Readers.xs.sum).getD (p.Block - 1).toNat 0 = (mB m p).Readers.xs.sum := by
    rw [List.getD_eq_getElem?_getD, List.getElem?_map, a.get]; rfl
  have e2 : ((mB m p).Readers.set p.N (rdr m p - 1)).xs.sum = (mB m p).Readers.xs.sum - 1 := by
    show ((mB m p).Readers.xs.set p.N.toNat (rdr m p - 1)).sum = _
    rw [sum_set _ _ _ a.readers]
    change _ - rdr m p + _ = _
    omega
  rw [e1, e2]
  omega
theorem memRefused_law (a0 : Sl Glychgatelaw06_Op) (hw : ((a0.xs.map (fun y => (1 + (1 + 1 + 1 + 1) + (1 + 1 + 1 + 1) + 1 + 1))).sum + 1) ≤ 1048576) (g0 : ((a0.nn = false → a0.xs = []) ∧ a0.xs.length ≤ maxLen ∧ ∀ y ∈ a0.xs, ((IntKind.i64.min ≤ y.Kind ∧ y.Kind ≤ IntKind.i64.max) ∧ ((IntKind.i64.min ≤ y.P.Kind ∧ y.P.Kind ≤ IntKind.i64.max) ∧ (IntKind.i64.min ≤ y.P.N ∧ y.P.N ≤ IntKind.i64.max) ∧ (IntKind.i64.min ≤ y.P.Block ∧ y.P.Block ≤ IntKind.i64.max)) ∧ ((IntKind.i64.min ≤ y.V.Kind ∧ y.V.Kind ≤ IntKind.i64.max) ∧ (IntKind.i64.min ≤ y.V.N ∧ y.V.N ≤ IntKind.i64.max) ∧ (IntKind.i64.min ≤ y.V.Block ∧ y.V.Block ≤ IntKind.i64.max)) ∧ True))) : lychgatelaw06_MemRefused a0 = some true := by
  unfold lychgatelaw06_MemRefused
  rw [mem_New_eq, wakes_eq]
  simp only [Option.bind_some, Bool.not_true, Bool.false_eq_true, if_false]
  have hlen := g0.2.1
  simp only [maxLen] at hlen
  have hmin : ∃ n : Nat, (if 100 < a0.len then 100 else a0.len) = (n : Int) ∧ n ≤ 100 ∧ n ≤ a0.xs.length := by
    rw [sl_len]
    split
    · exact ⟨100, rfl, by omega, by omega⟩
    · exact ⟨a0.xs.length, rfl, by omega, by omega⟩
  obtain ⟨n, hn, hn1, hn2⟩ := hmin
  rw [hn, gslice_ok (by omega) (by omega) (by omega)]
  simp only [Option.bind_some, Int.toNat_zero, List.drop_zero, Int.toNat_natCast]
  generalize hsx : (⟨a0.xs.take n, a0.nn⟩ : Sl Glychgatelaw06_Op) = sx
  have hsl : sx.xs.length ≤ 100 := by rw [← hsx]; simp; omega
  have hl : Tot (loopO (lychgatelaw06_MemRefused_L3 sx) (⟨[], false⟩, 0, 0)) (fun y => match y with | .a _ => True | .b _ => False) := by
    refine tot_loop (I := fun x => Mem x.1 x.2.1 x.2.2 ∧ MemN x.1 ∧ 0 ≤ x.2.2 ∧ x.2.2 ≤ (sx.xs.length : Int)) (fun x => ((sx.xs.length : Int) - x.2.2).toNat) ?_ _ ⟨Mem.zero, fun b hb => by simp at hb, by simp, by simp⟩
    rintro ⟨m, used, i⟩ ⟨h1, h2, h3, h4⟩
    simp only at h1 h2 h3 h4
    unfold lychgatelaw06_MemRefused_L3
    refine tot_ifd (c := i < sx.len) (fun hc => ?_) (fun hc => tot_some trivial)
    rw [sl_len] at hc
    rw [gidx_ok default h3 hc]
    generalize sx.xs.getD i.toNat default = o
    have ok := h1.k.ok (by omega)
    obtain ⟨was, hwas, hwx⟩ := blocks_eq used ok h2
    simp only [Option.bind_some, hwas, used_eq]
    have hlo := h1.lo
    have hhi := h1.hi
    refine tot_bind (Tot.mono (Q := fun y => match y with | .a z => Mem z.1 z.2 (i + 1) ∧ MemN z.1 | .b _ => False) ?_ ?_)
    rotate_left
    · rintro (z | z) hz
      · simp only
        rw [wrap_id (by omega) (by omega)]
        exact tot_some ⟨⟨hz.1, hz.2, by simp only; omega, by simp only; omega⟩, by simp only; omega⟩
      · exact hz.elim
    -- the call
    refine tot_bind (Tot.mono (Q := fun y => Mem y.1 y.2.1 (i + 1) ∧ MemN y.1 ∧ (y.2.2.1 = true → y.2.1 = used ∧ (y.2.2.2 = false → y.1 = m) ∧ (y.2.2.2 = true → Dec m y.1))) ?_ ?_)
    · have up : ∀ {m' : Sl Gmem_Block} {k : Int}, MemK m' k → k ≤ i + 1 → m'.xs.length = m.xs.length → Mem m' used (i + 1) := fun hk hle hln => ⟨hk.mono hle, by rw [hln]; exact hlo, hhi⟩
      refine tot_bind (Tot.mono (Q := fun y => Mem y.1 y.2.1 (i + 1) ∧ MemN y.1 ∧ (y.2.2.1 = true → y.2.1 = used ∧ (y.2.2.2 = false → y.1 = m) ∧ (y.2.2.2 = true → Dec m y.1))) ?_ (fun y hy => tot_some hy))
      have lens : ∀ (p : Gmem_Value) (b : Gmem_Block), (setB m p b).xs.length = m.xs.length := fun p b => by simp [setB, Sl.set]
      by_cases k1 : o.Kind = 1
      · rw [if_pos (by simpa using k1), h1.alloc_eq]
        simp only [Option.bind_some]
        refine tot_some ⟨⟨(h1.alloc (n := o.P.N) (by omega)).k.mono (by omega), (h1.alloc (n := o.P.N) (by omega)).lo, (h1.alloc (n := o.P.N) (by omega)).hi⟩, h2.alloc_ _ _, ?_⟩
        simp only
        unfold allocF
        split
        · simp
        · simp
      rw [if_neg (by simpa using k1)]
      refine tot_bind (Tot.mono (Q := fun y => Mem y.1 used (i + 1) ∧ MemN y.1 ∧ (y.2.1 = true → (y.2.2 = false → y.1 = m) ∧ (y.2.2 = true → Dec m y.1))) ?_ (fun y hy => tot_some ⟨hy.1, hy.2.1, fun h => ⟨rfl, hy.2.2 h⟩⟩))
      by_cases k2 : o.Kind = 2
      · rw [if_pos (by simpa using k2), free_eq _ _ ok]
        simp only [Option.bind_some]
        refine tot_some ⟨up (h1.k.free_ o.P (by omega)) (by omega) ?_, h2.free_ _, ?_⟩
        · unfold freeF; split
          · split
            · split
              · rfl
              · exact lens _ _
            · rfl
          · rfl
        · simp only
          unfold freeF
          split
          · split
            · split <;> simp
            · simp
          · simp
      rw [if_neg (by simpa using k2)]
      refine tot_bind (Tot.mono (Q := fun y => Mem y.1 used (i + 1) ∧ MemN y.1 ∧ (y.2.1 = true → (y.2.2 = false → y.1 = m) ∧ (y.2.2 = true → Dec m y.1))) ?_ (fun y hy => tot_some hy))
      by_cases k3 : o.Kind = 3
      · rw [if_pos (by simpa using k3), begin_eq _ _ _ ok]
        simp only [Option.bind_some]
        refine tot_some ⟨up (h1.k.begin_ o.P o.Write (by omega) h3) (by omega) ?_, h2.begin_ _ _, ?_⟩
        · unfold beginF; split
          · split
            · rfl
            · split <;> exact lens _ _
          · rfl
        · simp only
          unfold beginF
          split
          · split
            · simp
            · split <;> simp
          · simp
      rw [if_neg (by simpa using k3)]
      refine tot_bind (Tot.mono (Q := fun y => Mem y.1 used (i + 1) ∧ MemN y.1 ∧ (y.2.1 = true → (y.2.2 = false → y.1 = m) ∧ (y.2.2 = true → Dec m y.1))) ?_ (fun y hy => tot_some hy))
      by_cases k4 : o.Kind = 4
      · rw [if_pos (by simpa using k4), end_eq _ _ _ _ ok]
        simp only [Option.bind_some]
        refine tot_some ⟨up (h1.k.end_ o.P o.Write o.V (by omega)) (by omega) ?_, h2.end_ _ _ _, ?_⟩
        · unfold endF; split
          · split
            · split
              · exact lens _ _
              · rfl
            · split
              · rfl
              · split <;> exact lens _ _
          · rfl
        · simp only
          unfold endF
          split
          · rename_i hc0
            have a := at_of ok hc0
            have hr := (h1.k.goodAt (by omega) hc0).2.2.2 _ (getD_mem 0 a.readers)
            change 0 ≤ rdr m o.P ∧ _ at hr
            split
            · split <;> simp
            · split
              · simp
              · rename_i hne
                split
                · exact fun _ => ⟨fun h => absurd h (by simp), fun _ => ⟨o.P, hc0, by omega, rfl⟩⟩
                · simp
          · rename_i hc0
            refine fun _ => ⟨fun _ => rfl, fun h => ?_⟩
            simp only [decide_eq_true_eq] at h
            exfalso
            unfold ccode bcode at h
            split at h
            · split at h <;> omega
            · split at h
              · split at h <;> omega
              · omega
      rw [if_neg (by simpa using k4)]
      refine tot_bind (Tot.mono (Q := fun y => Mem y.1 used (i + 1) ∧ MemN y.1 ∧ (y.2 = true → y.1 = m)) ?_ (fun y hy => tot_some ⟨hy.1, hy.2.1, fun h => ⟨fun _ => hy.2.2 h, fun h => by simp at h⟩⟩))
      by_cases k5 : o.Kind = 5
      · rw [if_pos (by simpa using k5), lock_eq _ _ ok]
        simp only [Option.bind_some]
        refine tot_some ⟨up (h1.k.lock_ o.P (by omega)) (by omega) ?_, h2.lock_ _, ?_⟩
        · unfold lockF; split
          · split
            · exact lens _ _
            · rfl
          · rfl
        · simp only
          unfold lockF
          split
          · split <;> simp
          · simp
      rw [if_neg (by simpa using k5)]
      refine tot_bind (Tot.mono (Q := fun y => Mem y.1 used (i + 1) ∧ MemN y.1 ∧ (y.2 = true → y.1 = m)) ?_ (fun y hy => tot_some hy))
      by_cases k6 : o.Kind = 6
      · rw [if_pos (by simpa using k6), unlock_eq _ _ ok]
        simp only [Option.bind_some]
        refine tot_some ⟨up (h1.k.unlock_ o.P (by omega)) (by omega) ?_, h2.unlock_ _, ?_⟩
        · unfold unlockF; split
          · exact lens _ _
          · rfl
        · simp only
          unfold unlockF
          split <;> simp
      rw [if_neg (by simpa using k6)]
      exact tot_some ⟨up (h1.k) (by omega) rfl, h2, fun _ => rfl⟩
    · rintro ⟨m', used', refused, over⟩ ⟨e1, e2, e3⟩
      simp only at e1 e2 e3 ⊢
      obtain ⟨now, hnow, hnx⟩ := blocks_eq used' (e1.k.ok (by omega)) e2
      rw [hnow]
      simp only [Option.bind_some]
      cases refused with
      | false => simp only [Bool.not_false, if_true]; exact tot_some ⟨e1, e2⟩
      | true =>
        obtain ⟨rfl, f1, f2⟩ := e3 rfl
        simp only [Bool.not_true, Bool.false_eq_true, if_false]
        have hml : m'.xs.length = m.xs.length := by
          cases over with
          | false => rw [f1 rfl]
          | true => exact dec_len (f2 rfl)
        rw [show decide (now.len ≠ was.len) = false from decide_eq_false (by rw [sl_len, sl_len, hwx, hnx, hml]; simp)]
        simp only [Bool.false_eq_true, if_false, Option.bind_some, ne_eq, not_true, decide_false]
        have hsame : ∀ j, j < was.xs.length → SameB (was.xs.getD j default) (now.xs.getD j default) := fun j hj => by
          rw [hwx, hnx]
          rw [hwx] at hj
          cases over with
          | false => rw [f1 rfl]; exact same_refl h1.k (by omega) j hj
          | true => exact dec_same (f2 rfl) (h1.k.mono (show i ≤ i + 1 by omega)) e1.k (by omega) j hj
        refine tot_bind ((ref_L2 (by rw [hwx, hnx, hml]) (by rw [hwx]; exact ok.len) hsame).mono ?_)
        rintro (s | s) hs
        · simp only at hs ⊢
          rw [hwx, hnx] at hs
          cases over with
          | false =>
            rw [f1 rfl] at hs
            have : s = 0 := by omega
            subst this
            exact tot_some ⟨e1, e2⟩
          | true =>
            have := dec_readers (f2 rfl) h1.k (by omega)
            have : s = 1 := by omega
            subst this
            exact tot_some ⟨e1, e2⟩
        · exact hs.elim
  obtain ⟨y, hy, hq⟩ := hl
  rw [hy]
  cases y with
  | a _ => rfl
  | b _ => exact hq.elim
end Go.Px
