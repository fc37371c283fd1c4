/- MemFull, plain: blocks are made until the cells are used up, whatever is freed between. -/
import Derived.Test.YthpibdcdeopneaaP06C
namespace Go.Px
open Go.Proofs
set_option linter.unusedVariables false

/-- a block that was just made is freed once -/
theorem free_new {bs : Sl Gmem_Block} {used n : Int} (h : Mem bs used 0) (hf : fits used n) :
    let bs' : Sl Gmem_Block := ⟨bs.xs ++ [newB n.toNat], true⟩
    let p : Gmem_Value := ⟨2, 0, bs.xs.length + 1⟩
    (freeF bs' p).1 = 0 ∧ (freeF (freeF bs' p).2 p).1 = 2 ∧ Mem (freeF bs' p).2 (used + n + 1) 0 ∧ Mem (freeF (freeF bs' p).2 p).2 (used + n + 1) 0 := by
  intro bs' p
  have hm : Mem bs' (used + n + 1) 0 := by
    have := h.alloc (n := n) (by omega)
    unfold allocF at this; rw [if_pos hf] at this; exact this
  have hB : mB bs' p = newB n.toNat := by
    unfold mB
    simp only [bs', p]
    rw [show ((bs.xs.length : Int) + 1 - 1).toNat = bs.xs.length by omega, List.getD_eq_getElem?_getD, List.getElem?_append_right (Nat.le_refl _)]
    simp
  have hc : bcode bs' p = 0 := by
    unfold bcode
    rw [if_pos (show p.Kind = 2 from rfl), if_pos (show 1 ≤ p.Block ∧ p.Block ≤ (bs'.xs.length : Int) ∧ (mB bs' p).Live = true from ⟨by simp [p]; omega, by simp [p, bs'], by rw [hB]; rfl⟩)]
  have hb : ¬ anyBusy (mB bs' p) := by
    rw [hB]
    rintro ⟨i, hi, h⟩
    simp only [newB, List.length_replicate] at hi
    have hr : (newB n.toNat).Readers.xs.getD i 0 = 0 := by simp only [newB]; rw [List.getD_eq_getElem?_getD, List.getElem?_replicate, if_pos hi]; rfl
    have hw : (newB n.toNat).Writer.xs.getD i false = false := by simp only [newB]; rw [List.getD_eq_getElem?_getD, List.getElem?_replicate, if_pos hi]; rfl
    rw [hr, hw] at h
    rcases h with h | h
    · omega
    · cases h
  have h1 : freeF bs' p = (0, setB bs' p { mB bs' p with Live := false }) := by
    unfold freeF; rw [if_pos hc, if_pos (show p.N = 0 from rfl), if_neg hb]
  have hm1 : Mem (freeF bs' p).2 (used + n + 1) 0 := by
    refine ⟨hm.k.free_ p (by omega), ?_, hm.hi⟩
    rw [h1]; simpa [setB, Sl.set] using hm.lo
  have hc2 : bcode (freeF bs' p).2 p = 2 := by
    rw [h1]
    unfold bcode
    rw [if_pos (show p.Kind = 2 from rfl), if_neg]
    rintro ⟨_, _, h⟩
    have hl : bs.xs.length < bs'.xs.length := by simp [bs']
    have : mB (setB bs' p { mB bs' p with Live := false }) p = { mB bs' p with Live := false } := by
      show (List.set bs'.xs (p.Block - 1).toNat _).getD (p.Block - 1).toNat default = _
      rw [getD_set _ _ _ _ _ (by simp only [p]; omega), if_pos rfl]
    rw [this] at h; cases h
  have h2 : freeF (freeF bs' p).2 p = (2, (freeF bs' p).2) := by
    have bad : ∀ (b : Sl Gmem_Block), bcode b p = 2 → freeF b p = (2, b) := fun b hb => by
      unfold freeF; rw [if_neg (by omega), hb]
    exact bad _ hc2
  refine ⟨by rw [h1], by rw [h2], hm1, by rw [h2]; exact hm1⟩
theorem memFull_law (a0 : Sl Int) (a1 : Sl Bool) (hw : ((a0.xs.map (fun y => 1)).sum + 1) + ((a1.xs.map (fun y => 1)).sum + 1) ≤ 1048576) (g0 : ((a0.nn = false → a0.xs = []) ∧ a0.xs.length ≤ maxLen ∧ ∀ y ∈ a0.xs, (IntKind.i64.min ≤ y ∧ y ≤ IntKind.i64.max))) (g1 : ((a1.nn = false → a1.xs = []) ∧ a1.xs.length ≤ maxLen ∧ ∀ y ∈ a1.xs, True)) : lychgatelaw06_MemFull a0 a1 = some true := by
  unfold lychgatelaw06_MemFull
  rw [wakes_eq]
  simp only [Option.bind_some, Bool.not_true, Bool.false_eq_true, if_false, mem_New_eq]
  have hl : Tot (loopO (lychgatelaw06_MemFull_L1 a1 a0) (⟨[], false⟩, 0, 0, 0)) (fun y => match y with | .a _ => True | .b _ => False) := by
    refine tot_loop (I := fun x => Mem x.1 x.2.1 0 ∧ x.2.2.1 = x.2.1 ∧ 0 ≤ x.2.2.2 ∧ x.2.2.2 ≤ (a0.xs.length : Int)) (fun x => ((a0.xs.length : Int) - x.2.2.2).toNat) ?_ _ ⟨Mem.zero, rfl, by simp, by simp⟩
    rintro ⟨m, used, used', i⟩ ⟨h1, h2, h3, h4⟩
    simp only at h1 h2 h3 h4
    subst h2
    unfold lychgatelaw06_MemFull_L1
    refine tot_ifd (c := i < a0.len) (fun hc => ?_) (fun hc => tot_some trivial)
    rw [sl_len] at hc
    have hlen := g0.2.1
    simp only [maxLen] at hlen
    have hlo := h1.lo
    have hhi := h1.hi
    rw [gidx_ok 0 h3 hc]
    have hr := g0.2.2 _ (getD_mem 0 (show i.toNat < a0.xs.length by omega))
    generalize a0.xs.getD i.toNat 0 = n at hr ⊢
    simp only [Option.bind_some, h1.alloc_eq, wrap_id (show -9223372036854775808 ≤ i + 1 by omega) (show i + 1 ≤ 9223372036854775807 by omega)]
    by_cases hf : fits used' n
    · have ha : allocF m used' n = (⟨2, 0, m.xs.length + 1⟩, true, ⟨m.xs ++ [newB n.toNat], true⟩, used' + n + 1) := by unfold allocF; rw [if_pos hf]
      obtain ⟨f1, f2, f3⟩ := hf
      rw [ha]
      simp only
      rw [wrap_id (n := used' + n) (by omega) (by omega), wrap_id (n := used' + n + 1) (by omega) (by omega), wrap_id (n := n + 1) (by omega) (by omega), wrap_id (n := used' + (n + 1)) (by omega) (by omega)]
      rw [decide_eq_true f1, decide_eq_true f2, decide_eq_true f3]
      simp only [Bool.and_self, bne_self_eq_false, Bool.false_eq_true, if_false, Bool.not_true, used_eq, Option.bind_some]
      rw [show decide (used' + n + 1 ≠ used' + (n + 1)) = false from decide_eq_false (by omega)]
      simp only [Bool.false_eq_true, if_false]
      have hm : Mem ⟨m.xs ++ [newB n.toNat], true⟩ (used' + n + 1) 0 := by
        have := h1.alloc (n := n) (by omega)
        rw [ha] at this; exact this
      obtain ⟨q1, q2, q3, q4⟩ := free_new h1 ⟨f1, f2, f3⟩
      have hfr : Tot (if decide (i < a1.len) = true then Option.bind (gidx a1 i) fun x_61 => some x_61 else some false) (fun _ => True) := by
        refine tot_ifd (c := i < a1.len) (fun hc2 => ?_) (fun _ => tot_some trivial)
        rw [sl_len] at hc2
        rw [gidx_ok false h3 hc2]; exact tot_some trivial
      obtain ⟨b, hb, _⟩ := hfr
      rw [hb]
      simp only [Option.bind_some]
      cases b with
      | false =>
        simp only [Bool.false_eq_true, if_false, Option.bind_some]
        exact tot_some ⟨⟨hm, by simp only; omega, by simp only; omega, by simp only; omega⟩, by simp only; omega⟩
      | true =>
        simp only [if_true]
        rw [free_eq _ _ (hm.k.ok (by omega))]
        simp only [Option.bind_some]
        rw [q1, free_eq _ _ (q3.k.ok (by omega))]
        simp only [ne_eq, not_true, decide_false, Bool.false_eq_true, if_false, Option.bind_some, q2]
        exact tot_some ⟨⟨q4, by simp only; omega, by simp only; omega, by simp only; omega⟩, by simp only; omega⟩
    · have ha : allocF m used' n = (⟨0, 0, 0⟩, false, m, used') := by unfold allocF; rw [if_neg hf]
      rw [ha]
      simp only
      have hd : ((decide (0 ≤ n) && decide (n ≤ 256)) && decide (IntKind.i64.wrap (IntKind.i64.wrap (used' + n) + 1) ≤ 4096)) = false := by
        by_cases hn : 0 ≤ n ∧ n ≤ 256
        · obtain ⟨n0, n1⟩ := hn
          rw [wrap_id (n := used' + n) (by omega) (by omega), wrap_id (n := used' + n + 1) (by omega) (by omega)]
          rw [decide_eq_true n0, decide_eq_true n1, decide_eq_false (fun h => hf ⟨n0, n1, h⟩)]; rfl
        · by_cases n0 : 0 ≤ n
          · rw [decide_eq_true n0, decide_eq_false (fun h => hn ⟨n0, h⟩)]; rfl
          · rw [decide_eq_false n0]; rfl
      rw [hd]
      simp only [bne_self_eq_false, Bool.false_eq_true, if_false, Bool.not_false, if_true, Option.bind_some]
      exact tot_some ⟨⟨h1, rfl, by simp only; omega, by simp only; omega⟩, by simp only; omega⟩
  obtain ⟨y, hy, hq⟩ := hl
  rw [hy]
  cases y with
  | a _ => rfl
  | b _ => exact hq.elim
end Go.Px
