/- MemRaces, plain: two that use one cell at a time race unless both read. -/
import Derived.Test.YthpibdcdeopneaaP06C
namespace Go.Px
open Go.Proofs
set_option linter.unusedVariables false

theorem getD_rep {α : Type} {n i : Nat} (x d : α) (h : i < n) : (List.replicate n x).getD i d = x := by rw [List.getD_eq_getElem?_getD, List.getElem?_replicate, if_pos h]; rfl
theorem five : allocF ⟨[], false⟩ 0 5 = (⟨2, 0, 1⟩, true, ⟨[newB 5], true⟩, 6) := by
  unfold allocF
  rw [if_pos (show fits 0 5 by decide)]
  rfl
/-- a memory of one block of five cells -/
def one (r : List Int) (w : List Bool) : Sl Gmem_Block := ⟨[⟨true, ⟨List.replicate 5 ⟨0, 0, 0⟩, true⟩, ⟨r, true⟩, ⟨w, true⟩⟩], true⟩
def at5 (i : Int) : Gmem_Value := ⟨2, i, 1⟩
theorem one_mB (r : List Int) (w : List Bool) (i : Int) : mB (one r w) (at5 i) = ⟨true, ⟨List.replicate 5 ⟨0, 0, 0⟩, true⟩, ⟨r, true⟩, ⟨w, true⟩⟩ := rfl
theorem one_b (r : List Int) (w : List Bool) (i : Int) : bcode (one r w) (at5 i) = 0 := by
  unfold bcode
  rw [if_pos (show (at5 i).Kind = 2 from rfl), if_pos (show 1 ≤ (at5 i).Block ∧ (at5 i).Block ≤ ((one r w).xs.length : Int) ∧ (mB (one r w) (at5 i)).Live = true from ⟨by simp [at5], by simp [at5, one], rfl⟩)]
theorem one_c (r : List Int) (w : List Bool) (i : Int) (h0 : 0 ≤ i) (h1 : i < 5) : ccode (one r w) (at5 i) = 0 := by
  unfold ccode
  rw [one_b, if_pos rfl, one_mB, if_pos (show 0 ≤ (at5 i).N ∧ _ from ⟨h0, by simpa [at5] using h1⟩)]
theorem one_ok (r : List Int) (w : List Bool) (hr : r.length = 5) (hw : w.length = 5) (h : ∀ x ∈ r, 0 ≤ x ∧ x ≤ 5) : MemOk (one r w) := by
  refine ⟨by simp [one], fun b hb => ?_⟩
  simp only [one, List.mem_singleton] at hb
  subst hb
  exact ⟨by simp [hr], by simp [hw], by simp, fun x hx => ⟨(h x hx).1, Int.le_trans (h x hx).2 (by omega)⟩⟩
theorem one_begin (r : List Int) (w : List Bool) (i : Int) (x : Bool) (h0 : 0 ≤ i) (h1 : i < 5) : beginF (one r w) (at5 i) x =
    if w.getD i.toNat false = true ∨ (x = true ∧ 0 < r.getD i.toNat 0) then (6, one r w) else if x then (0, one r (w.set i.toNat true)) else (0, one (r.set i.toNat (r.getD i.toNat 0 + 1)) w) := by
  unfold beginF
  rw [one_c r w i h0 h1, if_pos rfl]
  rfl
theorem one_busy (r : List Int) (w : List Bool) (i : Int) (h0 : 0 ≤ i) (h1 : i < 5) (hb : 0 < r.getD i.toNat 0 ∨ w.getD i.toNat false = true) : freeF (one r w) (at5 0) = (6, one r w) := by
  unfold freeF
  rw [one_b, if_pos rfl, if_pos (show (at5 0).N = 0 from rfl), if_pos]
  exact ⟨i.toNat, by simp [one_mB]; omega, hb⟩
theorem one_whole (r : List Int) (w : List Bool) (i : Int) (h0 : 0 ≤ i) (h1 : i < 5) (hb : 0 < r.getD i.toNat 0 ∨ w.getD i.toNat false = true) : wcode (one r w) (at5 i) = 6 := by
  unfold wcode
  rw [one_c r w i h0 h1, if_pos rfl, if_pos]
  exact hb
theorem memRaces_law (a0 : GSt50) (a1 : Int) (a2 : Int) (hw : (1 + 1 + 1) + 1 + 1 ≤ 1048576) (g0 : (True ∧ True)) (g1 : (IntKind.i64.min ≤ a1 ∧ a1 ≤ IntKind.i64.max)) (g2 : (IntKind.i64.min ≤ a2 ∧ a2 ≤ IntKind.i64.max)) : lychgatelaw06_MemRaces a0 a1 a2 = some true := by
  unfold lychgatelaw06_MemRaces
  rw [wakes_eq]
  simp only [Option.bind_some, Bool.not_true, Bool.false_eq_true, if_false, mem_New_eq]
  rw [Mem.zero.alloc_eq, five]
  simp only [Option.bind_some]
  have hm : ∀ x : Int, ∃ q, gmod .i64 (if 0 < x then x else 0) 5 = some q ∧ 0 ≤ q ∧ q < 5 := fun x => by
    refine ⟨(if 0 < x then x else 0).tmod 5, by simp [gmod], ?_, ?_⟩
    · exact Int.tmod_nonneg _ (by split <;> omega)
    · exact Int.tmod_lt_of_pos _ (by omega)
  obtain ⟨i, hi, i0, i1⟩ := hm a1
  obtain ⟨j, hj, j0, j1⟩ := hm a2
  rw [hi, hj]
  simp only [Option.bind_some]
  obtain ⟨one_, two_⟩ := a0
  simp only
  change (Option.bind (mem_Memory_Begin (one (List.replicate 5 0) (List.replicate 5 false)) 6 (at5 i) one_) _) = _
  have il : i.toNat < 5 := by omega
  have jl : j.toNat < 5 := by omega
  rw [begin_eq _ _ _ (one_ok _ _ (by simp) (by simp) (fun x hx => by have := List.eq_of_mem_replicate hx; omega)), one_begin _ _ _ _ i0 i1]
  have g0 : (List.replicate 5 (0 : Int)).getD i.toNat 0 = 0 := getD_rep _ _ il
  have f0 : (List.replicate 5 false).getD i.toNat false = false := getD_rep _ _ il
  rw [g0, f0, if_neg (by simp)]
  -- behind the first
  have key : ∀ (r : List Int) (w : List Bool), r.length = 5 → w.length = 5 → (∀ x ∈ r, 0 ≤ x ∧ x ≤ 1) → (0 < r.getD i.toNat 0 ∨ w.getD i.toNat false = true) →
      (w.getD j.toNat false = true ∨ (two_ = true ∧ 0 < r.getD j.toNat 0) ↔ (i = j ∧ (one_ || two_) = true)) →
      (Option.bind (if (decide (i = j) && (one_ || two_)) then (some 6 : Option Int) else some 0) fun y_55 =>
        Option.bind (mem_Memory_Begin (one r w) 6 (at5 j) two_) fun r_59 =>
        Option.bind (if decide (r_59.1 ≠ y_55) then some (r_59.2, true) else Option.bind (mem_Memory_Free r_59.2 6 (⟨2, 0, 1⟩ : Gmem_Value)) fun r_68 => some (r_68.2, decide (r_68.1 ≠ 6))) fun y_67 =>
        if y_67.2 then some false else
          Option.bind (mem_Memory_Lock y_67.1 6 (at5 i)) fun r_79 =>
          Option.bind (if decide (r_79.2.1 = 6) then Option.bind (mem_Memory_Unlock r_79.2.2 6 (at5 i)) fun r_88 => some (decide (r_88.1 = 6)) else some false) fun y_87 => some y_87) = some true := by
    intro r w hr hw hb hu hrace
    have ok := one_ok r w hr hw (fun x hx => ⟨(hb x hx).1, by have := (hb x hx).2; omega⟩)
    -- the end, whatever the second did
    have fin : ∀ (r' : List Int) (w' : List Bool), r'.length = 5 → w'.length = 5 → (∀ x ∈ r', 0 ≤ x ∧ x ≤ 5) → (0 < r'.getD i.toNat 0 ∨ w'.getD i.toNat false = true) → ∀ (c : Int),
        (Option.bind (if decide (c ≠ c) then some (one r' w', true) else Option.bind (mem_Memory_Free (one r' w') 6 (⟨2, 0, 1⟩ : Gmem_Value)) fun r_68 => some (r_68.2, decide (r_68.1 ≠ 6))) fun y_67 =>
        if y_67.2 then some false else
          Option.bind (mem_Memory_Lock y_67.1 6 (at5 i)) fun r_79 =>
          Option.bind (if decide (r_79.2.1 = 6) then Option.bind (mem_Memory_Unlock r_79.2.2 6 (at5 i)) fun r_88 => some (decide (r_88.1 = 6)) else some false) fun y_87 => some y_87) = some true := by
      intro r' w' hr' hw' hb' hu' c
      have ok' := one_ok r' w' hr' hw' hb'
      have e1 : mem_Memory_Free (one r' w') 6 (⟨2, 0, 1⟩ : Gmem_Value) = some (6, one r' w') := by
        rw [free_eq _ _ ok']; exact congrArg some (one_busy r' w' i i0 i1 hu')
      have hw6 := one_whole r' w' i i0 i1 hu'
      have e2 : lockF (one r' w') (at5 i) = (false, 6, one r' w') := by unfold lockF; rw [hw6, if_neg (by omega)]
      have e3 : unlockF (one r' w') (at5 i) = (6, one r' w') := by unfold unlockF; rw [hw6, if_neg (by omega)]
      simp only [ne_eq, not_true, decide_false, Bool.false_eq_true, if_false, e1, Option.bind_some, lock_eq _ _ ok', e2, decide_true, if_true, unlock_eq _ _ ok', e3]
    rw [begin_eq _ _ _ ok, one_begin _ _ _ _ j0 j1]
    by_cases hc : i = j ∧ (one_ || two_) = true
    · rw [if_pos (hrace.2 hc), if_pos (by simp [hc.1, hc.2])]
      simp only [Option.bind_some]
      exact fin r w hr hw (fun x hx => ⟨(hb x hx).1, by have := (hb x hx).2; omega⟩) hu 6
    · rw [if_neg (fun h => hc (hrace.1 h)), if_neg (by
        intro h
        simp only [Bool.and_eq_true, decide_eq_true_eq] at h
        exact hc h)]
      simp only [Option.bind_some]
      cases two_ with
      | true =>
        simp only [if_true]
        refine fin r _ hr (by simpa using hw) (fun x hx => ⟨(hb x hx).1, by have := (hb x hx).2; omega⟩) ?_ 0
        rcases hu with h | h
        · exact .inl h
        · right
          rw [getD_set _ _ _ _ _ (by omega)]
          split
          · rfl
          · exact h
      | false =>
        simp only [Bool.false_eq_true, if_false]
        refine fin _ w (by simpa using hr) hw (fun x hx => ?_) ?_ 0
        · rcases mem_set_or hx with h | rfl
          · have := hb x h; omega
          · have := hb _ (getD_mem 0 (show j.toNat < r.length by omega)); omega
        · rcases hu with h | h
          · left
            rw [getD_set _ _ _ _ _ (by omega)]
            split
            · rename_i he
              have := (hb _ (getD_mem 0 (show j.toNat < r.length by omega))).1
              omega
            · exact h
          · exact .inr h
  cases one_ with
  | true =>
    simp only [if_true, Option.bind_some, ne_eq, not_true, decide_false, Bool.false_eq_true, if_false]
    refine key _ _ (by simp) (by simp) (fun x hx => by have := List.eq_of_mem_replicate hx; omega) (.inr (by rw [getD_set _ _ _ _ _ (by rw [List.length_replicate]; exact il), if_pos rfl])) ?_
    rw [getD_set _ _ _ _ _ (by rw [List.length_replicate]; exact il)]
    have h0 : (List.replicate 5 (0 : Int)).getD j.toNat 0 = 0 := getD_rep _ _ jl
    have h1 : (List.replicate 5 false).getD j.toNat false = false := getD_rep _ _ jl
    rw [h0, h1]
    constructor
    · rintro (h | h)
      · split at h
        · exact ⟨by omega, by simp⟩
        · cases h
      · omega
    · rintro ⟨h, _⟩; subst h; left; simp
  | false =>
    simp only [Bool.false_eq_true, if_false, Option.bind_some, ne_eq, not_true, decide_false]
    refine key _ _ (by simp) (by simp) (fun x hx => ?_) (.inl (by rw [getD_set _ _ _ _ _ (by rw [List.length_replicate]; exact il), if_pos rfl]; omega)) ?_
    · rcases mem_set_or hx with h | rfl
      · have := List.eq_of_mem_replicate h; omega
      · omega
    · rw [getD_set _ _ _ _ _ (by rw [List.length_replicate]; exact il)]
      have h0 : (List.replicate 5 (0 : Int)).getD j.toNat 0 = 0 := getD_rep _ _ jl
      have h1 : (List.replicate 5 false).getD j.toNat false = false := getD_rep _ _ jl
      rw [h0, h1]
      constructor
      · rintro (h | ⟨h2, h⟩)
        · cases h
        · split at h
          · exact ⟨by omega, by simp [h2]⟩
          · omega
      · rintro ⟨h, h2⟩; subst h; right; exact ⟨by simpa using h2, by simp⟩
end Go.Px
