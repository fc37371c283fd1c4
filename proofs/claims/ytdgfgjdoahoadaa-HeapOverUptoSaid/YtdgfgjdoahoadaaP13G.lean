/- The table of all pairs: the program's loops. -/
import Derived.Test.YtdgfgjdoahoadaaP13F
namespace Go.Px
set_option linter.unusedVariables false

def toRf (f : Leq) : Glychgateref04_Leq := ⟨f.X, f.Y, f.C⟩
theorem rf_idx {fs : Sl Leq} {r : Sl Glychgateref04_Leq} (hr : r.xs = fs.xs.map toRf) {j : Nat} (h1 : j < fs.xs.length) : gidx r (j : Int) = some (toRf (fs.xs.getD j default)) := by
  rw [gidx_ok default (by omega) (by rw [hr]; simp; omega), hr]
  simp only [List.getD_eq_getElem?_getD, List.getElem?_map, Int.toNat_natCast]
  rw [List.getElem?_eq_getElem h1]
  rfl
/-! places in the table -/
theorem idx_lt {n i j : Nat} (hi : i < n) (hj : j < n) : i * n + j < n * n := by
  have : (i + 1) * n ≤ n * n := Nat.mul_le_mul_right n hi
  rw [Nat.succ_mul] at this
  omega
theorem idx_inj {n i j a b : Nat} (hj : j < n) (hb : b < n) (h : i * n + j = a * n + b) : i = a ∧ j = b := by
  have h1 : (i * n + j) / n = i := by rw [Nat.mul_comm, Nat.mul_add_div (by omega), Nat.div_eq_of_lt hj]; omega
  have h2 : (a * n + b) / n = a := by rw [Nat.mul_comm, Nat.mul_add_div (by omega), Nat.div_eq_of_lt hb]; omega
  have : i = a := by rw [← h1, ← h2, h]
  subst this
  exact ⟨rfl, by omega⟩
theorem widx {n i j : Nat} (hn : n ≤ 96) (hi : i < n) (hj : j < n) : IntKind.i64.wrap (IntKind.i64.wrap ((i : Int) * n) + j) = ((i * n + j : Nat) : Int) := by
  have h1 : i * n ≤ 96 * 96 := Nat.mul_le_mul (by omega) hn
  have h2 : ((i * n : Nat) : Int) = (i : Int) * n := by push_cast; rfl
  rw [← h2, wrap_id (n := ((i * n : Nat) : Int)) (by omega) (by omega), wrap_id (by omega) (by omega)]
  push_cast; rfl
/-- the entry of a table that is laid out row behind row -/
def Ta (n : Nat) (xs : List Int) (i j : Nat) : Int := At xs (i * n + j)
theorem Ta_get {n : Nat} {t : Sl Int} {i j : Nat} {p : Int} (hl : t.xs.length = n * n) (hi : i < n) (hj : j < n) (hp : p = ((i * n + j : Nat) : Int)) : gidx t p = some (Ta n t.xs i j) :=
  at_gidx hl hp (idx_lt hi hj)
theorem Ta_set {n : Nat} {xs : List Int} {i j a b : Nat} {v : Int} (hl : xs.length = n * n) (hi : i < n) (hj : j < n) (ha : a < n) (hb : b < n) :
    Ta n (xs.set (i * n + j) v) a b = if a = i ∧ b = j then v else Ta n xs a b := by
  unfold Ta
  rw [At_set _ _ _ _ (by rw [hl]; exact idx_lt hi hj)]
  by_cases h : a * n + b = i * n + j
  · obtain ⟨h1, h2⟩ := idx_inj hb hj h
    rw [if_pos h, if_pos ⟨h1, h2⟩]
  · rw [if_neg h, if_neg]
    rintro ⟨rfl, rfl⟩
    exact h rfl
theorem Ta_put {n : Nat} {t : Sl Int} {i j : Nat} {p v : Int} (hl : t.xs.length = n * n) (hi : i < n) (hj : j < n) (hp : p = ((i * n + j : Nat) : Int)) : gset t p v = some ⟨t.xs.set (i * n + j) v, t.nn⟩ := by
  subst hp
  rw [gset_ok (by omega) (by rw [hl]; have := idx_lt hi hj; omega), Int.toNat_natCast]
/-- the state within a stage: entries ahead of (i, j) are worked, the others are as they were -/
def InSt (n : Nat) (T : Nat → Nat → Int) (k i j : Nat) (t : Sl Int) : Prop :=
  t.xs.length = n * n ∧ ∀ a b, a < n → b < n → Ta n t.xs a b = if a < i ∨ (a = i ∧ b < j) then exT T k a b else T a b
theorem InSt.row {n : Nat} {T : Nat → Nat → Int} {k i : Nat} {t : Sl Int} (h : InSt n T k i n t) : InSt n T k (i + 1) 0 t := by
  refine ⟨h.1, fun a b ha hb => ?_⟩
  rw [h.2 a b ha hb]
  by_cases c : a < i + 1
  · rw [if_pos (by omega), if_pos (by omega)]
  · rw [if_neg (by omega), if_neg (by omega)]
theorem InSt.skip {n : Nat} {T : Nat → Nat → Int} {k i : Nat} {t : Sl Int} (h : InSt n T k i 0 t) (hs : T i k = 4611686018427387904) : InSt n T k (i + 1) 0 t := by
  refine ⟨h.1, fun a b ha hb => ?_⟩
  rw [h.2 a b ha hb]
  by_cases c : a < i
  · rw [if_pos (by omega), if_pos (by omega)]
  · rw [if_neg (by omega)]
    by_cases c2 : a = i
    · subst c2
      rw [if_pos (by omega)]
      unfold exT
      rw [if_pos (.inl hs)]
    · rw [if_neg (by omega)]
theorem row_loop {n : Nat} {fs : List Leq} {k : Nat} {T : Nat → Nat → Int} (hf : Fit n fs) (hT : Tab n fs k T) (hk : k < n) {i : Nat} (hi : i < n) (hik : i ≤ k ∨ 0 ≤ T k k) (t : Sl Int) (hs : InSt n T k i 0 t) (hfin : T i k ≠ 4611686018427387904) (u : Sl Int) :
    Tot (loopO (lychgateref04_Table_L3 n (u, (k : Int)) (t, (i : Int))) (t, 0)) fun t' => InSt n T k i n t' := by
  have hn2 := hf.n2
  have hlo := fun {a b : Nat} (ha : a < n) (hb : b < n) => hT.lo hf (by omega) ha hb
  have hhi := fun {a b : Nat} (ha : a < n) (hb : b < n) (h : T a b ≠ 4611686018427387904) => hT.hi hf (by omega) ha hb h
  have hkk := hT.dle k hk
  refine tot_count2 n (by omega) (fun j s => InSt n T k i j s) t hs ?_ ?_
  · rintro j s hj ⟨hl, hin⟩
    unfold lychgateref04_Table_L3
    refine tot_ifd (fun _ => ?_) (fun hh => (hh (by simp only; omega)).elim)
    simp only
    rw [widx hn2 hk hj, widx hn2 hi hk, widx hn2 hi hj]
    have rkj : Ta n s.xs k j = T k j := by
      rw [hin k j hk hj]
      by_cases c : k < i
      · rw [if_pos (.inl c)]
        unfold exT
        have h0 : T k k = 0 := by omega
        split
        · rfl
        · have hz : (if k < j ∧ T k k < 0 then T k k else 0) = 0 := by rw [if_neg (by omega)]
          simp only [hz]
          split <;> omega
      · rw [if_neg (by omega)]
    have rik : Ta n s.xs i k = T i k + (if k < j ∧ T k k < 0 then T k k else 0) := by
      rw [hin i k hi hk]
      by_cases c : k < j
      · rw [if_pos (.inr ⟨rfl, c⟩)]
        unfold exT
        have a1 := hT.top k k hk hk
        rw [if_neg (by omega)]
        have : ¬ (k < k ∧ T k k < 0) := by omega
        simp only [this, if_false, Int.add_zero]
        split <;> split <;> omega
      · rw [if_neg (by omega), if_neg (by omega), Int.add_zero]
    have rij : Ta n s.xs i j = T i j := by rw [hin i j hi hj, if_neg (by omega)]
    have nxt : ∀ (v : Int), v = exT T k i j → InSt n T k i (j + 1) ⟨s.xs.set (i * n + j) v, s.nn⟩ := by
      intro v hv
      refine ⟨by simp [hl], fun a b ha hb => ?_⟩
      rw [Ta_set hl hi hj ha hb]
      by_cases e : a = i ∧ b = j
      · obtain ⟨rfl, rfl⟩ := e
        rw [if_pos ⟨rfl, rfl⟩, if_pos (by omega)]; exact hv
      · rw [if_neg e, hin a b ha hb]
        by_cases c : a < i ∨ (a = i ∧ b < j)
        · rw [if_pos c, if_pos (by omega)]
        · rw [if_neg c, if_neg (by omega)]
    have same : T i j = exT T k i j → InSt n T k i (j + 1) s := by
      intro hv
      refine ⟨hl, fun a b ha hb => ?_⟩
      rw [hin a b ha hb]
      by_cases e : a = i ∧ b = j
      · obtain ⟨rfl, rfl⟩ := e
        rw [if_neg (by omega), if_pos (by omega)]; exact hv
      · by_cases c : a < i ∨ (a = i ∧ b < j)
        · rw [if_pos c, if_pos (by omega)]
        · rw [if_neg c, if_neg (by omega)]
    refine tot_bind (tot_bind (tot_eq (Ta_get hl hk hj rfl) ?_))
    rw [rkj]
    refine tot_ifd (fun h1 => tot_some (tot_some ⟨rfl, same ?_⟩)) (fun h1 => ?_)
    · unfold exT; rw [if_pos (.inr h1)]
    refine tot_bind (tot_eq (Ta_get hl hi hk rfl) (tot_bind (tot_eq (Ta_get hl hi hj rfl) ?_)))
    rw [rik, rij]
    have l1 := hlo hi hk; have l2 := hlo hk hj; have l3 := hlo hk hk; have u1 := hhi hi hk hfin; have u2 := hhi hk hj h1
    have hm : (if k < j ∧ T k k < 0 then T k k else 0) ≤ 0 ∧ T k k ≤ (if k < j ∧ T k k < 0 then T k k else 0) := by split <;> omega
    have hw : IntKind.i64.wrap (T i k + (if k < j ∧ T k k < 0 then T k k else 0) + T k j) = T i k + T k j + (if k < j ∧ T k k < 0 then T k k else 0) := by
      push_cast at l1 l2 l3 u1 u2
      rw [wrap_id (by omega) (by omega)]; omega
    rw [hw]
    have hex : exT T k i j = if T i k + T k j + (if k < j ∧ T k k < 0 then T k k else 0) < T i j then T i k + T k j + (if k < j ∧ T k k < 0 then T k k else 0) else T i j := by
      unfold exT; rw [if_neg (by omega)]
    refine tot_bind (tot_ifd (fun h2 => ?_) (fun h2 => ?_))
    · refine tot_bind (tot_eq (Ta_put hl hi hj rfl) (tot_some (tot_some (tot_some ⟨rfl, nxt _ ?_⟩))))
      rw [hex, if_pos h2]
    · exact tot_some (tot_some (tot_some ⟨rfl, same (by rw [hex, if_neg h2])⟩))
  · intro s hs
    unfold lychgateref04_Table_L3
    exact tot_ifd (fun hh => absurd hh (by simp only; omega)) (fun _ => tot_some hs)
end Go.Px
