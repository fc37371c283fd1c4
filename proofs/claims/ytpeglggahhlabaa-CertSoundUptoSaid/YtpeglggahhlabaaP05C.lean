/- The document's Circle and Holds. -/
import Derived.Test.YtpeglggahhlabaaP05B
namespace Go.Px
set_option linter.unusedVariables false

def toRef (f : Leq) : Glychgateref04_Leq := ⟨f.X, f.Y, f.C⟩
theorem refs_ok (l : Sl Leq) (hl : l.xs.length ≤ 1048576) : Tot (lychgatelaw05_refs l) fun r => r.xs = l.xs.map toRef := by
  unfold lychgatelaw05_refs
  refine tot_bind ?_
  refine (tot_count2 l.xs.length (by omega) (fun j s => s.xs = (l.xs.take j).map toRef) _ (by simp) (Q := fun y => y.xs = l.xs.map toRef) ?_ ?_).mono fun y hy => tot_some hy
  · rintro j s hj hs
    unfold lychgatelaw05_refs_L1
    refine tot_ifd (fun _ => ?_) (fun hh => (hh (lt_len hj)).elim)
    have hsl : s.xs.length = j := by rw [hs]; simp; omega
    refine tot_bind (tot_eq (fact_gidx rfl hj) (tot_bind (tot_eq (gapp_ok (by simp; omega) (by simp; omega)) (tot_some ⟨rfl, ?_⟩))))
    simp only
    rw [hs, List.take_add_one, List.map_append, List.getD_eq_getElem?_getD, List.getElem?_eq_getElem hj]
    rfl
  · rintro s hs
    unfold lychgatelaw05_refs_L1
    refine tot_ifd (fun hh => (nlt_len hh).elim) (fun _ => tot_some ?_)
    rw [List.take_length] at hs
    exact hs
theorem ref_idx {fs : Sl Leq} {r : Sl Glychgateref04_Leq} (hr : r.xs = fs.xs.map toRef) {k : Int} (h0 : 0 ≤ k) (h1 : k < fs.xs.length) : gidx r k = some (toRef (fs.xs.getD k.toNat default)) := by
  rw [gidx_ok default h0 (by rw [hr]; simpa using h1), hr]
  simp only [List.getD_eq_getElem?_getD, List.getElem?_map]
  rw [List.getElem?_eq_getElem (by omega)]
  rfl
theorem refCircle_ok (c : Sl Int) (fs : Sl Leq) (r : Sl Glychgateref04_Leq) (hr : r.xs = fs.xs.map toRef) (hl : c.xs.length ≤ 1048576) : Tot (lychgateref05_Circle c r) fun b => b = true ↔ Circ fs.xs c.xs := by
  have hrl : r.len = (fs.xs.length : Int) := by rw [sl_len, hr]; simp
  unfold lychgateref05_Circle
  refine tot_if (fun h => ?_) (fun h => ?_)
  · simp only [Bool.or_eq_true, decide_eq_true_eq] at h; simp only [sl_len] at h
    refine tot_some ⟨fun h2 => by simp at h2, fun h2 => ?_⟩
    have := h2.1; have := h2.2.1
    omega
  simp only [Bool.or_eq_true, decide_eq_true_eq] at h; simp only [sl_len] at h
  refine tot_bind ?_
  refine (tot_count c.xs.length (by omega) (fun j => ∀ i, i < j → OkK fs.xs (At c.xs i)) (fun i hi => by omega) (Q := fun y => match y with | .a _ => ∀ i, i < c.xs.length → OkK fs.xs (At c.xs i) | .b _ => ∃ i, i < c.xs.length ∧ ¬ OkK fs.xs (At c.xs i)) ?_ ?_).mono ?_
  · intro j hj hP
    unfold lychgateref05_Circle_L1
    refine tot_ifd (fun _ => ?_) (fun hh => (hh (lt_len hj)).elim)
    have ec : gidx c (j : Int) = some (At c.xs j) := at_gidx rfl rfl hj
    refine tot_bind (tot_eq ec (tot_bind ?_))
    have h18 : Tot (if decide (At c.xs j < 0) = true then some true else Option.bind (gidx c (j : Int)) fun x_19 => some (decide (r.len ≤ x_19))) fun b => b = true ↔ ¬ (0 ≤ At c.xs j ∧ At c.xs j < fs.xs.length) := by
      refine tot_ifd (fun h2 => tot_some ⟨fun _ => by omega, fun _ => rfl⟩) (fun h2 => tot_bind (tot_eq ec (tot_some ?_)))
      rw [decide_eq_true_eq, hrl]; omega
    refine h18.mono fun b hb => tot_ifb (fun h2 => tot_some ⟨j, hj, fun ho => hb.1 h2 ⟨ho.1, ho.2.1⟩⟩) (fun h2 => ?_)
    have hin : 0 ≤ At c.xs j ∧ At c.xs j < fs.xs.length := Classical.not_not.1 fun hno => by have := hb.2 hno; rw [h2] at this; simp at this
    refine tot_bind (tot_eq ec (tot_bind (tot_eq (ref_idx hr hin.1 hin.2) ?_)))
    refine tot_if (fun h3 => tot_some ⟨j, hj, fun ho => ?_⟩) (fun h3 => tot_some ⟨rfl, fun i hi => ?_⟩)
    · simp only [Bool.or_eq_true, decide_eq_true_eq] at h3
      have h4 := ho.2.2
      have h5 : 17592186044416 < gC fs.xs (At c.xs j) ∨ gC fs.xs (At c.xs j) < -17592186044416 := h3
      omega
    · by_cases e : i = j
      · subst e
        simp only [Bool.or_eq_true, decide_eq_true_eq] at h3
        have h5 : ¬ (17592186044416 < gC fs.xs (At c.xs i) ∨ gC fs.xs (At c.xs i) < -17592186044416) := h3
        exact ⟨hin.1, hin.2, by omega, by omega⟩
      · exact hP i (by omega)
  · intro hP
    unfold lychgateref05_Circle_L1
    exact tot_ifd (fun hh => (nlt_len hh).elim) (fun _ => tot_some hP)
  · rintro (_ | _) hK
    · have hK' : ∀ i, i < c.xs.length → OkK fs.xs (At c.xs i) := hK
      refine tot_bind ?_
      refine (tot_count2 c.xs.length (by omega) (fun j s => s = ((List.range j).map fun i => gC fs.xs (At c.xs i)).sum ∧ ∀ i, i < j → gY fs.xs (At c.xs i) = gX fs.xs (At c.xs ((i + 1) % c.xs.length))) 0 ⟨by simp, fun i hi => by omega⟩
        (Q := fun y => match y with | .a s => s = ((List.range c.xs.length).map fun i => gC fs.xs (At c.xs i)).sum ∧ ∀ i, i < c.xs.length → gY fs.xs (At c.xs i) = gX fs.xs (At c.xs ((i + 1) % c.xs.length)) | .b _ => ∃ i, i < c.xs.length ∧ gY fs.xs (At c.xs i) ≠ gX fs.xs (At c.xs ((i + 1) % c.xs.length))) ?_ ?_).mono ?_
      · rintro j s hj ⟨hs, hlk⟩
        unfold lychgateref05_Circle_L2
        refine tot_ifd (fun _ => ?_) (fun hh => (hh (lt_len hj)).elim)
        have hm : (j + 1) % c.xs.length < c.xs.length := Nat.mod_lt _ (by omega)
        have hnx : IntKind.i64.wrap ((j : Int) + 1) = ((j + 1 : Nat) : Int) := by rw [wrap_id (by omega) (by omega)]; omega
        have hl1 : IntKind.i64.wrap (c.len - 1) = (c.xs.length : Int) - 1 := by rw [sl_len]; exact wrap_id (by omega) (by omega)
        have h45 : Tot (if decide ((j : Int) < IntKind.i64.wrap (c.len - 1)) = true then (some (IntKind.i64.wrap ((j : Int) + 1)) : Option Int) else (some 0 : Option Int)) fun y => y = (((j + 1) % c.xs.length : Nat) : Int) := by
          rw [hl1, hnx]
          refine tot_ifd (fun h2 => tot_some ?_) (fun h2 => tot_some ?_)
          · rw [Nat.mod_eq_of_lt (by omega)]
          · rw [show j + 1 = c.xs.length by omega, Nat.mod_self]; rfl
        have k1 := hK' j hj
        have k2 := hK' _ hm
        have ec : gidx c (j : Int) = some (At c.xs j) := at_gidx rfl rfl hj
        have er := ref_idx hr k1.1 k1.2.1
        refine tot_bind (h45.mono fun y hy => ?_)
        subst hy
        refine tot_bind (tot_eq ec (tot_bind (tot_eq er (tot_bind (tot_eq (at_gidx rfl rfl hm) (tot_bind (tot_eq (ref_idx hr k2.1 k2.2.1) ?_)))))))
        refine tot_ifd (fun h2 => tot_some ⟨j, hj, h2⟩) (fun h2 => ?_)
        refine tot_bind (tot_eq ec (tot_bind (tot_eq er (tot_some ⟨rfl, ?_, fun i hi => ?_⟩))))
        · have hb := sumK hK' (by omega) (j + 1) (by omega)
          rw [sum_snoc] at hb ⊢
          rw [hs]
          show IntKind.i64.wrap (((List.range j).map fun i => gC fs.xs (At c.xs i)).sum + gC fs.xs (At c.xs j)) = _
          exact wrap_id (by omega) (by omega)
        · by_cases e : i = j
          · subst e; exact Classical.not_not.1 h2
          · exact hlk i (by omega)
      · rintro s ⟨hs, hlk⟩
        unfold lychgateref05_Circle_L2
        exact tot_ifd (fun hh => (nlt_len hh).elim) (fun _ => tot_some ⟨hs, hlk⟩)
      · rintro (s | _) hs
        · obtain ⟨h1, h2⟩ := hs
          refine tot_some ?_
          rw [decide_eq_true_eq, h1]
          exact ⟨fun h3 => ⟨by omega, by omega, hK', h2, h3⟩, fun h3 => h3.2.2.2.2⟩
        · obtain ⟨i, h1, h2⟩ := hs
          exact tot_some ⟨fun h3 => by simp at h3, fun h3 => absurd (h3.2.2.2.1 i h1) h2⟩
    · obtain ⟨i, h1, h2⟩ := hK
      exact tot_some ⟨fun h3 => by simp at h3, fun h3 => absurd (h3.2.2.1 i h1) h2⟩
theorem refHolds_ok (v : Sl Int) (fs : Sl Leq) (r : Sl Glychgateref04_Leq) (hr : r.xs = fs.xs.map toRef) (hl : fs.xs.length ≤ 1048576) : Tot (lychgateref05_Holds v r) fun b => b = true ↔ HoldsP v.xs fs.xs := by
  have hrl : r.xs.length = fs.xs.length := by rw [hr]; simp
  unfold lychgateref05_Holds
  refine tot_bind ?_
  refine (tot_count r.xs.length (by omega) (fun j => ∀ i, i < j → OkH v.xs (fs.xs.getD i default)) (fun i hi => by omega) (Q := fun y => match y with | .a _ => ∀ i, i < fs.xs.length → OkH v.xs (fs.xs.getD i default) | .b _ => ∃ i, i < fs.xs.length ∧ ¬ OkH v.xs (fs.xs.getD i default)) ?_ ?_).mono ?_
  · intro j hj hP
    unfold lychgateref05_Holds_L1
    refine tot_ifd (fun _ => ?_) (fun hh => (hh (lt_len hj)).elim)
    have er := ref_idx hr (k := (j : Int)) (by omega) (by omega)
    rw [Int.toNat_natCast] at er
    refine tot_bind (tot_eq er ?_)
    have hjf : j < fs.xs.length := by omega
    have hstep : OkH v.xs (fs.xs.getD j default) → ∀ i, i < j + 1 → OkH v.xs (fs.xs.getD i default) := fun h i hi => by
      by_cases e : i = j
      · subst e; exact h
      · exact hP i (by omega)
    generalize hf : fs.xs.getD j default = f at hstep
    have hbad : ∀ h : ¬ OkH v.xs f, ∃ i, i < fs.xs.length ∧ ¬ OkH v.xs (fs.xs.getD i default) := fun h => ⟨j, hjf, by rw [hf]; exact h⟩
    refine tot_if (c := (((((decide (f.X < 0) || decide (v.len ≤ f.X)) || decide (f.Y < 0)) || decide (v.len ≤ f.Y)) || decide (17592186044416 < f.C)) || decide (f.C < (-17592186044416))) = true) (fun h => tot_some (hbad fun ho => ?_)) (fun h => ?_)
    · simp only [Bool.or_eq_true, decide_eq_true_eq] at h; simp only [sl_len] at h
      unfold OkH at ho; omega
    · simp only [Bool.or_eq_true, decide_eq_true_eq] at h; simp only [sl_len] at h
      refine tot_bind (tot_eq (at_gidx (x := f.X.toNat) rfl (show f.X = (f.X.toNat : Int) by omega) (by omega)) (tot_bind (tot_eq (at_gidx (x := f.Y.toNat) rfl (show f.Y = (f.Y.toNat : Int) by omega) (by omega)) ?_)))
      refine tot_if (c := ((((decide (4503599627370496 < At v.xs f.X.toNat) || decide (At v.xs f.X.toNat < (-4503599627370496))) || decide (4503599627370496 < At v.xs f.Y.toNat)) || decide (At v.xs f.Y.toNat < (-4503599627370496))) || decide (f.C < (IntKind.i64.wrap (At v.xs f.X.toNat - At v.xs f.Y.toNat)))) = true) (fun h2 => tot_some (hbad fun ho => ?_)) (fun h2 => tot_some ⟨rfl, hstep ?_⟩)
      · simp only [Bool.or_eq_true, decide_eq_true_eq] at h2
        unfold OkH at ho
        have hw : IntKind.i64.wrap (At v.xs f.X.toNat - At v.xs f.Y.toNat) = At v.xs f.X.toNat - At v.xs f.Y.toNat := wrap_id (by omega) (by omega)
        rw [hw] at h2
        omega
      · simp only [Bool.or_eq_true, decide_eq_true_eq, not_or] at h2
        obtain ⟨⟨⟨⟨a1, a2⟩, a3⟩, a4⟩, a5⟩ := h2
        have hw : IntKind.i64.wrap (At v.xs f.X.toNat - At v.xs f.Y.toNat) = At v.xs f.X.toNat - At v.xs f.Y.toNat := wrap_id (by omega) (by omega)
        rw [hw] at a5
        unfold OkH; omega
  · intro hP
    unfold lychgateref05_Holds_L1
    exact tot_ifd (fun hh => (nlt_len hh).elim) (fun _ => tot_some (by rw [hrl] at hP; exact hP))
  · rintro (_ | _) h
    · refine tot_some ⟨fun _ f hf => ?_, fun _ => rfl⟩
      obtain ⟨i, hi, rfl⟩ := List.getElem_of_mem hf
      have h' : ∀ i, i < fs.xs.length → OkH v.xs (fs.xs.getD i default) := h
      have := h' i hi
      rw [List.getD_eq_getElem?_getD, List.getElem?_eq_getElem hi] at this
      exact this
    · obtain ⟨i, h1, h2⟩ := h
      exact tot_some ⟨fun h3 => by simp at h3, fun h3 => absurd (h3 _ (getD_mem default h1)) h2⟩
theorem len_of_w {α : Type} (l : List α) (w : α → Nat) (h : ∀ x, 1 ≤ w x) (m : Nat) (hm : (l.map w).sum ≤ m) : l.length ≤ m := by
  have : l.length ≤ (l.map w).sum := by
    clear hm
    induction l with
    | nil => simp
    | cons a l ih => have := h a; simp only [List.length_cons, List.map_cons, List.sum_cons]; omega
  omega
end Go.Px
