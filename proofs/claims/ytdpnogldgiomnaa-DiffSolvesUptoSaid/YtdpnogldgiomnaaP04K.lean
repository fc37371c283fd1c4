/- The document's facts and its refusals, for the laws of chapter 04. -/
import Derived.Test.YtdpnogldgiomnaaP04E
import Derived.Test.YtdpnogldgiomnaaP04J
namespace Go.Px
set_option linter.unusedVariables false

theorem refs4_ok (l : Sl Leq) (hl : l.xs.length ≤ 1048576) : Tot (lychgatelaw04_refs l) fun r => r.xs = l.xs.map toRf := by
  unfold lychgatelaw04_refs
  refine tot_bind ?_
  refine (tot_count2 l.xs.length (by omega) (fun j s => s.xs = (l.xs.take j).map toRf) _ (by simp) (Q := fun y => y.xs = l.xs.map toRf) ?_ ?_).mono fun y hy => tot_some hy
  · rintro j s hj hs
    unfold lychgatelaw04_refs_L1
    refine tot_ifd (fun _ => ?_) (fun hh => (hh (lt_len hj)).elim)
    have hsl : s.xs.length = j := by rw [hs]; simp; omega
    refine tot_bind (tot_eq (fact_gidx rfl hj) (tot_bind (tot_eq (gapp_ok (by simp; omega) (by simp; omega)) (tot_some ⟨rfl, ?_⟩))))
    simp only
    rw [hs, List.take_add_one, List.map_append, List.getD_eq_getElem?_getD, List.getElem?_eq_getElem hj]
    rfl
  · rintro s hs
    unfold lychgatelaw04_refs_L1
    refine tot_ifd (fun hh => (nlt_len hh).elim) (fun _ => tot_some ?_)
    rw [List.take_length] at hs
    exact hs
theorem refFit_ok (n : Int) (fs : Sl Leq) (r : Sl Glychgateref04_Leq) (hr : r.xs = fs.xs.map toRf) : lychgateref04_Fit n r = some (fitV n fs.xs) := by
  have hrl : r.xs.length = fs.xs.length := by rw [hr]; simp
  apply tot_val
  unfold lychgateref04_Fit fitV
  refine tot_ifd (fun h => ?_) (fun h => ?_)
  · have h' : (768 : Int) < (r.xs.length : Nat) := h
    rw [if_pos (show 768 < fs.xs.length by omega)]; exact tot_some rfl
  · have h' : ¬ (768 : Int) < (r.xs.length : Nat) := h
    rw [if_neg (show ¬ 768 < fs.xs.length by omega)]
    refine tot_if (fun h1 => ?_) (fun h1 => ?_)
    · rw [if_pos (show n < 1 ∨ 96 < n by simpa using h1)]; exact tot_some rfl
    · rw [if_neg (show ¬ (n < 1 ∨ 96 < n) by simpa using h1)]
      refine tot_bind ?_
      refine (tot_count r.xs.length (by omega) (fun j => ∀ i, i < j → badB (fs.xs.getD i default) n = false) (fun i hi => by omega) (Q := fun y => match y with | .a _ => fs.xs.any (fun f => badB f n) = false | .b _ => fs.xs.any (fun f => badB f n) = true) ?_ ?_).mono ?_
      · intro j hj hP
        unfold lychgateref04_Fit_L1
        refine tot_ifd (fun _ => ?_) (fun hh => (hh (lt_len hj)).elim)
        refine tot_bind (tot_eq (rf_idx hr (by omega)) ?_)
        refine tot_if (c := badB (fs.xs.getD j default) n = true) (fun hp => tot_some ?_) (fun hp => tot_some ⟨rfl, ?_⟩)
        · exact List.any_eq_true.2 ⟨_, getD_mem default (by omega), hp⟩
        · intro i hi
          by_cases e : i = j
          · subst e; simpa using hp
          · exact hP i (by omega)
      · intro hP
        unfold lychgateref04_Fit_L1
        refine tot_ifd (fun h => (nlt_len h).elim) (fun _ => tot_some ?_)
        refine List.any_eq_false.2 fun x hx => ?_
        obtain ⟨i, hi, rfl⟩ := List.getElem_of_mem hx
        have := hP i (by omega)
        rw [List.getD_eq_getElem?_getD, List.getElem?_eq_getElem hi] at this
        simp only [Option.getD_some] at this
        rw [this]; simp
      · rintro (_ | _) h
        · refine tot_some ?_
          rw [show fs.xs.any (fun f => badB f n) = false from h]; rfl
        · refine tot_some ?_
          rw [show fs.xs.any (fun f => badB f n) = true from h]; rfl
end Go.Px
