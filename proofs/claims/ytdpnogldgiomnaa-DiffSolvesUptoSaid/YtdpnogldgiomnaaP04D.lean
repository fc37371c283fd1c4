/- The circle's check, and that the witnesses are awake. -/
import Derived.Test.YtdpnogldgiomnaaP04C
namespace Go.Px
set_option linter.unusedVariables false

theorem gmod_ok {a b : Int} (ha : 0 ≤ a) (hb : 0 < b) (hb2 : b ≤ 9223372036854775807) : gmod .i64 a b = some (a % b) := by
  unfold gmod
  rw [if_neg (by omega), Int.tmod_eq_emod_of_nonneg ha]
theorem sum_bound (p : Nat) (f : Nat → Int) (m : Int) (h : ∀ i, i < p → -m ≤ f i ∧ f i ≤ m) : -(p * m) ≤ ((List.range p).map f).sum ∧ ((List.range p).map f).sum ≤ p * m := by
  induction p with
  | zero => simp
  | succ p ih =>
    have h1 := ih fun i hi => h i (by omega)
    have h2 := h p (by omega)
    simp only [List.range_succ, List.map_append, List.sum_append, List.map_cons, List.map_nil, List.sum_cons, List.sum_nil]
    rw [show ((p + 1 : Nat) : Int) * m = p * m + m by push_cast; rw [Int.add_mul]; omega]
    omega
theorem circle_ok {n : Nat} {fs : Sl Leq} {c : Sl Int} (hf : Fit n fs.xs) (h : Circle fs.xs c.xs) (hl : c.xs.length ≤ n) : lychgatelaw04_circle fs c = some true := by
  apply tot_val
  have hn2 := hf.n2
  have hne := h.ne
  unfold lychgatelaw04_circle
  refine tot_bind ?_
  refine (tot_count2 c.xs.length (by omega) (fun j s => s = ((List.range j).map fun i => fc fs.xs (At c.xs i).toNat).sum) 0 (by simp)
    (Q := fun y => match y with | .a s => s < 0 | .b _ => False) ?_ ?_).mono ?_
  · rintro j s hj rfl
    unfold lychgatelaw04_circle_L1
    refine tot_ifd (fun _ => ?_) (fun hh => (hh (lt_len hj)).elim)
    have h1 := h.lt j hj
    have hj2 : (j + 1) % c.xs.length < c.xs.length := Nat.mod_lt _ hne
    have h2 := h.lt _ hj2
    refine tot_bind (tot_eq (at_gidx rfl rfl hj) ?_)
    refine tot_if (c := (decide (At c.xs j < 0) || decide (fs.len ≤ At c.xs j)) = true) (fun hh => ?_) (fun _ => ?_)
    · exfalso
      rw [decide_eq_false (by omega), decide_eq_false (by rw [sl_len]; omega)] at hh
      simp at hh
    have hw : IntKind.i64.wrap ((j : Int) + 1) = (j : Int) + 1 := wrap_id (by omega) (by omega)
    simp only
    rw [hw]
    refine tot_bind (tot_eq (gmod_ok (by omega) (by rw [sl_len]; omega) (by rw [sl_len]; omega)) (tot_bind (tot_eq (at_gidx (x := (j + 1) % c.xs.length) rfl (by rw [sl_len, Int.natCast_emod]; rfl) hj2) (tot_bind ?_))))
    have e1 : gidx fs (At c.xs j) = some (fs.xs.getD (At c.xs j).toNat default) := gidx_ok default h1.1 h1.2
    have e2 : gidx fs (At c.xs ((j + 1) % c.xs.length)) = some (fs.xs.getD (At c.xs ((j + 1) % c.xs.length)).toNat default) := gidx_ok default h2.1 h2.2
    obtain ⟨_, _, hc1, hc2, hX, hY⟩ := hf.at (i := (At c.xs j).toNat) (by omega)
    obtain ⟨_, _, _, _, hX', hY'⟩ := hf.at (i := (At c.xs ((j + 1) % c.xs.length)).toNat) (by omega)
    refine tot_if (c := (decide (At c.xs ((j + 1) % c.xs.length) < 0) || decide (fs.len ≤ At c.xs ((j + 1) % c.xs.length))) = true) (fun hh => ?_) (fun _ => ?_)
    · exfalso
      rw [decide_eq_false (by omega), decide_eq_false (by rw [sl_len]; omega)] at hh
      simp at hh
    refine tot_bind (tot_eq e1 (tot_bind (tot_eq e2 (tot_some ?_))))
    rw [hY, hX', h.link j hj]
    simp only [ne_eq, not_true_eq_false, decide_false, Bool.false_eq_true, if_false]
    refine tot_bind (tot_eq e1 (tot_some ⟨rfl, ?_⟩))
    have hb := sum_bound (j + 1) (fun i => fc fs.xs (At c.xs i).toNat) 8796093022208 fun i hi => by
      have := h.lt i (by omega)
      obtain ⟨_, _, k1, k2, _⟩ := hf.at (i := (At c.xs i).toNat) (by omega)
      exact ⟨k1, k2⟩
    have e3 : ((List.range (j + 1)).map fun i => fc fs.xs (At c.xs i).toNat).sum = ((List.range j).map fun i => fc fs.xs (At c.xs i).toNat).sum + (fs.xs.getD (At c.xs j).toNat default).C := by
      simp only [List.range_succ, List.map_append, List.sum_append, List.map_cons, List.map_nil, List.sum_cons, List.sum_nil]
      rw [Int.add_zero]; rfl
    rw [e3] at hb
    simp only
    rw [wrap_id (by omega) (by omega)]
    exact e3.symm
  · rintro s rfl
    unfold lychgatelaw04_circle_L1
    refine tot_ifd (fun hh => (nlt_len hh).elim) (fun _ => tot_some h.neg)
  · rintro (s | _) hs
    · have hs' : s < 0 := hs
      refine tot_some ?_
      rw [decide_eq_true hs', decide_eq_true (show 0 < c.len by rw [sl_len]; omega)]; rfl
    · exact hs.elim

theorem wakes_ok : lychgatelaw04_wakes = some true := by
  apply tot_val
  have hA : ∀ v : Int, -8796093022208 ≤ v → v < 8796093022208 → Tot (diff_Entails 3 (⟨0, 2, v⟩ : Leq) (⟨[(⟨0, 1, 2⟩ : Leq), (⟨1, 2, 3⟩ : Leq)], true⟩ : Sl Leq)) fun r => r.2 = 0 ∧ (r.1 = true ↔ 5 ≤ v) := by
    intro v h1 h2
    refine (entails_ok 3 (⟨0, 2, v⟩ : Leq) ⟨[(⟨0, 1, 2⟩ : Leq), (⟨1, 2, 3⟩ : Leq)], true⟩ (by simp) (by simp)).mono ?_
    rintro ⟨b, k⟩ ⟨e1, e2, e3⟩
    have hv : entV 3 (⟨0, 2, v⟩ : Leq) [(⟨0, 1, 2⟩ : Leq), (⟨1, 2, 3⟩ : Leq)] = 0 := by
      unfold entV
      have hfit : Fit 3 ([(⟨0, 1, 2⟩ : Leq), (⟨1, 2, 3⟩ : Leq)] ++ [(⟨0, 2, v⟩ : Leq)]) := by
        refine ⟨by omega, by omega, by simp, fun f hf => ?_⟩
        simp only [List.cons_append, List.nil_append, List.mem_cons, List.not_mem_nil, or_false] at hf
        rcases hf with rfl | rfl | rfl <;> simp only <;> omega
      have h0 : fitV 3 ([(⟨0, 1, 2⟩ : Leq), (⟨1, 2, 3⟩ : Leq)] ++ [(⟨0, 2, v⟩ : Leq)]) = 0 := fitV_ok hfit
      rw [h0, if_neg (by simp), if_neg (by simp only; omega)]
    simp only at e1 e2 e3 ⊢
    rw [hv] at e1
    refine ⟨e1, (e3 e1).trans ⟨fun h => ?_, fun h z hz => ?_⟩⟩
    · have := h (fun x => if x = 0 then 5 else if x = 1 then 3 else 0) (by
        intro i hi
        simp only [List.length_cons, List.length_nil] at hi
        rcases (show i = 0 ∨ i = 1 by omega) with rfl | rfl <;> simp [fx, fy, fc])
      simpa using this
    · have h1 := hz 0 (by simp)
      have h2 := hz 1 (by simp)
      simp [fx, fy, fc] at h1 h2
      simp
      omega
  unfold lychgatelaw04_wakes
  refine tot_bind ((hA 5 (by omega) (by omega)).mono fun r1 ⟨p1, q1⟩ => tot_bind ((hA 4 (by omega) (by omega)).mono fun r2 ⟨p2, q2⟩ => tot_bind ((solve_ok 2 (⟨[(⟨0, 1, (-1)⟩ : Leq), (⟨1, 0, 0⟩ : Leq)], true⟩ : Sl Leq)).mono fun r3 h3 => ?_)))
  have k1 : r1.1 = true := q1.2 (by omega)
  have k2 : r2.1 = false := by
    cases hb : r2.1
    · rfl
    · have := q2.1 hb; omega
  have hfit : Fit 2 [(⟨0, 1, (-1)⟩ : Leq), (⟨1, 0, 0⟩ : Leq)] := by
    refine ⟨by omega, by omega, by simp, fun f hf => ?_⟩
    simp only [List.mem_cons, List.not_mem_nil, or_false] at hf
    rcases hf with rfl | rfl <;> simp only <;> omega
  have hfv : fitV 2 [(⟨0, 1, (-1)⟩ : Leq), (⟨1, 0, 0⟩ : Leq)] = 0 := fitV_ok hfit
  refine tot_some ?_
  rw [k1, k2, p1, p2]
  cases h3 with
  | unfit h => exact absurd hfv h
  | circle c _ _ _ hC hl =>
    have hl2 : c.length ≤ 2 := hl
    have hne := hC.ne
    have h1 : c.length ≠ 1 := by
      intro h1
      have h2 := hC.link 0 (by omega)
      rw [h1] at h2
      have h3 := hC.lt 0 (by omega)
      simp only [List.length_cons, List.length_nil] at h3
      simp only [Nat.zero_add, Nat.mod_self] at h2
      rcases (show (At c 0).toNat = 0 ∨ (At c 0).toNat = 1 by omega) with e | e <;> rw [e] at h2 <;> simp [fx, fy] at h2
    have h2 : c.length = 2 := by omega
    simp [sl_len, h2]
  | best v d _ _ _ hB _ _ =>
    have h1 := hB.sol 0 (by simp)
    have h2 := hB.sol 1 (by simp)
    simp [fx, fy, fc] at h1 h2
    omega
end Go.Px
