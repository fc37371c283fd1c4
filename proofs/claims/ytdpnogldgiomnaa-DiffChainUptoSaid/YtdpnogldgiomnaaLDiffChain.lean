/- DiffChain, plainly. -/
import Derived.Test.YtdpnogldgiomnaaP04E
namespace Go.Px
set_option linter.unusedVariables false

def cstep (a0 : Sl Int) (i : Nat) : Int := clamp 1073741824 (At a0.xs i)
def csum (a0 : Sl Int) (n : Nat) : Int := ((List.range n).map (cstep a0)).sum
def cfact (a0 : Sl Int) (i : Nat) : Leq := ⟨i, ((i + 1 : Nat) : Int), cstep a0 i⟩
theorem csum_succ (a0 : Sl Int) (n : Nat) : csum a0 (n + 1) = csum a0 n + cstep a0 n := by
  unfold csum
  simp only [List.range_succ, List.map_append, List.sum_append, List.map_cons, List.map_nil, List.sum_cons, List.sum_nil]
  omega
theorem cstep_le (a0 : Sl Int) (i : Nat) : -1073741824 ≤ cstep a0 i ∧ cstep a0 i ≤ 1073741824 := clamp_le (by omega)
theorem csum_le (a0 : Sl Int) (n : Nat) (h : n ≤ 95) : -102005473280 ≤ csum a0 n ∧ csum a0 n ≤ 102005473280 := by
  have := sum_bound n (cstep a0) 1073741824 fun i _ => cstep_le a0 i
  unfold csum
  omega
theorem chain_facts (a0 : Sl Int) (n : Nat) (hn : (if 95 < a0.len then 95 else a0.len) = (n : Int)) (hl : n ≤ a0.xs.length) (h95 : n ≤ 95) :
    Tot (loopO (lychgatelaw04_DiffChain_L1 a0) (0, (⟨[], false⟩ : Sl Leq), 0)) fun y => y.1 = csum a0 n ∧ y.2.xs = (List.range n).map (cfact a0) ∧ (y.2.nn = false → y.2.xs = []) := by
  refine tot_loop (fun x : Int × Sl Leq × Int => ∃ j : Nat, j ≤ n ∧ x.2.2 = j ∧ x.1 = csum a0 j ∧ x.2.1.xs = (List.range j).map (cfact a0) ∧ (x.2.1.nn = false → x.2.1.xs = []))
    (fun x : Int × Sl Leq × Int => n - x.2.2.toNat) ?_ _ ⟨0, by omega, rfl, by simp [csum], rfl, fun _ => rfl⟩
  rintro ⟨t, q, i⟩ ⟨j, hj, hi, ht, hq, hnil⟩
  simp only at hi ht hq hnil
  subst hi; subst ht
  unfold lychgatelaw04_DiffChain_L1
  simp only [hn]
  refine tot_ifd (fun h => ?_) (fun h => ?_)
  · have hjn : j < n := by omega
    have hql : q.xs.length = j := by rw [hq]; simp
    have b1 := csum_le a0 j (by omega)
    have b2 := cstep_le a0 j
    have hw : IntKind.i64.wrap ((j : Int) + 1) = ((j + 1 : Nat) : Int) := by rw [wrap_id (by omega) (by omega)]; omega
    refine tot_bind (tot_eq (at_gidx rfl rfl (by omega)) (tot_bind (tot_eq (gapp_ok (by simp; omega) (by simp; omega)) (tot_some ⟨⟨j + 1, by omega, hw, ?_, ?_, by simp⟩, by simp only; rw [hw]; omega⟩))))
    · show IntKind.i64.wrap (csum a0 j + cstep a0 j) = csum a0 (j + 1)
      rw [csum_succ, wrap_id (by omega) (by omega)]
    · simp only
      rw [hw, hq, List.range_succ, List.map_append]; rfl
  · have hjn : j = n := by omega
    subst hjn
    exact tot_some ⟨rfl, hq, hnil⟩
theorem chain_sol {a0 : Sl Int} {n : Nat} {z : Nat → Int} : Sol ((List.range n).map (cfact a0)) z ↔ ∀ i, i < n → z i ≤ z (i + 1) + cstep a0 i := by
  rw [sol_mem]
  constructor
  · intro h i hi
    have := h (cfact a0 i) (List.mem_map.2 ⟨i, List.mem_range.2 hi, rfl⟩)
    simpa [cfact] using this
  · intro h f hf
    obtain ⟨i, hi, rfl⟩ := List.mem_map.1 hf
    have := h i (List.mem_range.1 hi)
    simpa [cfact] using this
theorem chain_le {a0 : Sl Int} {z : Nat → Int} : ∀ n, (∀ i, i < n → z i ≤ z (i + 1) + cstep a0 i) → z 0 ≤ z n + csum a0 n
  | 0, _ => by simp [csum]
  | n + 1, h => by
    have h1 := chain_le n fun i hi => h i (by omega)
    have h2 := h n (by omega)
    rw [csum_succ]; omega
theorem diffChain_law (a0 : Sl Int) (hw : ((a0.xs.map (fun y => 1)).sum + 1) ≤ 1048576) (g0 : ((a0.nn = false → a0.xs = []) ∧ a0.xs.length ≤ maxLen ∧ ∀ y ∈ a0.xs, (IntKind.i64.min ≤ y ∧ y ≤ IntKind.i64.max))) : lychgatelaw04_DiffChain a0 = some true := by
  apply tot_val
  unfold lychgatelaw04_DiffChain
  refine tot_bind (tot_eq wakes_ok ?_)
  simp only [Bool.not_true, Bool.false_eq_true, if_false]
  obtain ⟨n, hn⟩ : ∃ n : Nat, (if 95 < a0.len then 95 else a0.len) = (n : Int) := by
    refine ⟨(if 95 < a0.len then 95 else a0.len).toNat, ?_⟩
    rw [sl_len]; split <;> omega
  have hn95 : n ≤ 95 := by rw [sl_len] at hn; split at hn <;> omega
  have hnl : n ≤ a0.xs.length := by rw [sl_len] at hn; split at hn <;> omega
  simp only [hn]
  refine tot_bind ((chain_facts a0 n hn hnl hn95).mono fun y ⟨y1, y2, y3⟩ => tot_ifd (fun _ => tot_some rfl) (fun h0 => ?_))
  have hw : IntKind.i64.wrap ((n : Int) + 1) = ((n + 1 : Nat) : Int) := by rw [wrap_id (by omega) (by omega)]; omega
  have b1 := csum_le a0 n hn95
  have hw2 : IntKind.i64.wrap (y.1 - 1) = csum a0 n - 1 := by rw [y1, wrap_id (by omega) (by omega)]
  rw [hw, hw2, y1]
  have hyl : y.2.xs.length = n := by rw [y2]; simp
  have hE : ∀ a b c : Int, 0 ≤ a → a ≤ n → 0 ≤ b → b ≤ n → -8796093022208 ≤ c → c < 8796093022208 →
      Tot (diff_Entails ((n + 1 : Nat) : Int) (⟨a, b, c⟩ : Leq) y.2) fun r => r.2 = 0 ∧ (r.1 = true ↔ ∀ z : Nat → Int, (∀ i, i < n → z i ≤ z (i + 1) + cstep a0 i) → z a.toNat ≤ z b.toNat + c) := by
    intro a b c k1 k2 k3 k4 k5 k6
    refine (entails_ok ((n + 1 : Nat) : Int) (⟨a, b, c⟩ : Leq) y.2 (by omega) y3).mono ?_
    rintro ⟨r, k⟩ ⟨e1, e2, e3⟩
    have hfit : Fit (n + 1) (y.2.xs ++ [(⟨a, b, c⟩ : Leq)]) := by
      refine ⟨by omega, by omega, by simp; omega, fun f hf => ?_⟩
      rcases List.mem_append.1 hf with h | h
      · rw [y2] at h
        obtain ⟨i, hi, rfl⟩ := List.mem_map.1 h
        have := List.mem_range.1 hi
        have := cstep_le a0 i
        simp only [cfact]
        omega
      · simp only [List.mem_cons, List.not_mem_nil, or_false] at h
        subst h; simp only; omega
    have hv : entV ((n + 1 : Nat) : Int) (⟨a, b, c⟩ : Leq) y.2.xs = 0 := by
      unfold entV
      rw [fitV_ok hfit, if_neg (by simp), if_neg (by simp only; omega)]
    rw [hv] at e1
    refine ⟨e1, (e3 e1).trans ?_⟩
    unfold Ent
    rw [y2]
    exact ⟨fun h z hz => h z (chain_sol.2 hz), fun h z hz => h z (chain_sol.1 hz)⟩
  refine tot_bind ((hE 0 n (csum a0 n) (by omega) (by omega) (by omega) (by omega) (by omega) (by omega)).mono fun r1 ⟨p1, q1⟩ => tot_bind ((hE 0 n (csum a0 n - 1) (by omega) (by omega) (by omega) (by omega) (by omega) (by omega)).mono fun r2 ⟨p2, q2⟩ =>
    tot_bind ((hE n 0 1099511627776 (by omega) (by omega) (by omega) (by omega) (by omega) (by omega)).mono fun r3 ⟨p3, q3⟩ => ?_)))
  have k1 : r1.1 = true := q1.2 fun z hz => by
    have := chain_le n hz
    simpa using this
  have k2 : r2.1 = false := by
    cases hb : r2.1
    · rfl
    · have := q2.1 hb (fun i => - csum a0 i) (fun i hi => by rw [csum_succ]; omega)
      simp [csum] at this
      omega
  have k3 : r3.1 = false := by
    cases hb : r3.1
    · rfl
    · have := q3.1 hb (fun i => (i : Int) * 2199023255552) (fun i hi => by have := cstep_le a0 i; push_cast; omega)
      simp at this
      omega
  refine tot_some ?_
  rw [k1, k2, k3, p1, p2, p3]; rfl
end Go.Px
