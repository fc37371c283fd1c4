/- CertTurned, plainly. -/
import Derived.Test.YtpeglggahhlabaaP05T
namespace Go.Px
set_option linter.unusedVariables false

theorem range_snoc' (g : Nat → Int) (q : Nat) : (List.range q).map g ++ [g q] = (List.range (q + 1)).map g := by rw [List.range_succ, List.map_append]; rfl
theorem sum_turn (p : Nat) (g : Nat → Int) : ((List.range p).map fun i => g ((i + 1) % p)).sum = ((List.range p).map g).sum := by
  cases p with
  | zero => rfl
  | succ q =>
    rw [List.range_succ, List.map_append, List.sum_append]
    have h1 : ((List.range q).map fun i => g ((i + 1) % (q + 1))) = (List.range q).map fun i => g (i + 1) := by
      apply List.map_congr_left
      intro i hi
      rw [Nat.mod_eq_of_lt (by have := List.mem_range.1 hi; omega)]
    have h2 : (List.range (q + 1)).map g = g 0 :: (List.range q).map fun i => g (i + 1) := by
      rw [List.range_succ_eq_map, List.map_cons, List.map_map]; rfl
    have h3 : ((List.range q).map g ++ [g q]).sum = ((List.range (q + 1)).map g).sum := by rw [range_snoc' g q]
    rw [h1]
    simp only [List.map_append, List.map_cons, List.map_nil, Nat.mod_self]
    rw [h3, h2, List.sum_cons]
    simp only [List.sum_cons, List.sum_nil]
    omega
theorem sum_shift (p : Nat) (g : Nat → Int) : ∀ b, ((List.range p).map fun i => g ((i + b) % p)).sum = ((List.range p).map g).sum
  | 0 => by
    congr 1; apply List.map_congr_left; intro i hi; rw [Nat.add_zero, Nat.mod_eq_of_lt (List.mem_range.1 hi)]
  | b + 1 => by
    rw [← sum_shift p g b, ← sum_turn p fun j => g ((j + b) % p)]
    congr 1; apply List.map_congr_left; intro i hi
    rw [Nat.mod_add_mod, show i + (b + 1) = i + 1 + b by omega]
def cl (x : Int) : Int := if (-1099511627776) < (if 1099511627776 < x then 1099511627776 else x) then (if 1099511627776 < x then 1099511627776 else x) else (-1099511627776)
theorem cl_bound (x : Int) : -1099511627776 ≤ cl x ∧ cl x ≤ 1099511627776 := by unfold cl; omega
theorem cl_sum (s : List Int) : ∀ j : Nat, -(j * 1099511627776 : Int) ≤ ((List.range j).map fun i => cl (At s i)).sum ∧ ((List.range j).map fun i => cl (At s i)).sum ≤ j * 1099511627776
  | 0 => by simp
  | j + 1 => by
    have := cl_sum s j
    have h := cl_bound (At s j)
    rw [sum_snoc]
    push_cast
    omega
theorem gmod_nat (a n : Nat) (h : 0 < n) : gmod .i64 (a : Int) (n : Int) = some (((a % n : Nat)) : Int) := by
  unfold gmod; rw [if_neg (by omega), Int.tmod_eq_emod_of_nonneg (by omega)]; rfl
def ft (s : List Int) (n i : Nat) : Leq := ⟨i, (((i + 1) % n : Nat) : Int), cl (At s i)⟩
def cyc (n q i : Nat) : Int := (((i + q) % n : Nat) : Int)
theorem at_map {f : Nat → Int} {m i : Nat} (h : i < m) : At ((List.range m).map f) i = f i := by simp [At, List.getD_eq_getElem?_getD, h]
theorem fact_at {s : List Int} {n j : Nat} (h : j < n) : ((List.range n).map (ft s n)).getD j default = ft s n j := by simp [List.getD_eq_getElem?_getD, h]
theorem ft_ok {s : List Int} {n j : Nat} (h : j < n) : OkK ((List.range n).map (ft s n)) (j : Int) := by
  have := cl_bound (At s j)
  refine ⟨by omega, by simp; omega, ?_, ?_⟩ <;> (unfold gC; rw [Int.toNat_natCast, fact_at h]; simp only [ft]; omega)
theorem circ_m (s : List Int) {n q m : Nat} (hn : 2 ≤ n) (hm : n ∣ m) (h0 : 0 < m) (h1 : m ≤ 65536) : Circ ((List.range n).map (ft s n)) ((List.range m).map (cyc n q)) ↔ ((List.range m).map fun i => cl (At s ((i + q) % n))).sum < 0 := by
  have hlt : ∀ i, (i + q) % n < n := fun i => Nat.mod_lt _ (by omega)
  have hs : ((List.range m).map fun i => gC ((List.range n).map (ft s n)) (At ((List.range m).map (cyc n q)) i)) = (List.range m).map fun i => cl (At s ((i + q) % n)) := by
    apply List.map_congr_left
    intro i hi
    rw [at_map (List.mem_range.1 hi)]
    unfold gC cyc
    rw [Int.toNat_natCast, fact_at (hlt i)]; rfl
  unfold Circ
  rw [List.length_map, List.length_range, hs]
  refine ⟨fun h => h.2.2.2.2, fun h => ⟨h0, h1, fun i hi => ?_, fun i hi => ?_, h⟩⟩
  · rw [at_map hi]; exact ft_ok (hlt i)
  · rw [at_map hi, at_map (Nat.mod_lt _ h0)]
    unfold gX gY cyc
    rw [Int.toNat_natCast, Int.toNat_natCast, fact_at (hlt i), fact_at (hlt _)]
    simp only [ft]
    congr 1
    rw [Nat.mod_add_mod, ← Nat.mod_add_mod ((i + 1) % m) n q, Nat.mod_mod_of_dvd _ hm, Nat.mod_add_mod, show i + q + 1 = i + 1 + q by omega]
theorem circ_tail (s : List Int) {n q : Nat} (hn : 2 ≤ n) : ¬ Circ ((List.range n).map (ft s n)) (((List.range n).map (cyc n q)).drop 1) := by
  have hlt : ∀ i, (i + q) % n < n := fun i => Nat.mod_lt _ (by omega)
  have hat : ∀ i, i < n - 1 → At (((List.range n).map (cyc n q)).drop 1) i = cyc n q (1 + i) := fun i hi => by
    have : i + 1 < n := by omega
    simp [At, List.getD_eq_getElem?_getD, this, Nat.add_comm]
  rintro ⟨_, _, _, h, _⟩
  have hl : (((List.range n).map (cyc n q)).drop 1).length = n - 1 := by simp
  have := h (n - 2) (by omega)
  rw [hl, show (n - 2 + 1) % (n - 1) = 0 by rw [show n - 2 + 1 = n - 1 by omega, Nat.mod_self], hat _ (by omega), hat _ (by omega)] at this
  unfold gX gY cyc at this
  rw [Int.toNat_natCast, Int.toNat_natCast, fact_at (hlt _), fact_at (hlt _)] at this
  simp only [ft] at this
  have h2 : (1 + (n - 2) + q) % n + 1 = n ∨ (1 + (n - 2) + q) % n + 1 < n := by have := hlt (1 + (n - 2)); omega
  have h3 : ((1 + (n - 2) + q) % n + 1) % n = (1 + 0 + q) % n := by exact_mod_cast this
  rw [Nat.mod_add_mod, show 1 + (n - 2) + q + 1 = n + q by omega, Nat.add_mod_left, Nat.add_zero] at h3
  have h4 := Nat.mod_add_mod q n 1
  rw [Nat.add_comm 1 q, ← h4] at h3
  have h5 := Nat.mod_lt q (show 0 < n by omega)
  by_cases h6 : q % n + 1 < n
  · rw [Nat.mod_eq_of_lt h6] at h3; omega
  · rw [show q % n + 1 = n by omega, Nat.mod_self] at h3; omega
theorem cyc_two (n q : Nat) : (List.range n).map (cyc n q) ++ (List.range n).map (cyc n q) = (List.range (n + n)).map (cyc n q) := by
  rw [List.range_add, List.map_append, List.map_map]
  congr 1
  apply List.map_congr_left
  intro i hi
  simp only [Function.comp_apply, cyc]
  rw [Nat.add_assoc, Nat.add_mod_left]
theorem sum_two (n : Nat) (g : Nat → Int) (hg : ∀ i, g (n + i) = g i) : ((List.range (n + n)).map g).sum = ((List.range n).map g).sum + ((List.range n).map g).sum := by
  rw [List.range_add, List.map_append, List.map_map, List.sum_append]
  congr 2
  apply List.map_congr_left
  intro i hi
  exact hg i
theorem certTurned_law (a0 : Sl Int) (a1 : Int) (hw : ((a0.xs.map (fun y => 1)).sum + 1) + 1 ≤ 1048576) (g0 : ((a0.nn = false → a0.xs = []) ∧ a0.xs.length ≤ maxLen ∧ ∀ y ∈ a0.xs, (IntKind.i64.min ≤ y ∧ y ≤ IntKind.i64.max))) (g1 : (IntKind.i64.min ≤ a1 ∧ a1 ≤ IntKind.i64.max)) : lychgatelaw05_CertTurned a0 a1 = some true := by
  have hlen := g0.2.1
  simp only [maxLen] at hlen
  unfold lychgatelaw05_CertTurned
  rw [lychgatelaw05_wakes_val]
  simp only [Option.bind_some, Bool.not_true, Bool.false_eq_true, if_false]
  have hmin : ∃ n : Nat, (if 50 < a0.len then 50 else a0.len) = (n : Int) ∧ n ≤ 50 ∧ n ≤ a0.xs.length := by
    rw [sl_len]
    split
    · exact ⟨50, rfl, by omega, by omega⟩
    · exact ⟨a0.xs.length, rfl, by omega, by omega⟩
  obtain ⟨n, hn, hn1, hn2⟩ := hmin
  rw [hn]
  by_cases h2 : n < 2
  · rw [if_pos (show decide ((n : Int) < 2) = true from decide_eq_true (by omega))]
  rw [if_neg (show ¬ decide ((n : Int) < 2) = true from fun h => h2 (by have := of_decide_eq_true h; omega))]
  apply tot_val
  have hl1 : Tot (loopO (lychgatelaw05_CertTurned_L1 a0) ((⟨[], false⟩ : Sl Gdiff_Leq), 0, 0)) (fun y => y.1.xs = (List.range n).map (ft a0.xs n) ∧ y.2 = ((List.range n).map fun i => cl (At a0.xs i)).sum) := by
    refine tot_loop (I := fun x => ∃ j : Nat, x.2.2 = (j : Int) ∧ j ≤ n ∧ x.1.xs = (List.range j).map (ft a0.xs n) ∧ x.2.1 = ((List.range j).map fun i => cl (At a0.xs i)).sum) (fun x => n - x.2.2.toNat) ?_ _ ⟨0, rfl, by omega, rfl, rfl⟩
    rintro ⟨fs, sm, i⟩ ⟨j, e1, e2, e3, e4⟩
    simp only at e1 e3 e4
    subst e1
    unfold lychgatelaw05_CertTurned_L1
    simp only [hn]
    refine tot_ifd (fun hc => ?_) (fun hc => tot_some ?_)
    · have hj : j < n := by omega
      have hw : IntKind.i64.wrap ((j : Int) + 1) = ((j + 1 : Nat) : Int) := by rw [wrap_id (by omega) (by omega)]; omega
      rw [at_gidx (x := j) rfl rfl (by omega), hw]
      simp only [Option.bind_some]
      rw [gmod_nat _ _ (by omega)]
      simp only [Option.bind_some]
      have hfl : fs.xs.length = j := by rw [e3]; simp
      rw [gapp_ok (by simp; omega) (by simp; omega)]
      simp only [Option.bind_some]
      have hb := cl_sum a0.xs (j + 1)
      rw [sum_snoc] at hb
      refine tot_some ⟨⟨j + 1, rfl, by omega, ?_, ?_⟩, by simp only; omega⟩
      · simp only
        rw [e3, List.range_succ, List.map_append]; rfl
      · simp only
        rw [sum_snoc, e4]
        show IntKind.i64.wrap (_ + cl (At a0.xs j)) = _
        push_cast at hb
        exact wrap_id (by omega) (by omega)
    · obtain rfl : j = n := by omega
      exact ⟨e3, e4⟩
  refine tot_bind (hl1.mono ?_)
  rintro ⟨fs, sm⟩ ⟨f1, f2⟩
  simp only at f1 f2
  obtain ⟨b, hb⟩ : ∃ b : Nat, (if 0 < a1 then a1 else 0) = (b : Int) := ⟨(if 0 < a1 then a1 else 0).toNat, by split <;> omega⟩
  rw [hb, gmod_nat _ _ (by omega)]
  simp only [Option.bind_some]
  generalize hq : b % n = q
  have hqn : q < n := by rw [← hq]; exact Nat.mod_lt _ (by omega)
  have hl2 : Tot (loopO (lychgatelaw05_CertTurned_L2 (q : Int) a0) ((⟨[], false⟩ : Sl Int), 0)) (fun y => y.xs = (List.range n).map (cyc n q)) := by
    refine tot_loop (I := fun x => ∃ j : Nat, x.2 = (j : Int) ∧ j ≤ n ∧ x.1.xs = (List.range j).map (cyc n q)) (fun x => n - x.2.toNat) ?_ _ ⟨0, rfl, by omega, rfl⟩
    rintro ⟨c, i⟩ ⟨j, e1, e2, e3⟩
    simp only at e1 e3
    subst e1
    unfold lychgatelaw05_CertTurned_L2
    simp only [hn]
    refine tot_ifd (fun hc => ?_) (fun hc => tot_some ?_)
    · have hj : j < n := by omega
      have hw : IntKind.i64.wrap ((j : Int) + 1) = ((j + 1 : Nat) : Int) := by rw [wrap_id (by omega) (by omega)]; omega
      have hw2 : IntKind.i64.wrap ((j : Int) + (q : Int)) = ((j + q : Nat) : Int) := by rw [wrap_id (by omega) (by omega)]; omega
      rw [hw, hw2, gmod_nat _ _ (by omega)]
      simp only [Option.bind_some]
      have hfl : c.xs.length = j := by rw [e3]; simp
      rw [gapp_ok (by simp; omega) (by simp; omega)]
      simp only [Option.bind_some]
      refine tot_some ⟨⟨j + 1, rfl, by omega, ?_⟩, by simp only; omega⟩
      simp only
      rw [e3, List.range_succ, List.map_append]; rfl
    · obtain rfl : j = n := by omega
      exact e3
  refine tot_bind (hl2.mono ?_)
  intro c hc
  have hcl : c.xs.length = n := by rw [hc]; simp
  have hs1 : ((List.range n).map fun i => cl (At a0.xs ((i + q) % n))).sum = sm := by rw [f2]; exact sum_shift n (fun i => cl (At a0.xs i)) q
  refine tot_bind ((certCircle_ok c fs (by omega)).mono fun b1 k1 => ?_)
  rw [hc, f1, circ_m a0.xs (by omega) (Nat.dvd_refl n) (by omega) (by omega), hs1] at k1
  have hb1 : b1 = decide (sm < 0) := by rw [Bool.eq_iff_iff, k1, decide_eq_true_eq]
  subst hb1
  simp only [beq_self_eq_true, if_true]
  refine tot_bind (Tot.mono (Q := fun y => y = true) ?_ ?_)
  · rw [sl_len, gslice_ok (by omega) (by omega) (by omega)]
    simp only [Option.bind_some]
    refine tot_bind ((certCircle_ok _ fs (by simp; omega)).mono fun b2 k2 => tot_some ?_)
    simp only at k2
    rw [show ((c.xs.length : Int)).toNat = c.xs.length from Int.toNat_natCast _, List.take_length, hc, f1] at k2
    have := circ_tail a0.xs (q := q) (show 2 ≤ n by omega)
    cases b2 with
    | false => rfl
    | true => exact absurd (k2.1 rfl) this
  · rintro y rfl
    simp only [if_true]
    refine tot_bind (Tot.mono (Q := fun y => y = true) ?_ (fun y hy => tot_some hy))
    rw [gapp_ok (by omega) (by omega)]
    simp only [Option.bind_some]
    refine tot_bind ((certCircle_ok _ fs (by simp; omega)).mono fun b3 k3 => tot_some ?_)
    simp only at k3
    rw [hc, f1, cyc_two, circ_m a0.xs (by omega) ⟨2, by omega⟩ (by omega) (by omega), sum_two _ _ (fun i => by rw [Nat.add_assoc, Nat.add_mod_left]), hs1] at k3
    rw [beq_iff_eq, Bool.eq_iff_iff, k3, decide_eq_true_eq]
    omega
end Go.Px
