/- Bellman and Ford: what diff.solve answers. -/
import Derived.Test.YtdgfgjdoahoadaaMd
import Derived.Test.YtdgfgjdoahoadaaC9
namespace Go.Px
set_option linter.unusedVariables false

abbrev Leq := Gdiff_Leq
def fx (fs : List Leq) (i : Nat) : Nat := (fs.getD i default).X.toNat
def fy (fs : List Leq) (i : Nat) : Nat := (fs.getD i default).Y.toNat
def fc (fs : List Leq) (i : Nat) : Int := (fs.getD i default).C
/-- the system may be asked -/
structure Fit (n : Nat) (fs : List Leq) : Prop where
  n1 : 1 ≤ n
  n2 : n ≤ 96
  len : fs.length ≤ 768
  ok : ∀ f ∈ fs, 0 ≤ f.X ∧ f.X < n ∧ 0 ≤ f.Y ∧ f.Y < n ∧ -8796093022208 ≤ f.C ∧ f.C ≤ 8796093022208
theorem Fit.at {n : Nat} {fs : List Leq} (h : Fit n fs) {i : Nat} (hi : i < fs.length) :
    fx fs i < n ∧ fy fs i < n ∧ -8796093022208 ≤ fc fs i ∧ fc fs i ≤ 8796093022208 ∧ ((fs.getD i default).X = fx fs i) ∧ ((fs.getD i default).Y = fy fs i) := by
  have := h.ok _ (getD_mem default hi)
  unfold fx fy fc
  omega
def At (l : List Int) (x : Nat) : Int := l.getD x 0
theorem At_set (l : List Int) (i j : Nat) (v : Int) (h : i < l.length) : At (l.set i v) j = if j = i then v else At l j := getD_set l i j v 0 h
/-- a solution, as a function -/
def Sol (fs : List Leq) (z : Nat → Int) : Prop := ∀ i, i < fs.length → z (fx fs i) ≤ z (fy fs i) + fc fs i

/-- the stamp of a lowering: in which round, by which fact -/
def stamp (F k i : Nat) : Nat := k * (F + 1) + i + 1
def lvl (F t : Nat) : Nat := if t = 0 then 0 else (t - 1) / (F + 1) + 1
theorem lvl_stamp {F k i : Nat} (h : i ≤ F) : lvl F (stamp F k i) = k + 1 := by
  unfold lvl stamp
  rw [if_neg (by omega)]
  have : (k * (F + 1) + i + 1 - 1) / (F + 1) = k := by
    rw [show k * (F + 1) + i + 1 - 1 = i + (F + 1) * k by rw [Nat.mul_comm]; omega, Nat.add_mul_div_left _ _ (by omega), Nat.div_eq_of_lt (by omega)]; omega
  rw [this]
theorem lvl_mono {F s t : Nat} (h : s ≤ t) : lvl F s ≤ lvl F t := by
  unfold lvl
  by_cases hs : s = 0
  · simp [hs]
  · rw [if_neg hs, if_neg (by omega)]
    have := Nat.div_le_div_right (c := F + 1) (show s - 1 ≤ t - 1 by omega)
    omega
theorem lvl_pos {F t : Nat} (h : 0 < lvl F t) : 0 < t := by
  unfold lvl at h; split at h <;> omega
def tlast (F k j i : Nat) : Nat := if i < j then stamp F k i else if k = 0 then 0 else stamp F (k - 1) i
structure BF (n : Nat) (fs : List Leq) (k j : Nat) (τ : Nat → Nat) (by_ d : List Int) : Prop where
  lb : by_.length = n
  ld : d.length = n
  lo : ∀ x, x < n → -((k * (fs.length + 1) + j : Nat) * 8796093022208 : Int) ≤ At d x
  hi : ∀ x, x < n → At d x ≤ 0
  edge : ∀ x, x < n → 0 < τ x → ∃ i, i < fs.length ∧ At by_ x = i ∧ fx fs i = x ∧ (At d (fy fs i) + fc fs i < At d x ∨ At d x = At d (fy fs i) + fc fs i ∧ τ (fy fs i) < τ x) ∧
    lvl fs.length (τ x) ≤ lvl fs.length (τ (fy fs i)) + 1
  tmax : ∀ x, x < n → τ x < stamp fs.length k j
  fact : ∀ i, i < fs.length → At d (fx fs i) ≤ At d (fy fs i) + fc fs i ∨ tlast fs.length k j i ≤ τ (fy fs i)
  up : ∀ z, Sol fs z → (∀ x, x < n → z x ≤ 0) → ∀ x, x < n → z x ≤ At d x

theorem stamp_lt {F k j : Nat} : stamp F k j < stamp F k (j + 1) := by unfold stamp; omega
theorem tlast_lt {F k j i : Nat} (hj : j ≤ F) (hi : i < F) : tlast F k j i < stamp F k j := by
  unfold tlast
  split
  · unfold stamp; omega
  · split
    · unfold stamp; omega
    · unfold stamp
      have : (k - 1) * (F + 1) + (F + 1) = k * (F + 1) := by rw [← Nat.succ_mul]; congr 1; omega
      omega
theorem BF.keep {n : Nat} {fs : List Leq} {k j : Nat} {τ : Nat → Nat} {by_ d : List Int} (h : BF n fs k j τ by_ d) (hj : j < fs.length) (hok : At d (fx fs j) ≤ At d (fy fs j) + fc fs j) :
    BF n fs k (j + 1) τ by_ d := by
  refine ⟨h.lb, h.ld, fun x hx => ?_, h.hi, h.edge, fun x hx => Nat.lt_trans (h.tmax x hx) stamp_lt, fun i hi => ?_, h.up⟩
  · have := h.lo x hx
    push_cast at this ⊢
    omega
  · rcases h.fact i hi with h1 | h1
    · exact .inl h1
    · by_cases e : i = j
      · subst e; exact .inl hok
      · right
        refine Nat.le_trans (Nat.le_of_eq ?_) h1
        unfold tlast
        by_cases hlt : i < j
        · rw [if_pos hlt, if_pos (by omega)]
        · rw [if_neg hlt, if_neg (by omega)]
theorem BF.lower {n : Nat} {fs : List Leq} {k j : Nat} {τ : Nat → Nat} {by_ d : List Int} (hf : Fit n fs) (h : BF n fs k j τ by_ d) (hj : j < fs.length) (hbad : At d (fy fs j) + fc fs j < At d (fx fs j)) :
    BF n fs k (j + 1) (fun x => if x = fx fs j then stamp fs.length k j else τ x) (by_.set (fx fs j) (j : Int)) (d.set (fx fs j) (At d (fy fs j) + fc fs j)) := by
  obtain ⟨hx, hy, hc1, hc2, _⟩ := hf.at hj
  have hxd : fx fs j < d.length := by rw [h.ld]; exact hx
  have hxb : fx fs j < by_.length := by rw [h.lb]; exact hx
  have hle : ∀ x, x < n → At (d.set (fx fs j) (At d (fy fs j) + fc fs j)) x ≤ At d x := by
    intro x _
    rw [At_set _ _ _ _ hxd]
    split
    · rename_i e; subst e; omega
    · exact Int.le_refl _
  have hτ : ∀ x, x < n → τ x ≤ (if x = fx fs j then stamp fs.length k j else τ x) := by
    intro x hx'
    split
    · exact Nat.le_of_lt (h.tmax x hx')
    · exact Nat.le_refl _
  refine ⟨by simp [h.lb], by simp [h.ld], fun x hx' => ?_, fun x hx' => ?_, fun x hx' hpos => ?_, fun x hx' => ?_, fun i hi => ?_, fun z hz hz0 x hx' => ?_⟩
  · rw [At_set _ _ _ _ hxd]
    have h1 := h.lo x hx'
    have h2 := h.lo (fy fs j) hy
    push_cast at h1 h2 ⊢
    split <;> omega
  · exact Int.le_trans (hle x hx') (h.hi x hx')
  · simp only [At_set _ _ _ _ hxd, At_set _ _ _ _ hxb]
    by_cases e : x = fx fs j
    · subst e
      refine ⟨j, hj, by simp, rfl, ?_, ?_⟩
      · simp only [if_true]
        by_cases e2 : fy fs j = fx fs j
        · rw [if_pos e2]; left; rw [e2] at hbad ⊢; omega
        · rw [if_neg e2, if_neg e2]; right; exact ⟨rfl, h.tmax _ hy⟩
      · simp only [if_true]
        rw [lvl_stamp (by omega)]
        by_cases e2 : fy fs j = fx fs j
        · rw [if_pos e2, lvl_stamp (by omega)]; omega
        · rw [if_neg e2]
          by_cases hk : k = 0
          · subst hk; omega
          · rcases h.fact j hj with h1 | h1
            · omega
            · have h3 := lvl_mono (F := fs.length) h1
              unfold tlast at h3
              rw [if_neg (by omega), if_neg hk, lvl_stamp (by omega)] at h3
              omega
    · simp only [e, if_false] at hpos
      obtain ⟨i, hi, h1, h2, h3, h4⟩ := h.edge x hx' hpos
      obtain ⟨_, hyi, _⟩ := hf.at hi
      refine ⟨i, hi, by simp [e, h1], h2, ?_, ?_⟩
      · simp only [e, if_false]
        by_cases e2 : fy fs i = fx fs j
        · rw [if_pos e2]; left; rw [e2] at h3; omega
        · rw [if_neg e2, if_neg e2]; exact h3
      · simp only [e, if_false]
        have := lvl_mono (F := fs.length) (hτ (fy fs i) hyi)
        omega
  · split
    · exact stamp_lt
    · exact Nat.lt_trans (h.tmax x hx') stamp_lt
  · obtain ⟨hxi, hyi, _⟩ := hf.at hi
    simp only [At_set _ _ _ _ hxd]
    by_cases ei : i = j
    · subst ei
      by_cases e2 : fy fs i = fx fs i
      · right; rw [if_pos e2]; unfold tlast; rw [if_pos (by omega)]; exact Nat.le_refl _
      · left; rw [if_pos rfl, if_neg e2]; exact Int.le_refl _
    · have htl : tlast fs.length k (j + 1) i = tlast fs.length k j i := by
        unfold tlast
        by_cases hlt : i < j
        · rw [if_pos hlt, if_pos (by omega)]
        · rw [if_neg hlt, if_neg (by omega)]
      rw [htl]
      by_cases e2 : fy fs i = fx fs j
      · right; rw [if_pos e2]; exact Nat.le_of_lt (tlast_lt (by omega) hi)
      · rcases h.fact i hi with h1 | h1
        · left
          rw [if_neg e2]
          have := hle (fx fs i) hxi
          rw [At_set _ _ _ _ hxd] at this
          omega
        · right; rw [if_neg e2]; exact h1
  · rw [At_set _ _ _ _ hxd]
    split
    · rename_i e
      subst e
      have h1 := hz j hj
      have h2 := h.up z hz hz0 _ hy
      omega
    · exact h.up z hz hz0 x hx'
theorem BF.round {n : Nat} {fs : List Leq} {k : Nat} {τ : Nat → Nat} {by_ d : List Int} (h : BF n fs k fs.length τ by_ d) : BF n fs (k + 1) 0 τ by_ d := by
  have hst : stamp fs.length k fs.length < stamp fs.length (k + 1) 0 + 1 := by
    unfold stamp; rw [Nat.add_mul]; omega
  refine ⟨h.lb, h.ld, fun x hx => ?_, h.hi, h.edge, fun x hx => by have := h.tmax x hx; omega, fun i hi => ?_, h.up⟩
  · have := h.lo x hx
    rw [Nat.add_mul]
    push_cast at this ⊢
    omega
  · rcases h.fact i hi with h1 | h1
    · exact .inl h1
    · right
      unfold tlast at h1 ⊢
      rw [if_pos hi] at h1
      rw [if_neg (by omega), if_neg (by omega)]
      exact h1
theorem BF.start (n : Nat) (fs : List Leq) : BF n fs 0 0 (fun _ => 0) (List.replicate n 0) (List.replicate n 0) := by
  have hat : ∀ x, At (List.replicate n 0) x = 0 := by
    intro x; unfold At
    rw [List.getD_eq_getElem?_getD, List.getElem?_replicate]
    split <;> rfl
  refine ⟨by simp, by simp, fun x hx => by simp [hat], fun x hx => by simp [hat], fun x hx h => by simp at h, fun x hx => by unfold stamp; omega, fun i hi => .inr (by simp [tlast]), fun z hz h0 x hx => by rw [hat]; exact h0 x hx⟩

/-! one round -/
theorem at_gidx {s : Sl Int} {i : Int} {x n : Nat} (hs : s.xs.length = n) (hi : i = x) (hx : x < n) : gidx s i = some (At s.xs x) := by
  subst hi; rw [gidx_ok 0 (by omega) (by omega)]; rfl
theorem fact_gidx {fs : Sl Leq} {i : Int} {j : Nat} (hi : i = j) (hj : j < fs.xs.length) : gidx fs i = some (fs.xs.getD j default) := by
  subst hi; rw [gidx_ok default (by omega) (by omega)]; rfl
/-- the state within a round: k is the round's number, the last lowering's fact is told -/
def InRound (n : Nat) (fs : List Leq) (k : Nat) (x : Sl Int × Sl Int × Int × Int) : Prop :=
  ∃ (j : Nat) (τ : Nat → Nat), j ≤ fs.length ∧ x.2.2.2 = j ∧ BF n fs k j τ x.2.1.xs x.1.xs ∧ x.2.1.nn = true ∧ x.1.nn = true ∧
    ((x.2.2.1 = -1 ∧ ∀ i, i < j → At x.1.xs (fx fs i) ≤ At x.1.xs (fy fs i) + fc fs i) ∨
     ∃ l : Nat, x.2.2.1 = l ∧ l < fs.length ∧ lvl fs.length (τ (fx fs l)) = k + 1)
def RoundDone (n : Nat) (fs : List Leq) (k : Nat) (y : Sl Int × Sl Int × Int) : Prop :=
  ∃ τ : Nat → Nat, BF n fs (k + 1) 0 τ y.2.1.xs y.1.xs ∧ y.2.1.nn = true ∧ y.1.nn = true ∧
    ((y.2.2 = -1 ∧ ∀ i, i < fs.length → At y.1.xs (fx fs i) ≤ At y.1.xs (fy fs i) + fc fs i) ∨
     ∃ l : Nat, y.2.2 = l ∧ l < fs.length ∧ lvl fs.length (τ (fx fs l)) = k + 1)
theorem mul_bound {k F j : Nat} (hk : k < 96) (hF : F ≤ 768) (hj : j ≤ F) : k * (F + 1) + j ≤ 73824 := by
  have : k * (F + 1) ≤ 95 * 769 := Nat.mul_le_mul (by omega) (by omega)
  omega
theorem round_step {n : Nat} {fs : Sl Leq} (hf : Fit n fs.xs) {k : Nat} (hk : k < 96) (x : Sl Int × Sl Int × Int × Int) (hI : InRound n fs.xs k x) :
    Tot (diff_solve_L1 fs x) fun st => match st with
      | .next x' => InRound n fs.xs k x' ∧ fs.xs.length - x'.2.2.2.toNat < fs.xs.length - x.2.2.2.toNat
      | .done y => RoundDone n fs.xs k y := by
  obtain ⟨d, by_, last, idx⟩ := x
  obtain ⟨j, τ, hj, hidx, hB, hn1, hn2, hlast⟩ := hI
  simp only at hidx hB hn1 hn2 hlast
  subst hidx
  unfold diff_solve_L1
  refine tot_ifd (fun hlt => ?_) (fun hge => ?_)
  · have hlt' : (j : Int) < fs.xs.length := hlt
    have hj' : j < fs.xs.length := by omega
    obtain ⟨hx, hy, hc1, hc2, hX, hY⟩ := hf.at hj'
    have hlx := hB.lo (fy fs.xs j) hy
    have hhx := hB.hi (fy fs.xs j) hy
    have hmb := mul_bound hk hf.len hj
    have hw : IntKind.i64.wrap (At d.xs (fy fs.xs j) + (fs.xs.getD j default).C) = At d.xs (fy fs.xs j) + fc fs.xs j := by
      have hc : (fs.xs.getD j default).C = fc fs.xs j := rfl
      rw [hc]
      have hmb' : ((k * (fs.xs.length + 1) + j : Nat) : Int) ≤ 73824 := by omega
      exact wrap_id (by omega) (by omega)
    have hnx : IntKind.i64.wrap ((j : Int) + 1) = ((j + 1 : Nat) : Int) := by
      rw [wrap_id (by omega) (by have := hf.len; omega)]; omega
    refine tot_bind (tot_bind (tot_eq (fact_gidx rfl hj') ?_))
    simp only
    refine tot_bind (tot_eq (at_gidx hB.ld hY hy) (tot_bind (tot_eq (at_gidx hB.ld hX hx) ?_)))
    rw [hw]
    refine tot_bind (tot_ifd (fun hbad => ?_) (fun hok => ?_))
    · refine tot_bind ?_
      have hs1 : gset d (fs.xs.getD j default).X (At d.xs (fy fs.xs j) + fc fs.xs j) = some ⟨d.xs.set (fx fs.xs j) (At d.xs (fy fs.xs j) + fc fs.xs j), d.nn⟩ := by
        rw [hX, gset_ok (by omega) (by rw [hB.ld]; omega)]; rfl
      have hs2 : gset by_ (fs.xs.getD j default).X (j : Int) = some ⟨by_.xs.set (fx fs.xs j) (j : Int), by_.nn⟩ := by
        rw [hX, gset_ok (by omega) (by rw [hB.lb]; omega)]; rfl
      refine tot_eq hs1 (tot_bind (tot_eq (at_gidx hB.lb hX hx) (tot_bind (tot_eq hs2 ?_))))
      unfold diff_solve_K1
      refine tot_some (tot_some (tot_some ?_))
      refine ⟨⟨j + 1, _, by omega, hnx, hB.lower hf hj' hbad, hn1, hn2, .inr ⟨j, rfl, hj', ?_⟩⟩, by simp only; rw [hnx]; omega⟩
      simp only [if_true]; exact lvl_stamp (by omega)
    · refine tot_some (tot_some (tot_some ?_))
      have hok' : At d.xs (fx fs.xs j) ≤ At d.xs (fy fs.xs j) + fc fs.xs j := by omega
      refine ⟨⟨j + 1, τ, by omega, hnx, hB.keep hj' hok', hn1, hn2, ?_⟩, by simp only; rw [hnx]; omega⟩
      rcases hlast with ⟨h1, h2⟩ | h1
      · refine .inl ⟨h1, fun i hi => ?_⟩
        by_cases e : i = j
        · subst e; exact hok'
        · exact h2 i (by omega)
      · exact .inr h1
  · have hge' : ¬ (j : Int) < fs.xs.length := hge
    have hjF : j = fs.xs.length := by omega
    subst hjF
    refine tot_some ⟨τ, hB.round, hn1, hn2, ?_⟩
    exact hlast
end Go.Px
