/- diff.solve as a whole: the greatest solution at most 0, or a circle. -/
import Derived.Test.YtdgfgjdoahoadaaP13A
namespace Go.Px
set_option linter.unusedVariables false

theorem round_tot {n : Nat} {fs : Sl Leq} (hf : Fit n fs.xs) {k : Nat} (hk : k < 96) {τ : Nat → Nat} {by_ d : Sl Int} (hB : BF n fs.xs k 0 τ by_.xs d.xs) (h1 : by_.nn = true) (h2 : d.nn = true) :
    Tot (loopO (diff_solve_L1 fs) (d, by_, (-1), 0)) (RoundDone n fs.xs k) :=
  tot_loop (InRound n fs.xs k) (fun x => fs.xs.length - x.2.2.2.toNat) (fun x hx => (round_step hf hk x hx).mono (by rintro (x' | y) h <;> exact h)) _
    ⟨0, τ, by omega, rfl, hB, h1, h2, .inl ⟨rfl, fun i hi => by omega⟩⟩
/-- numbers that are the greatest solution at most 0 -/
structure Best (n : Nat) (fs : List Leq) (d : List Int) : Prop where
  len : d.length = n
  sol : ∀ i, i < fs.length → At d (fx fs i) ≤ At d (fy fs i) + fc fs i
  hi : ∀ x, x < n → At d x ≤ 0
  up : ∀ z, Sol fs z → (∀ x, x < n → z x ≤ 0) → ∀ x, x < n → z x ≤ At d x
  lo : ∀ x, x < n → -811748818688000000 ≤ At d x
def Stuck (n : Nat) (fs : List Leq) (by_ : List Int) (l : Nat) : Prop :=
  ∃ (τ : Nat → Nat) (d : List Int), BF n fs n 0 τ by_ d ∧ l < fs.length ∧ lvl fs.length (τ (fx fs l)) = n
def InL2 (n : Nat) (fs : List Leq) (x : Sl Int × Sl Int × Int × Int) : Prop :=
  ∃ (k : Nat) (τ : Nat → Nat), k ≤ n ∧ x.2.2.2 = k ∧ BF n fs k 0 τ x.2.1.xs x.1.xs ∧ x.2.1.nn = true ∧ x.1.nn = true ∧
    (k = 0 ∨ ∃ l : Nat, x.2.2.1 = l ∧ l < fs.length ∧ lvl fs.length (τ (fx fs l)) = k)
theorem L2_step {n : Nat} {fs : Sl Leq} (hf : Fit n fs.xs) (x : Sl Int × Sl Int × Int × Int) (hI : InL2 n fs.xs x) :
    Tot (diff_solve_L2 n fs x) fun st => match st with
      | .next x' => InL2 n fs.xs x' ∧ n - x'.2.2.2.toNat < n - x.2.2.2.toNat
      | .done (.a y) => y.1.nn = true ∧ ∃ l : Nat, y.2 = l ∧ Stuck n fs.xs y.1.xs l
      | .done (.b d) => d.nn = true ∧ Best n fs.xs d.xs := by
  obtain ⟨d, by_, last, idx⟩ := x
  obtain ⟨k, τ, hk, hidx, hB, hn1, hn2, hlast⟩ := hI
  simp only at hidx hB hn1 hn2 hlast
  subst hidx
  have hn := hf.n2
  unfold diff_solve_L2
  refine tot_ifd (fun hlt => ?_) (fun hge => ?_)
  · have hk' : k < n := by have : (k : Int) < n := hlt; omega
    refine tot_bind ((round_tot hf (by omega) hB hn1 hn2).mono ?_)
    rintro ⟨d2, by2, last2⟩ ⟨τ2, hB2, h1, h2, hl2⟩
    simp only at hB2 h1 h2 hl2
    refine tot_ifd (fun hneg => ?_) (fun hpos => ?_)
    · refine tot_some ⟨h2, ?_⟩
      rcases hl2 with ⟨_, h3⟩ | ⟨l, h3, _⟩
      · refine ⟨hB2.ld, h3, hB2.hi, hB2.up, fun x hx => ?_⟩
        have h5 : (k + 1) * (fs.xs.length + 1) ≤ 96 * 769 := Nat.mul_le_mul (by omega) (by have := hf.len; omega)
        generalize hq : (k + 1) * (fs.xs.length + 1) = q at h5
        have h4 : -((((k + 1) * (fs.xs.length + 1) + 0 : Nat) : Int) * 8796093022208) ≤ At d2.xs x := by
          have := hB2.lo x hx
          push_cast at this ⊢
          exact this
        rw [hq] at h4
        show -811748818688000000 ≤ At d2.xs x
        omega
      · have : last2 < 0 := hneg
        omega
    · have hnx : IntKind.i64.wrap ((k : Int) + 1) = ((k + 1 : Nat) : Int) := by
        rw [wrap_id (by omega) (by omega)]; omega
      refine tot_some ⟨⟨k + 1, τ2, by omega, hnx, hB2, h1, h2, .inr ?_⟩, by simp only; rw [hnx]; omega⟩
      rcases hl2 with ⟨h3, _⟩ | h3
      · have : ¬ last2 < 0 := hpos
        omega
      · exact h3
  · have hkn : k = n := by have : ¬ (k : Int) < n := hge; omega
    subst hkn
    refine tot_some ⟨hn1, ?_⟩
    rcases hlast with h0 | ⟨l, h1, h2, h3⟩
    · have := hf.n1; omega
    · exact ⟨l, h1, τ, d.xs, hB, h2, h3⟩

/-! the way back -/
def back (fs : List Leq) (by_ : List Int) (x : Nat) : Nat := fy fs (At by_ x).toNat
def chain (fs : List Leq) (by_ : List Int) (x0 : Nat) : Nat → Nat
  | 0 => x0
  | m + 1 => back fs by_ (chain fs by_ x0 m)
structure Way (n : Nat) (fs : List Leq) (by_ : List Int) (τ : Nat → Nat) (d : List Int) (x : Nat) : Prop where
  lt : x < n
  idx : ∃ i : Nat, i < fs.length ∧ At by_ x = i ∧ fx fs i = x ∧ back fs by_ x = fy fs i ∧
    (At d (fy fs i) + fc fs i < At d x ∨ At d x = At d (fy fs i) + fc fs i ∧ τ (fy fs i) < τ x)
theorem way_of {n : Nat} {fs : List Leq} {by_ d : List Int} {τ : Nat → Nat} {k j : Nat} (hB : BF n fs k j τ by_ d) {x : Nat} (hx : x < n) (hl : 0 < lvl fs.length (τ x)) : Way n fs by_ τ d x := by
  obtain ⟨i, hi, h1, h2, h3, _⟩ := hB.edge x hx (lvl_pos hl)
  exact ⟨hx, i, hi, h1, h2, by unfold back; rw [h1]; simp, h3⟩
theorem chain_lvl {n : Nat} {fs : List Leq} (hf : Fit n fs) {by_ d : List Int} {τ : Nat → Nat} (hB : BF n fs n 0 τ by_ d) {x0 : Nat} (h0 : x0 < n) (hl : lvl fs.length (τ x0) = n) :
    ∀ m, m ≤ n → chain fs by_ x0 m < n ∧ n - m ≤ lvl fs.length (τ (chain fs by_ x0 m))
  | 0, _ => ⟨h0, by simp [chain, hl]⟩
  | m + 1, hm => by
    obtain ⟨h1, h2⟩ := chain_lvl hf hB h0 hl m (by omega)
    obtain ⟨i, hi, k1, k2, k3, k4⟩ := hB.edge _ h1 (lvl_pos (F := fs.length) (by omega))
    have hb : chain fs by_ x0 (m + 1) = fy fs i := by
      show back fs by_ _ = _
      unfold back; rw [k1]; simp
    obtain ⟨_, hy, _⟩ := hf.at hi
    rw [hb]
    exact ⟨hy, by omega⟩
theorem chain_add (fs : List Leq) (by_ : List Int) (x0 : Nat) (a : Nat) : ∀ m, chain fs by_ (chain fs by_ x0 a) m = chain fs by_ x0 (a + m)
  | 0 => rfl
  | m + 1 => by show back fs by_ _ = back fs by_ (chain fs by_ x0 (a + m)); rw [chain_add fs by_ x0 a m]
theorem chain_period {fs : List Leq} {by_ : List Int} {x0 i j : Nat} (hij : i < j) (he : chain fs by_ x0 i = chain fs by_ x0 j) : ∀ m, chain fs by_ x0 (i + m) = chain fs by_ x0 (j + m)
  | 0 => he
  | m + 1 => by show back fs by_ (chain fs by_ x0 (i + m)) = back fs by_ (chain fs by_ x0 (j + m)); rw [chain_period hij he m]
/-- what the way back comes to: a place from which it comes back after p steps, no sooner -/
theorem cycle_there {n : Nat} {fs : List Leq} (hf : Fit n fs) {by_ d : List Int} {τ : Nat → Nat} (hB : BF n fs n 0 τ by_ d) {x0 : Nat} (h0 : x0 < n) (hl : lvl fs.length (τ x0) = n) :
    ∃ p, 0 < p ∧ p ≤ n ∧ chain fs by_ (chain fs by_ x0 n) p = chain fs by_ x0 n ∧ (∀ m, 0 < m → m < p → chain fs by_ (chain fs by_ x0 n) m ≠ chain fs by_ x0 n) ∧
      ∀ m, Way n fs by_ τ d (chain fs by_ (chain fs by_ x0 n) m) := by
  have hc := chain_lvl hf hB h0 hl
  obtain ⟨i, j, hij, hjn, he⟩ := pigeon n (chain fs by_ x0) fun m hm => (hc m hm).1
  have hper := chain_period hij he
  -- every place from i on is one of those from i to j - 1
  have hin : ∀ m, ∃ q, i ≤ q ∧ q < j ∧ chain fs by_ x0 (i + m) = chain fs by_ x0 q := by
    intro m
    induction m using Nat.strongRecOn with
    | _ m ih =>
      by_cases hm : i + m < j
      · exact ⟨i + m, by omega, hm, rfl⟩
      · obtain ⟨q, h1, h2, h3⟩ := ih (m - (j - i)) (by omega)
        refine ⟨q, h1, h2, ?_⟩
        rw [← h3]
        have := hper (m - (j - i))
        rw [this]; congr 1; omega
  have hway : ∀ m, Way n fs by_ τ d (chain fs by_ (chain fs by_ x0 n) m) := by
    intro m
    rw [chain_add]
    obtain ⟨q, h1, h2, h3⟩ := hin (n + m - i)
    rw [show i + (n + m - i) = n + m by omega] at h3
    rw [h3]
    obtain ⟨k1, k2⟩ := hc q (by omega)
    exact way_of hB k1 (by omega)
  have hex : ∃ p, 0 < p ∧ chain fs by_ (chain fs by_ x0 n) p = chain fs by_ x0 n := by
    refine ⟨j - i, by omega, ?_⟩
    rw [chain_add]
    have := hper (n - i)
    rw [show i + (n - i) = n by omega, show j + (n - i) = n + (j - i) by omega] at this
    exact this.symm
  obtain ⟨p, ⟨hp, hpe⟩, hmin⟩ := exists_least hex
  refine ⟨p, hp, ?_, hpe, fun m hm hmp e => by have := hmin m ⟨hm, e⟩; omega, hway⟩
  have := hmin (j - i) ⟨by omega, by
    rw [chain_add]
    have := hper (n - i)
    rw [show i + (n - i) = n by omega, show j + (n - i) = n + (j - i) by omega] at this
    exact this.symm⟩
  omega
/-- a circle of the facts -/
structure Circle (fs : List Leq) (c : List Int) : Prop where
  ne : 0 < c.length
  lt : ∀ i, i < c.length → 0 ≤ At c i ∧ At c i < fs.length
  link : ∀ i, i < c.length → fy fs (At c i).toNat = fx fs (At c ((i + 1) % c.length)).toNat
  neg : ((List.range c.length).map fun i => fc fs (At c i).toNat).sum < 0
theorem circle_sum {n : Nat} {fs : List Leq} {by_ d : List Int} {τ : Nat → Nat} {x : Nat} (hw : ∀ m, Way n fs by_ τ d (chain fs by_ x m)) : ∀ p,
    ((List.range p).map fun m => fc fs (At by_ (chain fs by_ x m)).toNat).sum + At d (chain fs by_ x p) < At d x ∨
    ((List.range p).map fun m => fc fs (At by_ (chain fs by_ x m)).toNat).sum + At d (chain fs by_ x p) = At d x ∧ (p = 0 ∨ τ (chain fs by_ x p) < τ x)
  | 0 => .inr ⟨by simp [chain], .inl rfl⟩
  | p + 1 => by
    have ih := circle_sum hw p
    obtain ⟨i, hi, h1, h2, h3, h4⟩ := (hw p).idx
    rw [List.range_succ, List.map_append, List.sum_append]
    have hb : chain fs by_ x (p + 1) = fy fs i := h3
    have hc : fc fs (At by_ (chain fs by_ x p)).toNat = fc fs i := by rw [h1]; simp
    simp only [List.map_cons, List.map_nil, List.sum_cons, List.sum_nil, hc, hb]
    rcases ih with ih | ⟨ih, ht⟩
    · left; rcases h4 with h4 | ⟨h4, _⟩ <;> omega
    · rcases h4 with h4 | ⟨h4, h5⟩
      · left; omega
      · right
        refine ⟨by omega, .inr ?_⟩
        rcases ht with rfl | ht
        · exact h5
        · omega
theorem at_map (p : Nat) (f : Nat → Int) (i : Nat) (h : i < p) : At ((List.range p).map f) i = f i := by
  unfold At
  simp [List.getD_eq_getElem?_getD, h]
theorem circle_of {n : Nat} {fs : List Leq} {by_ d : List Int} {τ : Nat → Nat} {x p : Nat} (hw : ∀ m, Way n fs by_ τ d (chain fs by_ x m)) (hp : 0 < p) (he : chain fs by_ x p = x) :
    Circle fs ((List.range p).map fun m => At by_ (chain fs by_ x m)) := by
  have hl : ((List.range p).map fun m => At by_ (chain fs by_ x m)).length = p := by simp
  refine ⟨by omega, fun i hi => ?_, fun i hi => ?_, ?_⟩
  · rw [hl] at hi
    rw [at_map p _ i hi]
    obtain ⟨j, hj, h1, _⟩ := (hw i).idx
    omega
  · rw [hl] at hi ⊢
    have hm : (i + 1) % p < p := Nat.mod_lt _ hp
    rw [at_map p _ i hi, at_map p _ _ hm]
    obtain ⟨j, hj, h1, h2, h3, _⟩ := (hw i).idx
    obtain ⟨j', hj', k1, k2, _⟩ := (hw ((i + 1) % p)).idx
    rw [k1, h1]
    simp only [Int.toNat_natCast]
    rw [k2, ← h3]
    show chain fs by_ x (i + 1) = _
    by_cases hlast : i + 1 = p
    · rw [hlast, he, Nat.mod_self]; rfl
    · rw [Nat.mod_eq_of_lt (by omega)]
  · rw [hl]
    have h1 : ((List.range p).map fun i => fc fs (At ((List.range p).map fun m => At by_ (chain fs by_ x m)) i).toNat) = (List.range p).map fun m => fc fs (At by_ (chain fs by_ x m)).toNat := by
      apply List.map_congr_left
      intro i hi
      rw [at_map p _ i (List.mem_range.1 hi)]
    rw [h1]
    rcases circle_sum hw p with h | ⟨h, h2⟩
    · rw [he] at h; omega
    · rw [he] at h2; omega
theorem range_snoc (f : Nat → Int) (m : Nat) : (List.range m).map f ++ [f m] = (List.range (m + 1)).map f := by
  rw [List.range_succ, List.map_append]; rfl
theorem solve_spec {n : Nat} {fs : Sl Leq} (hf : Fit n fs.xs) : Tot (diff_solve n fs) fun r =>
    (r.2 = ⟨[], false⟩ ∧ r.1.nn = true ∧ Best n fs.xs r.1.xs) ∨ (r.1 = ⟨[], false⟩ ∧ r.2.nn = true ∧ Circle fs.xs r.2.xs ∧ r.2.xs.length ≤ n) := by
  have hn1 := hf.n1
  have hn2 := hf.n2
  unfold diff_solve
  have hmk : gmake 8 (n : Int) (0 : Int) = some ⟨List.replicate n 0, true⟩ := by rw [gmake_ok (by omega) (by omega) (by omega)]; simp
  refine tot_bind (tot_eq hmk (tot_bind ?_))
  refine (tot_loop (InL2 n fs.xs) (fun x => n - x.2.2.2.toNat) (Q := fun st => match st with
      | .a y => y.1.nn = true ∧ ∃ l : Nat, y.2 = l ∧ Stuck n fs.xs y.1.xs l
      | .b d => d.nn = true ∧ Best n fs.xs d.xs) (fun x hx => ?_) _ ⟨0, fun _ => 0, by omega, rfl, BF.start n fs.xs, rfl, rfl, .inl rfl⟩).mono ?_
  · refine (L2_step hf x hx).mono ?_
    rintro (x' | (y | d)) h <;> exact h
  · rintro (⟨by_, last⟩ | d) h
    · obtain ⟨hnn, l, hl, τ, d, hB, hlF, hlv⟩ := h
      simp only at hl hnn hB ⊢
      subst hl
      obtain ⟨hx, hy, _, _, hX, hY⟩ := hf.at hlF
      have hcl := chain_lvl hf hB hx hlv
      obtain ⟨p, hp0, hpn, hpe, hmin, hway⟩ := cycle_there hf hB hx hlv
      refine tot_bind (tot_eq (fact_gidx rfl hlF) (tot_bind ?_))
      -- n steps back
      refine (tot_loop (fun x => ∃ m, m ≤ n ∧ x.2 = (m : Int) ∧ x.1 = (chain fs.xs by_.xs (fx fs.xs l) m : Int)) (fun x => n - x.2.toNat) (Q := fun y => y = (chain fs.xs by_.xs (fx fs.xs l) n : Int)) ?_ _ ⟨0, by omega, rfl, hX⟩).mono ?_
      · rintro ⟨a, i⟩ ⟨m, hm, hi, ha⟩
        simp only at hi ha
        subst hi; subst ha
        unfold diff_solve_L3
        refine tot_ifd (fun hlt => ?_) (fun hge => ?_)
        · have hm' : m < n := by have : (m : Int) < n := hlt; omega
          obtain ⟨h1, h2⟩ := hcl m hm
          obtain ⟨i, hi, k1, k2, k3, _⟩ := (way_of hB h1 (by omega)).idx
          refine tot_bind (tot_eq (at_gidx hB.lb rfl h1) (tot_bind (tot_eq (fact_gidx k1 hi) (tot_some ?_))))
          have hnx : IntKind.i64.wrap ((m : Int) + 1) = ((m + 1 : Nat) : Int) := by rw [wrap_id (by omega) (by omega)]; omega
          refine ⟨⟨m + 1, by omega, hnx, ?_⟩, by simp only; rw [hnx]; omega⟩
          obtain ⟨_, _, _, _, _, hYi⟩ := hf.at hi
          simp only
          rw [hYi, ← k3]; rfl
        · have : m = n := by have : ¬ (m : Int) < n := hge; omega
          subst this
          exact tot_some rfl
      · rintro _ rfl
        refine tot_bind ?_
        -- round the circle
        refine (tot_loop (fun x => ∃ m, m < p ∧ x.2 = (chain fs.xs by_.xs (chain fs.xs by_.xs (fx fs.xs l) n) m : Int) ∧ x.1.xs = ((List.range m).map fun q => At by_.xs (chain fs.xs by_.xs (chain fs.xs by_.xs (fx fs.xs l) n) q)) ∧ (m = 0 ∨ x.1.nn = true)) (fun x => p - x.1.xs.length)
          (Q := fun y => y.nn = true ∧ y.xs = ((List.range p).map fun q => At by_.xs (chain fs.xs by_.xs (chain fs.xs by_.xs (fx fs.xs l) n) q))) ?_ _ ⟨0, hp0, rfl, rfl, .inl rfl⟩).mono ?_
        · rintro ⟨cy, x⟩ ⟨m, hm, hx', hcy, hcn⟩
          simp only at hx' hcy hcn
          subst hx'
          obtain ⟨i, hi, k1, k2, k3, _⟩ := (hway m).idx
          unfold diff_solve_L4
          have hlen : cy.xs.length = m := by rw [hcy]; simp
          refine tot_bind (tot_eq (at_gidx hB.lb rfl (hway m).lt) (tot_bind (tot_eq (gapp_ok (by simp [hlen]; omega) (by simp [hlen]; omega)) (tot_bind (tot_eq (fact_gidx k1 hi) ?_)))))
          obtain ⟨_, _, _, _, _, hYi⟩ := hf.at hi
          have hnext : (fs.xs.getD i default).Y = (chain fs.xs by_.xs (chain fs.xs by_.xs (fx fs.xs l) n) (m + 1) : Int) := by
            rw [hYi, ← k3]; rfl
          have hsn : cy.xs ++ [At by_.xs (chain fs.xs by_.xs (chain fs.xs by_.xs (fx fs.xs l) n) m)] = (List.range (m + 1)).map fun q => At by_.xs (chain fs.xs by_.xs (chain fs.xs by_.xs (fx fs.xs l) n) q) := by
            rw [hcy]; exact range_snoc (fun q => At by_.xs (chain fs.xs by_.xs (chain fs.xs by_.xs (fx fs.xs l) n) q)) m
          refine tot_ifd (fun heq => ?_) (fun hne => ?_)
          · rw [hnext] at heq
            have hmp : m + 1 = p := by
              apply Classical.byContradiction
              intro hne
              exact hmin (m + 1) (by omega) (by omega) (by omega)
            subst hmp
            exact tot_some ⟨by simp, hsn⟩
          · rw [hnext] at hne
            have hmp : m + 1 ≠ p := fun e => by subst e; exact hne (by rw [hpe])
            refine tot_some ⟨⟨m + 1, by omega, hnext, hsn, .inr (by simp)⟩, ?_⟩
            simp only [List.length_append, List.length_cons, List.length_nil, hlen]
            omega
        · rintro y ⟨hyn, hy⟩
          refine tot_some (.inr ⟨rfl, hyn, ?_, ?_⟩)
          · rw [hy]; exact circle_of hway hp0 hpe
          · rw [hy]; simpa using hpn
    · exact tot_some (.inl ⟨rfl, h.1, h.2⟩)
end Go.Px
