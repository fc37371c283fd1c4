/- The table of all pairs (Floyd and Warshall), plainly: what its entries say, how far they may be off 0. -/
import Derived.Test.YtdgfgjdoahoadaaP13C
import Derived.Test.YtdgfgjdoahoadaaP13D
namespace Go.Px
set_option linter.unusedVariables false

/-- three copies of the variables: as a beginning, as an end, and between (those below k) -/
structure Tri (n : Nat) (fs : List Leq) (k : Nat) (s e z : Nat → Int) : Prop where
  se : ∀ f, f < fs.length → s (fx fs f) ≤ e (fy fs f) + fc fs f
  sz : ∀ f, f < fs.length → fy fs f < k → s (fx fs f) ≤ z (fy fs f) + fc fs f
  ze : ∀ f, f < fs.length → fx fs f < k → z (fx fs f) ≤ e (fy fs f) + fc fs f
  zz : ∀ f, f < fs.length → fx fs f < k → fy fs f < k → z (fx fs f) ≤ z (fy fs f) + fc fs f
  d : ∀ x, x < n → s x ≤ e x
  ds : ∀ x, x < k → s x ≤ z x
  de : ∀ x, x < k → z x ≤ e x
/-- v bounds the difference of i and j, by the facts, over the variables below k -/
def Snd (n : Nat) (fs : List Leq) (k i j : Nat) (v : Int) : Prop := ∀ s e z, Tri n fs k s e z → s i ≤ e j + v
theorem Snd.up {n : Nat} {fs : List Leq} {k i j : Nat} {v : Int} (h : Snd n fs k i j v) : Snd n fs (k + 1) i j v := fun s e z t =>
  h s e z ⟨t.se, fun f hf h1 => t.sz f hf (by omega), fun f hf h1 => t.ze f hf (by omega), fun f hf h1 h2 => t.zz f hf (by omega) (by omega), t.d, fun x hx => t.ds x (by omega), fun x hx => t.de x (by omega)⟩
theorem Snd.le {n : Nat} {fs : List Leq} {k i j : Nat} {v w : Int} (h : Snd n fs k i j v) (hw : v ≤ w) : Snd n fs k i j w := fun s e z t => by
  have := h s e z t; omega
theorem Snd.comp {n : Nat} {fs : List Leq} {k i j : Nat} {v w : Int} (h : Snd n fs (k + 1) i k v) (h' : Snd n fs (k + 1) k j w) : Snd n fs (k + 1) i j (v + w) := fun s e z t => by
  have h1 := h s (fun x => if x = k then z k else e x) z ⟨fun f hf => by
      by_cases hk : fy fs f = k
      · have := t.sz f hf (by omega); simp only [hk, if_true]; rw [hk] at this; exact this
      · simp only [hk, if_false]; exact t.se f hf,
    t.sz, fun f hf h1 => by
      by_cases hk : fy fs f = k
      · have := t.zz f hf h1 (by omega); simp only [hk, if_true]; rw [hk] at this; exact this
      · simp only [hk, if_false]; exact t.ze f hf h1,
    t.zz, fun x hx => by
      by_cases hk : x = k
      · subst hk; simp only [if_true]; exact t.ds x (by omega)
      · simp only [hk, if_false]; exact t.d x hx,
    t.ds, fun x hx => by
      by_cases hk : x = k
      · subst hk; simp
      · simp only [hk, if_false]; exact t.de x hx⟩
  have h2 := h' (fun x => if x = k then z k else s x) e z ⟨fun f hf => by
      by_cases hk : fx fs f = k
      · have := t.ze f hf (by omega); simp only [hk, if_true]; rw [hk] at this; exact this
      · simp only [hk, if_false]; exact t.se f hf,
    fun f hf h1 => by
      by_cases hk : fx fs f = k
      · have := t.zz f hf (by omega) h1; simp only [hk, if_true]; rw [hk] at this; exact this
      · simp only [hk, if_false]; exact t.sz f hf h1,
    t.ze, t.zz, fun x hx => by
      by_cases hk : x = k
      · subst hk; simp only [if_true]; exact t.de x (by omega)
      · simp only [hk, if_false]; exact t.d x hx,
    fun x hx => by
      by_cases hk : x = k
      · subst hk; simp
      · simp only [hk, if_false]; exact t.ds x hx, t.de⟩
  simp only [if_true] at h1 h2
  omega
theorem Snd.fact {n : Nat} {fs : List Leq} {k f : Nat} (hf : f < fs.length) : Snd n fs k (fx fs f) (fy fs f) (fc fs f) := fun s e z t => t.se f hf
theorem Snd.diag {n : Nat} {fs : List Leq} {k i : Nat} (hi : i < n) : Snd n fs k i i 0 := fun s e z t => by have := t.d i hi; omega
theorem Snd.sol {n : Nat} {fs : List Leq} {k i j : Nat} {v : Int} (h : Snd n fs k i j v) {z : Nat → Int} (hz : Sol fs z) : z i ≤ z j + v :=
  h z z z ⟨hz, fun f hf _ => hz f hf, fun f hf _ => hz f hf, fun f hf _ _ => hz f hf, fun x _ => Int.le_refl _, fun x _ => Int.le_refl _, fun x _ => Int.le_refl _⟩

/-- the table behind k stages -/
structure Tab (n : Nat) (fs : List Leq) (k : Nat) (T : Nat → Nat → Int) : Prop where
  snd : ∀ i j, i < n → j < n → T i j ≠ 4611686018427387904 → Snd n fs k i j (T i j)
  fact : ∀ f, f < fs.length → T (fx fs f) (fy fs f) ≤ fc fs f
  dle : ∀ i, i < n → T i i ≤ 0
  dge : ∀ i, i < k → 0 ≤ T i i
  tri : ∀ p i j, p < k → i < n → j < n → T i p ≠ 4611686018427387904 → T p j ≠ 4611686018427387904 → T i j ≠ 4611686018427387904 ∧ T i j ≤ T i p + T p j
  top : ∀ i j, i < n → j < n → T i j ≤ 4611686018427387904
/-- numbers that fulfil the facts among the variables below k -/
theorem Tab.inner {n : Nat} {fs : List Leq} {k : Nat} {T : Nat → Nat → Int} (hf : Fit n fs) (h : Tab n fs k T) (hk : k ≤ n) :
    ∃ z : Nat → Int, (∀ f, f < fs.length → fx fs f < k → fy fs f < k → z (fx fs f) ≤ z (fy fs f) + fc fs f) ∧ ∀ x, x < k → -((n : Int) * 8796093022209) ≤ z x ∧ z x ≤ 0 := by
  by_cases h0 : k = 0
  · subst h0; exact ⟨fun _ => 0, fun f _ h1 => by omega, fun x hx => by omega⟩
  have hn2 := hf.n2
  have hT : ∀ g ∈ fs, T g.X.toNat g.Y.toNat ≤ g.C := by
    intro g hg
    obtain ⟨i, hi, rfl⟩ := List.getElem_of_mem hg
    have := h.fact i hi
    unfold fx fy fc at this
    rw [List.getD_eq_getElem?_getD, List.getElem?_eq_getElem hi] at this
    exact this
  let gs := fs.filter fun g => decide (g.X < (k : Int)) && decide (g.Y < (k : Int))
  have hgs : ∀ g, g ∈ gs ↔ g ∈ fs ∧ g.X < k ∧ g.Y < k := by intro g; simp [gs]
  have hfit : Fit k gs := by
    refine ⟨by omega, by omega, Nat.le_trans (List.length_filter_le _ _) hf.len, fun g hg => ?_⟩
    obtain ⟨h1, h2, h3⟩ := (hgs g).1 hg
    have := hf.ok g h1
    omega
  obtain ⟨r, _, hr⟩ := solve_spec (fs := ⟨gs, true⟩) hfit
  rcases hr with ⟨_, _, hB⟩ | ⟨_, _, hC, _⟩
  · refine ⟨At r.1.xs, fun f hf1 h1 h2 => ?_, fun x hx => ⟨?_, hB.hi x hx⟩⟩
    · obtain ⟨_, _, _, _, hX, hY⟩ := hf.at hf1
      have hm : fs.getD f default ∈ gs := (hgs _).2 ⟨getD_mem default hf1, by omega, by omega⟩
      obtain ⟨i, hi, he⟩ := List.getElem_of_mem hm
      have := hB.sol i hi
      unfold fx fy fc at this ⊢
      rw [List.getD_eq_getElem?_getD, List.getElem?_eq_getElem hi] at this
      simp only [Option.getD_some, he] at this
      exact this
    · have := hB.near hfit x hx
      have h2 : (k : Int) * 8796093022209 ≤ (n : Int) * 8796093022209 := by omega
      omega
  · exfalso
    have hmem : ∀ i, i < r.2.xs.length → gs.getD (At r.2.xs i).toNat default ∈ gs := fun i hi => getD_mem default (by have := hC.lt i hi; simp only at this ⊢; omega)
    have hw : ∀ m, m < r.2.xs.length → T (fx gs (At r.2.xs 0).toNat) (fy gs (At r.2.xs m).toNat) ≠ 4611686018427387904 ∧ T (fx gs (At r.2.xs 0).toNat) (fy gs (At r.2.xs m).toNat) ≤ ((List.range (m + 1)).map fun i => fc gs (At r.2.xs i).toNat).sum := by
      intro m
      induction m with
      | zero =>
        intro hm
        obtain ⟨g1, g2, g3⟩ := (hgs _).1 (hmem 0 hm)
        have h1 := hT _ g1
        have h2 := hf.ok _ g1
        have e : ((List.range (0 + 1)).map fun i => fc gs (At r.2.xs i).toNat).sum = fc gs (At r.2.xs 0).toNat := by simp
        rw [e]
        have h3 : T (fx gs (At r.2.xs 0).toNat) (fy gs (At r.2.xs 0).toNat) ≤ fc gs (At r.2.xs 0).toNat := h1
        have h4 : fc gs (At r.2.xs 0).toNat ≤ 8796093022208 := h2.2.2.2.2.2
        exact ⟨by omega, h3⟩
      | succ m ih =>
        intro hm
        obtain ⟨i1, i2⟩ := ih (by omega)
        have hlk := hC.link m (by omega)
        try simp only at hlk
        rw [Nat.mod_eq_of_lt hm] at hlk
        obtain ⟨g1, g2, g3⟩ := (hgs _).1 (hmem (m + 1) hm)
        obtain ⟨g1', g2', g3'⟩ := (hgs _).1 (hmem 0 (by omega))
        have h1 := hT _ g1
        have h2 := hf.ok _ g1
        have h2' := hf.ok _ g1'
        have h3 : T (fx gs (At r.2.xs (m + 1)).toNat) (fy gs (At r.2.xs (m + 1)).toNat) ≤ fc gs (At r.2.xs (m + 1)).toNat := h1
        have h4 : fc gs (At r.2.xs (m + 1)).toNat ≤ 8796093022208 := h2.2.2.2.2.2
        have b1 : fx gs (At r.2.xs (m + 1)).toNat < k := by unfold fx; omega
        have b2 : fy gs (At r.2.xs (m + 1)).toNat < n := by unfold fy; omega
        have b3 : fx gs (At r.2.xs 0).toNat < n := by unfold fx; omega
        rw [hlk] at i1 i2
        have := h.tri _ _ _ b1 b3 b2 i1 (by omega)
        refine ⟨this.1, ?_⟩
        rw [List.range_succ, List.map_append, List.sum_append]
        simp only [List.map_cons, List.map_nil, List.sum_cons, List.sum_nil]
        omega
    have hne := hC.ne
    try simp only at hne
    obtain ⟨l1, l2⟩ := hw (r.2.xs.length - 1) (by omega)
    have hlk := hC.link (r.2.xs.length - 1) (by omega)
    try simp only at hlk
    rw [show r.2.xs.length - 1 + 1 = r.2.xs.length by omega, Nat.mod_self] at hlk
    rw [hlk, show r.2.xs.length - 1 + 1 = r.2.xs.length by omega] at l2
    obtain ⟨g1, g2, g3⟩ := (hgs _).1 (hmem 0 (by omega))
    have h2 := hf.ok _ g1
    have b1 : fx gs (At r.2.xs 0).toNat < k := by unfold fx; omega
    have := h.dge _ b1
    have := hC.neg
    try simp only at this
    omega
/-- how far entries are off 0 -/
theorem Tab.lo {n : Nat} {fs : List Leq} {k : Nat} {T : Nat → Nat → Int} (hf : Fit n fs) (h : Tab n fs k T) (hk : k ≤ n) {i j : Nat} (hi : i < n) (hj : j < n) :
    -((n + 2 : Nat) * 8796093022209 : Int) ≤ T i j := by
  by_cases hfin : T i j = 4611686018427387904
  · have := hf.n2; rw [hfin]; push_cast; omega
  obtain ⟨z, hz, hzb⟩ := h.inner hf hk
  have := h.snd i j hi hj hfin (fun _ => -((n + 1 : Nat) * 8796093022209 : Int)) (fun _ => 8796093022209) z ⟨fun f hf1 => ?_, fun f hf1 h1 => ?_, fun f hf1 h1 => ?_, hz, fun x hx => ?_, fun x hx => ?_, fun x hx => ?_⟩
  · push_cast at this ⊢; omega
  · obtain ⟨_, _, c1, c2, _⟩ := hf.at hf1; push_cast; omega
  · obtain ⟨_, _, c1, c2, _⟩ := hf.at hf1; have := hzb _ h1; push_cast; omega
  · obtain ⟨_, _, c1, c2, _⟩ := hf.at hf1; have := hzb _ h1; (try simp only); omega
  · (try simp only); push_cast; omega
  · have := hzb x hx; (try simp only); push_cast; omega
  · have := hzb x hx; (try simp only); omega
theorem Tab.hi {n : Nat} {fs : List Leq} {k : Nat} {T : Nat → Nat → Int} (hf : Fit n fs) (h : Tab n fs k T) (hk : k ≤ n) {i j : Nat} (hi : i < n) (hj : j < n) (hfin : T i j ≠ 4611686018427387904) :
    T i j ≤ ((n + 3 : Nat) * 8796093022209 : Int) := by
  have hn2 := hf.n2
  apply Classical.byContradiction
  intro hbig
  have hgap : ∃ m : Nat, m ≤ n ∧ ∀ x, x < k → ¬ (((m + 1 : Nat) : Int) * 8796093022209 < T x j ∧ T x j ≤ ((m + 2 : Nat) : Int) * 8796093022209) := by
    apply Classical.byContradiction
    intro hno
    have hex : ∀ m : Nat, m ≤ n → ∃ x, x < k ∧ (((m + 1 : Nat) : Int) * 8796093022209 < T x j ∧ T x j ≤ ((m + 2 : Nat) : Int) * 8796093022209) := by
      intro m hm
      apply Classical.byContradiction
      intro hh
      exact hno ⟨m, hm, fun x hx hxx => hh ⟨x, hx, hxx⟩⟩
    classical
    let u : Nat → Nat := fun m => if hm : m ≤ n then (hex m hm).choose else 0
    have hu : ∀ m (hm : m ≤ n), u m < k ∧ (((m + 1 : Nat) : Int) * 8796093022209 < T (u m) j ∧ T (u m) j ≤ ((m + 2 : Nat) : Int) * 8796093022209) := by
      intro m hm
      have := (hex m hm).choose_spec
      simpa [u, hm] using this
    obtain ⟨a, b, hab, hb, he⟩ := pigeon n u fun m hm => by have := (hu m hm).1; omega
    have h1 := (hu a (by omega)).2
    have h2 := (hu b hb).2
    rw [he] at h1
    push_cast at h1 h2
    omega
  obtain ⟨m, hm, hfree⟩ := hgap
  obtain ⟨z, hz, hzb⟩ := h.inner hf hk
  obtain ⟨far, hfar⟩ : ∃ far : Nat → Int, ∀ x, (far x = 0 ∧ T x j ≤ ((m + 2 : Nat) : Int) * 8796093022209) ∨ (far x = 18446744073709551616 ∧ ((m + 2 : Nat) : Int) * 8796093022209 < T x j) := by
    refine ⟨fun x => if T x j ≤ ((m + 2 : Nat) : Int) * 8796093022209 then 0 else 18446744073709551616, fun x => ?_⟩
    by_cases hx : T x j ≤ ((m + 2 : Nat) : Int) * 8796093022209
    · left; exact ⟨if_pos hx, hx⟩
    · right; exact ⟨if_neg hx, by omega⟩
  have hmono : ∀ f, f < fs.length → fy fs f < k → far (fx fs f) ≤ far (fy fs f) := by
    intro f hf1 h1
    obtain ⟨hx, hy, c1, c2, _⟩ := hf.at hf1
    rcases hfar (fy fs f) with ⟨a1, a2⟩ | ⟨a1, a2⟩
    · have hg := hfree _ h1
      have hT := h.fact f hf1
      push_cast at hg a2
      have ht := h.tri (fy fs f) (fx fs f) j h1 hx hj (by omega) (by omega)
      rcases hfar (fx fs f) with ⟨b1, b2⟩ | ⟨b1, b2⟩
      · omega
      · push_cast at b2; omega
    · rcases hfar (fx fs f) with ⟨b1, b2⟩ | ⟨b1, b2⟩ <;> omega
  have hend : ∀ f, f < fs.length → fy fs f = j → far (fx fs f) = 0 := by
    intro f hf1 h1
    obtain ⟨hx, hy, c1, c2, _⟩ := hf.at hf1
    have hT := h.fact f hf1
    rw [h1] at hT
    rcases hfar (fx fs f) with ⟨b1, b2⟩ | ⟨b1, b2⟩
    · exact b1
    · push_cast at b2; omega
  have hjj : far j = 0 := by
    have := h.dle j hj
    rcases hfar j with ⟨b1, b2⟩ | ⟨b1, b2⟩
    · exact b1
    · push_cast at b2; omega
  have hM : ∀ x, 0 ≤ far x ∧ far x ≤ 18446744073709551616 := fun x => by rcases hfar x with ⟨b1, _⟩ | ⟨b1, _⟩ <;> omega
  have := h.snd i j hi hj hfin (fun x => far x - ((n + 1 : Nat) * 8796093022209 : Int)) (fun y => if y = j then 8796093022209 else 18446744073709551616 + 8796093022209) (fun x => z x + far x) ⟨fun f hf1 => ?_, fun f hf1 h1 => ?_, fun f hf1 h1 => ?_, fun f hf1 h1 h2 => ?_, fun x hx => ?_, fun x hx => ?_, fun x hx => ?_⟩
  · simp only [if_true] at this
    have ht := h.top i j hi hj
    rcases hfar i with ⟨b1, b2⟩ | ⟨b1, b2⟩
    · push_cast at b2 hbig; omega
    · push_cast at this; omega
  · obtain ⟨_, _, c1, c2, _⟩ := hf.at hf1
    have := hM (fx fs f)
    by_cases hy : fy fs f = j
    · have := hend f hf1 hy; simp only [hy, if_true]; push_cast; omega
    · simp only [hy, if_false]; push_cast; omega
  · obtain ⟨_, _, c1, c2, _⟩ := hf.at hf1
    have := hmono f hf1 h1; have := hzb _ h1
    (try simp only); push_cast; omega
  · obtain ⟨_, _, c1, c2, _⟩ := hf.at hf1
    have := hM (fx fs f); have := hzb _ h1
    by_cases hy : fy fs f = j
    · have := hend f hf1 hy; simp only [hy, if_true]; omega
    · simp only [hy, if_false]; omega
  · have := hmono f hf1 h2; have := hz f hf1 h1 h2
    (try simp only); omega
  · have := hM x
    by_cases hy : x = j
    · subst hy; simp only [if_true]; push_cast; omega
    · simp only [hy, if_false]; push_cast; omega
  · have := hM x; have := hzb x hx
    (try simp only); push_cast; omega
  · have := hM x; have := hzb x hx
    by_cases hy : x = j
    · subst hy; simp only [if_true]; omega
    · simp only [hy, if_false]; omega

/-! one stage -/
def exT (T : Nat → Nat → Int) (k i j : Nat) : Int :=
  if T i k = 4611686018427387904 ∨ T k j = 4611686018427387904 then T i j else
  let v := T i k + T k j + (if k < j ∧ T k k < 0 then T k k else 0)
  if v < T i j then v else T i j
theorem exT_snd {n : Nat} {fs : List Leq} {k : Nat} {T : Nat → Nat → Int} (h : Tab n fs k T) (hk : k < n) {i j : Nat} (hi : i < n) (hj : j < n) (hfin : exT T k i j ≠ 4611686018427387904) : Snd n fs (k + 1) i j (exT T k i j) := by
  unfold exT at hfin ⊢
  split
  · rename_i h1
    rw [if_pos h1] at hfin
    exact (h.snd i j hi hj hfin).up
  · rename_i h1
    rw [if_neg h1] at hfin
    have a1 := (h.snd i k hi hk (by omega)).up
    have a2 := (h.snd k j hk hj (by omega)).up
    have hv : Snd n fs (k + 1) i j (T i k + T k j + (if k < j ∧ T k k < 0 then T k k else 0)) := by
      by_cases h3 : k < j ∧ T k k < 0
      · rw [if_pos h3]
        have a3 := (h.snd k k hk hk (by have := h3.2; omega)).up
        have := (a1.comp a3).comp a2
        rw [show T i k + T k j + T k k = T i k + T k k + T k j by omega]
        exact this
      · rw [if_neg h3, Int.add_zero]; exact a1.comp a2
    simp only at hfin ⊢
    by_cases h2 : (T i k + T k j + (if k < j ∧ T k k < 0 then T k k else 0)) < T i j
    · rw [if_pos h2]; exact hv
    · rw [if_neg h2] at hfin ⊢
      exact (h.snd i j hi hj hfin).up
theorem exT_le {T : Nat → Nat → Int} {k i j : Nat} : exT T k i j ≤ T i j := by
  unfold exT
  split
  · exact Int.le_refl _
  · simp only; split <;> omega
theorem exT_eq {T : Nat → Nat → Int} {k i j : Nat} (h0 : 0 ≤ T k k) : exT T k i j = if T i k = 4611686018427387904 ∨ T k j = 4611686018427387904 then T i j else if T i k + T k j < T i j then T i k + T k j else T i j := by
  unfold exT
  have : ¬ (k < j ∧ T k k < 0) := by omega
  simp only [this, if_false, Int.add_zero]
theorem Tab.step {n : Nat} {fs : List Leq} {k : Nat} {T : Nat → Nat → Int} (hf : Fit n fs) (h : Tab n fs k T) (hk : k < n) (h0 : 0 ≤ T k k) : Tab n fs (k + 1) (exT T k) := by
  have hn2 := hf.n2
  have hkk : T k k = 0 := by have := h.dle k hk; omega
  have hhi : ∀ {i j : Nat}, i < n → j < n → T i j ≠ 4611686018427387904 → T i j ≤ 1000000000000000000 := fun {i j} hi hj hfin => by
    have := h.hi hf (by omega) hi hj hfin
    push_cast at this; omega
  refine ⟨fun i j hi hj hfin => exT_snd h hk hi hj hfin, fun f hf1 => Int.le_trans exT_le (h.fact f hf1), fun i hi => Int.le_trans exT_le (h.dle i hi), fun i hi => ?_, fun p i j hp hi hj h1 h2 => ?_, fun i j hi hj => Int.le_trans exT_le (h.top i j hi hj)⟩
  · rw [exT_eq h0]
    by_cases e : i = k
    · subst e; split
      · exact h0
      · split <;> omega
    · have := h.dge i (by omega)
      split
      · exact this
      · rename_i hno
        have := h.tri i k k (by omega) hk hk (by omega) (by omega)
        split <;> omega
  · rw [exT_eq h0] at h1 h2 ⊢
    rw [exT_eq h0, exT_eq h0]
    have t1 := h.top i j hi hj
    by_cases ep : p = k
    · subst ep
      rw [hkk] at h1 h2 ⊢
      by_cases a : T i p = 4611686018427387904
      · rw [if_pos (.inl a)] at h1; exact absurd a h1
      · by_cases b : T p j = 4611686018427387904
        · rw [if_pos (.inr b)] at h2; exact absurd b h2
        · have b1 := hhi hi hk a
          have b2 := hhi hk hj b
          have z0 : ¬ ((0 : Int) = 4611686018427387904) := by omega
          simp only [a, b, z0, or_self, if_false, Int.add_zero, Int.zero_add, Int.lt_irrefl]
          split <;> omega
    · have hp' : p < k := by omega
      have hpn : p < n := by omega
      have base : T i p ≠ 4611686018427387904 → T p j ≠ 4611686018427387904 → T i j ≠ 4611686018427387904 ∧ T i j ≤ T i p + T p j := fun x y => h.tri p i j hp' hi hj x y
      have t2 : T i p ≠ 4611686018427387904 → T p k ≠ 4611686018427387904 → T i k ≠ 4611686018427387904 ∧ T i k ≤ T i p + T p k := fun x y => h.tri p i k hp' hi hk x y
      have t3 : T k p ≠ 4611686018427387904 → T p j ≠ 4611686018427387904 → T k j ≠ 4611686018427387904 ∧ T k j ≤ T k p + T p j := fun x y => h.tri p k j hp' hk hj x y
      have t4 : T k p ≠ 4611686018427387904 → T p k ≠ 4611686018427387904 → 0 ≤ T k p + T p k := fun x y => by have := (h.tri p k k hp' hk hk x y).2; omega
      have bik := fun x => hhi hi hk x; have bkj := fun x => hhi hk hj x; have bij := fun x => hhi hi hj x
      have bip := fun x => hhi hi hpn x; have bpj := fun x => hhi hpn hj x; have bkp := fun x => hhi hk hpn x; have bpk := fun x => hhi hpn hk x
      by_cases c1 : T i k = 4611686018427387904 <;> by_cases c2 : T k j = 4611686018427387904 <;> by_cases c3 : T k p = 4611686018427387904 <;> by_cases c4 : T p k = 4611686018427387904 <;> by_cases c5 : T i p = 4611686018427387904 <;> by_cases c6 : T p j = 4611686018427387904 <;>
        simp only [c1, c2, c3, c4, c5, c6, true_or, or_true, or_self, if_true, if_false, ne_eq, not_true_eq_false, not_false_eq_true, forall_const, false_implies, true_implies] at * <;> omega
end Go.Px
