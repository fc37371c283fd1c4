/- diff.Solve and diff.Entails, as the laws see them. -/
import Derived.Test.YtdgfgjdoahoadaaP13B
namespace Go.Px
set_option linter.unusedVariables false

theorem tot_count {β : Type} {f : Int → Option (Step Int β)} {Q : β → Prop} (N : Nat) (hN : N ≤ 140737488355328) (P : Nat → Prop) (h0 : P 0)
    (hs : ∀ j : Nat, j < N → P j → Tot (f j) fun st => match st with | .next x' => x' = IntKind.i64.wrap ((j : Int) + 1) ∧ P (j + 1) | .done y => Q y)
    (he : P N → Tot (f N) fun st => match st with | .next _ => False | .done y => Q y) : Tot (loopO f 0) Q := by
  refine tot_loop (fun x : Int => ∃ j : Nat, x = (j : Int) ∧ j ≤ N ∧ P j) (fun x : Int => N + 1 - x.toNat) ?_ 0 ⟨0, rfl, by omega, h0⟩
  rintro x ⟨j, rfl, hj, hP⟩
  by_cases hlt : j < N
  · refine (hs j hlt hP).mono ?_
    rintro (x' | y) h
    · obtain ⟨rfl, h2⟩ := h
      have hw : IntKind.i64.wrap ((j : Int) + 1) = ((j + 1 : Nat) : Int) := by rw [wrap_id (by omega) (by omega)]; omega
      exact ⟨⟨j + 1, hw, by omega, h2⟩, by rw [hw]; omega⟩
    · exact h
  · obtain rfl : j = N := by omega
    refine (he hP).mono ?_
    rintro (x' | y) h
    · exact h.elim
    · exact h
theorem tot_count2 {σ β : Type} {f : σ × Int → Option (Step (σ × Int) β)} {Q : β → Prop} (N : Nat) (hN : N ≤ 140737488355328) (P : Nat → σ → Prop) (s0 : σ) (h0 : P 0 s0)
    (hs : ∀ (j : Nat) (s : σ), j < N → P j s → Tot (f (s, (j : Int))) fun st => match st with | .next x' => x'.2 = IntKind.i64.wrap ((j : Int) + 1) ∧ P (j + 1) x'.1 | .done y => Q y)
    (he : ∀ s : σ, P N s → Tot (f (s, (N : Int))) fun st => match st with | .next _ => False | .done y => Q y) : Tot (loopO f (s0, 0)) Q := by
  refine tot_loop (fun x : σ × Int => ∃ j : Nat, x.2 = (j : Int) ∧ j ≤ N ∧ P j x.1) (fun x : σ × Int => N + 1 - x.2.toNat) ?_ (s0, 0) ⟨0, rfl, by omega, h0⟩
  rintro ⟨s, x⟩ ⟨j, hx, hj, hP⟩
  simp only at hx hP
  subst hx
  by_cases hlt : j < N
  · refine (hs j s hlt hP).mono ?_
    rintro (⟨s', x'⟩ | y) h
    · obtain ⟨h1, h2⟩ := h
      simp only at h1 h2
      subst h1
      have hw : IntKind.i64.wrap ((j : Int) + 1) = ((j + 1 : Nat) : Int) := by rw [wrap_id (by omega) (by omega)]; omega
      exact ⟨⟨j + 1, hw, by omega, h2⟩, by simp only; rw [hw]; omega⟩
    · exact h
  · obtain rfl : j = N := by omega
    refine (he s hP).mono ?_
    rintro (x' | y) h
    · exact h.elim
    · exact h
theorem tot_val {α : Type} {p : Option α} {a : α} (h : Tot p fun b => b = a) : p = some a := by
  obtain ⟨b, h1, rfl⟩ := h; exact h1
theorem lt_len {α : Type} {s : Sl α} {j : Nat} (h : j < s.xs.length) : (j : Int) < s.len := by rw [sl_len]; omega
theorem nlt_len {α : Type} {s : Sl α} : ¬ ((s.xs.length : Nat) : Int) < s.len := by rw [sl_len]; omega

/-! may it be asked -/
def badB (f : Leq) (a : Int) : Bool :=
  (((((decide (f.X < 0) || decide (a ≤ f.X)) || decide (f.Y < 0)) || decide (a ≤ f.Y)) || decide (8796093022208 < f.C)) || decide (f.C < (-8796093022208)))
def fitV (n : Int) (fs : List Leq) : Int := if 768 < fs.length then 22 else if n < 1 ∨ 96 < n then 2 else if fs.any (fun f => badB f n) = true then 2 else 0
theorem contains_ok (s : Sl Leq) (hl : s.xs.length ≤ 140737488355328) (n : Int) : slices_ContainsFunc s n = some (s.xs.any fun f => badB f n) := by
  generalize hp : (fun f => badB f n) = p
  apply tot_val
  unfold slices_ContainsFunc slices_IndexFunc
  refine tot_bind (tot_bind ?_)
  refine (tot_count s.xs.length hl (fun j => ∀ i, i < j → p (s.xs.getD i default) = false) (fun i hi => by omega) (Q := fun y => match y with | .a _ => s.xs.any p = false | .b i => 0 ≤ i ∧ s.xs.any p = true) ?_ ?_).mono ?_
  · intro j hj hP
    unfold slices_IndexFunc_L1
    refine tot_ifd (fun _ => ?_) (fun h => (h (lt_len hj)).elim)
    refine tot_bind (tot_eq (fact_gidx rfl hj) (tot_bind (tot_eq (show diff_fit_1 _ _ = some () from rfl) ?_)))
    have hpe : ∀ f, p f = badB f n := fun f => by rw [← hp]
    refine tot_ifb (fun hp => tot_some ⟨by omega, ?_⟩) (fun hp => tot_some ⟨rfl, ?_⟩)
    · exact List.any_eq_true.2 ⟨_, getD_mem default hj, by rw [hpe]; exact hp⟩
    · intro i hi
      by_cases e : i = j
      · subst e; rw [hpe]; exact hp
      · exact hP i (by omega)
  · intro hP
    unfold slices_IndexFunc_L1
    refine tot_ifd (fun h => (nlt_len h).elim) (fun _ => tot_some ?_)
    refine List.any_eq_false.2 fun x hx => ?_
    obtain ⟨i, hi, rfl⟩ := List.getElem_of_mem hx
    have := hP i hi
    rw [List.getD_eq_getElem?_getD, List.getElem?_eq_getElem hi] at this
    simp only [Option.getD_some] at this
    rw [this]; simp
  · rintro (_ | i) h
    · refine tot_some (tot_some ?_)
      rw [show s.xs.any p = false from h]; rfl
    · obtain ⟨h1, h2⟩ := h
      refine tot_some (tot_some ?_)
      rw [h2]; exact decide_eq_true h1
theorem fit_ok (n : Int) (fs : Sl Leq) : diff_fit n fs = some (fitV n fs.xs) := by
  apply tot_val
  unfold diff_fit fitV
  refine tot_ifd (fun h => ?_) (fun h => ?_)
  · have h' : (768 : Int) < (fs.xs.length : Nat) := h
    rw [if_pos (show 768 < fs.xs.length by omega)]; exact tot_some rfl
  · have h' : ¬ (768 : Int) < (fs.xs.length : Nat) := h
    rw [if_neg (show ¬ 768 < fs.xs.length by omega)]
    refine tot_if (fun h1 => ?_) (fun h1 => ?_)
    · rw [if_pos (show n < 1 ∨ 96 < n by simpa using h1)]; exact tot_some rfl
    · rw [if_neg (show ¬ (n < 1 ∨ 96 < n) by simpa using h1)]
      refine tot_bind (tot_eq (contains_ok fs (by omega) n) ?_)
      refine tot_ifb (fun h2 => ?_) (fun h2 => ?_)
      · rw [h2]; exact tot_some rfl
      · rw [h2]; exact tot_some rfl
theorem badB_false {f : Leq} {a : Int} (h : badB f a = false) : 0 ≤ f.X ∧ f.X < a ∧ 0 ≤ f.Y ∧ f.Y < a ∧ -8796093022208 ≤ f.C ∧ f.C ≤ 8796093022208 := by
  unfold badB at h
  simp only [Bool.or_eq_false_iff, decide_eq_false_iff_not] at h
  omega
theorem badB_ok {f : Leq} {a : Int} (h : 0 ≤ f.X ∧ f.X < a ∧ 0 ≤ f.Y ∧ f.Y < a ∧ -8796093022208 ≤ f.C ∧ f.C ≤ 8796093022208) : badB f a = false := by
  unfold badB
  simp only [Bool.or_eq_false_iff, decide_eq_false_iff_not]
  omega
theorem fit_of {n : Int} {fs : List Leq} (h : fitV n fs = 0) : Fit n.toNat fs ∧ (n.toNat : Int) = n := by
  unfold fitV at h
  split at h
  · omega
  · split at h
    · omega
    · split at h
      · omega
      · rename_i h1 h2 h3
        refine ⟨⟨by omega, by omega, by omega, fun f hf => ?_⟩, by omega⟩
        have h4 : fs.any (fun f => badB f n) = false := by simpa using h3
        have := badB_false (by simpa using List.any_eq_false.1 h4 f hf)
        omega
theorem fitV_ok {n : Nat} {fs : List Leq} (h : Fit n fs) : fitV n fs = 0 := by
  unfold fitV
  have := h.n1; have := h.n2; have := h.len
  rw [if_neg (by omega), if_neg (by omega), if_neg]
  intro ha
  obtain ⟨f, hf, hb⟩ := List.any_eq_true.1 ha
  rw [badB_ok (h.ok f hf)] at hb
  simp at hb

/-! circles and solutions exclude one another -/
theorem sum_turn (p : Nat) (g : Nat → Int) : ((List.range p).map fun i => g ((i + 1) % p)).sum = ((List.range p).map g).sum := by
  cases p with
  | zero => rfl
  | succ q =>
    rw [List.range_succ, List.map_append, List.sum_append]
    have h1 : ((List.range q).map fun i => g ((i + 1) % (q + 1))) = (List.range q).map fun i => g (i + 1) := by
      apply List.map_congr_left
      intro i hi
      rw [Nat.mod_eq_of_lt (by have := List.mem_range.1 hi; omega)]
    have h2 : (List.range (q + 1)).map g = g 0 :: (List.range q).map fun i => g (i + 1) := by
      rw [List.range_succ_eq_map, List.map_cons, List.map_map]; rfl
    have h3 : ((List.range q).map g ++ [g q]).sum = ((List.range (q + 1)).map g).sum := by rw [range_snoc g q]
    rw [h1]
    simp only [List.map_append, List.map_cons, List.map_nil, Nat.mod_self]
    rw [h3, h2, List.sum_cons]
    simp only [List.sum_cons, List.sum_nil]
    omega
theorem sums_le (p : Nat) (f g h : Nat → Int) (hh : ∀ i, i < p → f i ≤ g i + h i) : ((List.range p).map f).sum ≤ ((List.range p).map g).sum + ((List.range p).map h).sum := by
  induction p with
  | zero => simp
  | succ p ih =>
    have := ih fun i hi => hh i (by omega)
    have := hh p (by omega)
    simp only [List.range_succ, List.map_append, List.sum_append, List.map_cons, List.map_nil, List.sum_cons, List.sum_nil]
    omega
theorem Circle.none {fs : List Leq} {c : List Int} (h : Circle fs c) {z : Nat → Int} (hz : Sol fs z) : False := by
  have h1 := sums_le c.length (fun i => z (fx fs (At c i).toNat)) (fun i => z (fy fs (At c i).toNat)) (fun i => fc fs (At c i).toNat) fun i hi => hz _ (by have := h.lt i hi; omega)
  have h2 : ((List.range c.length).map fun i => z (fy fs (At c i).toNat)) = (List.range c.length).map fun i => (fun j => z (fx fs (At c j).toNat)) ((i + 1) % c.length) := by
    apply List.map_congr_left
    intro i hi
    rw [h.link i (List.mem_range.1 hi)]
  rw [h2, sum_turn c.length fun j => z (fx fs (At c j).toNat)] at h1
  have := h.neg
  omega
theorem Best.isSol {n : Nat} {fs : List Leq} {d : List Int} (h : Best n fs d) : Sol fs (At d) := h.sol

/-! Solve -/
inductive SolveR (n : Int) (fs : List Leq) : (Sl Int) × (Sl Int) × Int → Prop
  | unfit : fitV n fs ≠ 0 → SolveR n fs (⟨[], false⟩, ⟨[], false⟩, fitV n fs)
  | circle (c : List Int) : fitV n fs = 0 → Fit n.toNat fs → (n.toNat : Int) = n → Circle fs c → c.length ≤ n.toNat → SolveR n fs (⟨[], false⟩, ⟨c, true⟩, 0)
  | best (v d : List Int) : fitV n fs = 0 → Fit n.toNat fs → (n.toNat : Int) = n → Best n.toNat fs d → v.length = n.toNat → (∀ x, x < n.toNat → At v x = At d x - At d 0) → SolveR n fs (⟨v, true⟩, ⟨[], false⟩, 0)
theorem solve_ok (n : Int) (fs : Sl Leq) : Tot (diff_Solve n fs) (SolveR n fs.xs) := by
  unfold diff_Solve
  refine tot_bind (tot_eq (fit_ok n fs) ?_)
  refine tot_ifd (fun h => tot_some (.unfit h)) (fun h => ?_)
  have h0 : fitV n fs.xs = 0 := by omega
  obtain ⟨hf, hn⟩ := fit_of h0
  have hn1 := hf.n1
  have hn2 := hf.n2
  rw [← hn]
  refine tot_bind ((solve_spec hf).mono ?_)
  rintro ⟨⟨d, dn⟩, ⟨c, cn⟩⟩ (⟨h1, h2, hB⟩ | ⟨h1, h2, hC, hl⟩)
  · simp only at h1 h2 hB ⊢
    obtain ⟨rfl, rfl⟩ := Sl.mk.inj h1
    subst h2
    simp only [Bool.false_eq_true, if_false]
    have hd := hB.len
    refine tot_bind (tot_eq (at_gidx (x := 0) hd rfl (by omega)) (tot_bind ?_))
    refine (tot_count2 n.toNat (by omega) (fun (j : Nat) (s : Sl Int) => s.nn = true ∧ s.xs.length = n.toNat ∧ ∀ x, x < n.toNat → At s.xs x = if x < j then At d x - At d 0 else At d x) ⟨d, true⟩ ⟨rfl, hd, fun x hx => by simp⟩ (Q := fun y : Sl Int => y.nn = true ∧ y.xs.length = n.toNat ∧ ∀ x, x < n.toNat → At y.xs x = At d x - At d 0) ?_ ?_).mono ?_
    · rintro j s hj ⟨k1, k2, k3⟩
      unfold diff_Solve_L1
      refine tot_ifd (fun _ => ?_) (fun hh => (hh (by rw [sl_len]; simp only; omega)).elim)
      have e1 : gidx s (j : Int) = some (At d j) := by rw [at_gidx k2 rfl hj, k3 j hj]; simp
      refine tot_bind (tot_eq e1 (tot_bind ?_))
      have l1 := hB.lo j hj; have l2 := hB.lo 0 (by omega); have l3 := hB.hi j hj; have l4 := hB.hi 0 (by omega)
      simp only
      rw [wrap_id (by omega) (by omega)]
      refine tot_eq (gset_ok (by omega) (by omega)) (tot_some ⟨rfl, k1, by simp [k2], fun x hx => ?_⟩)
      simp only [Int.toNat_natCast]
      rw [At_set _ _ _ _ (by omega)]
      by_cases e : x = j
      · subst e; rw [if_pos rfl, if_pos (by omega)]
      · rw [if_neg e, k3 x hx]
        by_cases e2 : x < j
        · rw [if_pos e2, if_pos (by omega)]
        · rw [if_neg e2, if_neg (by omega)]
    · rintro s ⟨k1, k2, k3⟩
      unfold diff_Solve_L1
      refine tot_ifd (fun hh => absurd hh (by rw [sl_len]; simp only; omega)) (fun _ => tot_some ⟨k1, k2, fun x hx => ?_⟩)
      rw [k3 x hx, if_pos hx]
    · rintro ⟨v, vn⟩ ⟨k1, k2, k3⟩
      simp only at k1 k2 k3
      subst k1
      rw [hn]
      exact tot_some (.best v d h0 hf hn hB k2 k3)
  · simp only at h1 h2 hC hl ⊢
    obtain ⟨rfl, rfl⟩ := Sl.mk.inj h1
    subst h2
    simp only [if_true]
    rw [hn]
    exact tot_some (.circle c h0 hf hn hC hl)

/-! Entails -/
def Ent (fs : List Leq) (g : Leq) : Prop := ∀ z : Nat → Int, Sol fs z → z g.X.toNat ≤ z g.Y.toNat + g.C
theorem sol_snoc {fs : List Leq} {g : Leq} {z : Nat → Int} : Sol (fs ++ [g]) z ↔ Sol fs z ∧ z g.X.toNat ≤ z g.Y.toNat + g.C := by
  have e1 : ∀ i, i < fs.length → (fs ++ [g]).getD i default = fs.getD i default := by
    intro i hi
    simp [List.getD_eq_getElem?_getD, List.getElem?_append_left hi]
  have e2 : (fs ++ [g]).getD fs.length default = g := by simp [List.getD_eq_getElem?_getD]
  constructor
  · intro h
    refine ⟨fun i hi => ?_, ?_⟩
    · have := h i (by simp; omega)
      unfold fx fy fc at *
      rw [e1 i hi] at this
      exact this
    · have := h fs.length (by simp)
      unfold fx fy fc at this
      rw [e2] at this
      exact this
  · rintro ⟨h1, h2⟩ i hi
    simp only [List.length_append, List.length_cons, List.length_nil] at hi
    unfold fx fy fc
    by_cases e : i < fs.length
    · rw [e1 i e]; exact h1 i e
    · obtain rfl : i = fs.length := by omega
      rw [e2]; exact h2
def entV (n : Int) (g : Leq) (fs : List Leq) : Int := if fitV n (fs ++ [g]) ≠ 0 then fitV n (fs ++ [g]) else if g.C = 8796093022208 then 2 else 0
theorem entails_ok (n : Int) (g : Leq) (fs : Sl Leq) (hl : fs.xs.length ≤ 1048576) (hz : fs.nn = false → fs.xs = []) :
    Tot (diff_Entails n g fs) fun r => r.2 = entV n g fs.xs ∧ (r.2 ≠ 0 → r.1 = false) ∧ (r.2 = 0 → (r.1 = true ↔ Ent fs.xs g)) := by
  have hcl : ∃ nn, slices_Clone_v2 fs = some ⟨fs.xs, nn⟩ := by
    unfold slices_Clone_v2
    by_cases hnn : fs.nn = true
    · rw [hnn]
      simp only [Bool.not_true, Bool.false_eq_true, if_false]
      rw [gapp_ok (by simp; omega) (by simp; omega)]
      exact ⟨_, rfl⟩
    · rw [hz (by simpa using hnn), show fs.nn = false by simpa using hnn]
      exact ⟨_, rfl⟩
  obtain ⟨nn, hcl⟩ := hcl
  unfold diff_Entails
  refine tot_bind (tot_eq hcl (tot_bind (tot_eq (gapp_ok (by simp; omega) (by simp; omega)) ?_)))
  unfold diff_Entails_K1
  refine tot_bind (tot_eq (fit_ok _ _) ?_)
  simp only
  unfold entV
  refine tot_ifd (fun h => ?_) (fun h => ?_)
  · rw [if_pos h]
    exact tot_some ⟨rfl, fun _ => rfl, fun h2 => absurd h2 h⟩
  rw [if_neg h]
  refine tot_ifd (fun h1 => ?_) (fun h1 => ?_)
  · rw [if_pos h1]
    exact tot_some ⟨rfl, fun _ => rfl, fun h2 => by simp at h2⟩
  rw [if_neg h1]
  have h0 : fitV n (fs.xs ++ [g]) = 0 := by omega
  obtain ⟨hf, hn⟩ := fit_of h0
  have hg := hf.ok g (by simp)
  have hfl := hf.len
  simp only [List.length_append, List.length_cons, List.length_nil] at hfl
  have hneg : IntKind.i64.wrap (IntKind.i64.wrap (0 - g.C) - 1) = -g.C - 1 := by
    rw [wrap_id (n := 0 - g.C) (by omega) (by omega), wrap_id (by omega) (by omega)]; omega
  rw [hneg]
  have hset : (fs.xs ++ [g]).set fs.xs.length (⟨g.Y, g.X, -g.C - 1⟩ : Leq) = fs.xs ++ [⟨g.Y, g.X, -g.C - 1⟩] := by
    rw [List.set_append_right _ _ (by omega)]; simp
  have hf2 : Fit n.toNat (fs.xs ++ [(⟨g.Y, g.X, -g.C - 1⟩ : Leq)]) := by
    refine ⟨hf.n1, hf.n2, by simp; omega, fun f hm => ?_⟩
    rcases List.mem_append.1 hm with hm | hm
    · exact hf.ok f (List.mem_append_left _ hm)
    · simp only [List.mem_cons, List.not_mem_nil, or_false] at hm
      subst hm
      simp only
      omega
  refine tot_bind (tot_eq (gidx_ok default (by rw [sl_len]; omega) (by rw [sl_len, List.length_append]; simp only [List.length_cons, List.length_nil]; omega)) (tot_bind (tot_eq (gset_ok (by rw [sl_len]; omega) (by rw [sl_len, List.length_append]; simp only [List.length_cons, List.length_nil]; omega)) (tot_bind ?_))))
  simp only [sl_len, Int.toNat_natCast]
  rw [hset, ← hn]
  refine (solve_spec hf2).mono ?_
  rintro ⟨⟨d, dn⟩, ⟨c, cn⟩⟩ (⟨k1, k2, hB⟩ | ⟨k1, k2, hC, _⟩)
  · simp only at k1 k2 hB ⊢
    obtain ⟨rfl, rfl⟩ := Sl.mk.inj k1
    refine tot_some ⟨rfl, fun hh => absurd rfl hh, fun _ => ⟨fun hh => by simp at hh, fun hE => ?_⟩⟩
    obtain ⟨s1, s2⟩ := sol_snoc.1 hB.isSol
    have := hE _ s1
    simp only at s2
    omega
  · simp only at k1 k2 hC ⊢
    subst k2
    refine tot_some ⟨rfl, fun hh => absurd rfl hh, fun _ => ⟨fun _ z hz => ?_, fun _ => rfl⟩⟩
    apply Classical.byContradiction
    intro hno
    exact hC.none (z := z) (sol_snoc.2 ⟨hz, by simp only; omega⟩)
end Go.Px
