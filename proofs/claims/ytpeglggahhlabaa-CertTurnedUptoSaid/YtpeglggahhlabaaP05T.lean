/- Circle of cert, as CertTurned sees it. -/
import Derived.Test.YtpeglggahhlabaaTw
import Derived.Test.YtpeglggahhlabaaC9
namespace Go.Px
set_option linter.unusedVariables false
abbrev Leq := Gdiff_Leq
def At (l : List Int) (x : Nat) : Int := l.getD x 0
theorem at_gidx {s : Sl Int} {i : Int} {x n : Nat} (hs : s.xs.length = n) (hi : i = x) (hx : x < n) : gidx s i = some (At s.xs x) := by
  subst hi; rw [gidx_ok 0 (by omega) (by omega)]; rfl
theorem tot_count {β : Type} {f : Int → Option (Step Int β)} {Q : β → Prop} (N : Nat) (hN : N ≤ 140737488355328) (P : Nat → Prop) (h0 : P 0)
    (hs : ∀ j : Nat, j < N → P j → Tot (f j) fun st => match st with | .next x' => x' = IntKind.i64.wrap ((j : Int) + 1) ∧ P (j + 1) | .done y => Q y)
    (he : P N → Tot (f N) fun st => match st with | .next _ => False | .done y => Q y) : Tot (loopO f 0) Q := by
  refine tot_loop (fun x : Int => ∃ j : Nat, x = (j : Int) ∧ j ≤ N ∧ P j) (fun x : Int => N + 1 - x.toNat) ?_ 0 ⟨0, rfl, by omega, h0⟩
  rintro x ⟨j, rfl, hj, hP⟩
  by_cases hlt : j < N
  · refine (hs j hlt hP).mono ?_
    rintro (x' | y) h
    · obtain ⟨rfl, h2⟩ := h
      have hw : IntKind.i64.wrap ((j : Int) + 1) = ((j + 1 : Nat) : Int) := by rw [wrap_id (by omega) (by omega)]; omega
      exact ⟨⟨j + 1, hw, by omega, h2⟩, by rw [hw]; omega⟩
    · exact h
  · obtain rfl : j = N := by omega
    refine (he hP).mono ?_
    rintro (x' | y) h
    · exact h.elim
    · exact h
theorem tot_val {α : Type} {p : Option α} {a : α} (h : Tot p fun b => b = a) : p = some a := by
  obtain ⟨b, h1, rfl⟩ := h; exact h1
theorem lt_len {α : Type} {s : Sl α} {j : Nat} (h : j < s.xs.length) : (j : Int) < s.len := by rw [sl_len]; omega
theorem nlt_len {α : Type} {s : Sl α} : ¬ ((s.xs.length : Nat) : Int) < s.len := by rw [sl_len]; omega
def gX (fs : List Leq) (k : Int) : Int := (fs.getD k.toNat default).X
def gY (fs : List Leq) (k : Int) : Int := (fs.getD k.toNat default).Y
def gC (fs : List Leq) (k : Int) : Int := (fs.getD k.toNat default).C
def OkK (fs : List Leq) (k : Int) : Prop := 0 ≤ k ∧ k < fs.length ∧ gC fs k ≤ 17592186044416 ∧ -17592186044416 ≤ gC fs k
instance (fs : List Leq) (k : Int) : Decidable (OkK fs k) := by unfold OkK; infer_instance
theorem g_idx {fs : Sl Leq} {k : Int} (h : OkK fs.xs k) : gidx fs k = some (fs.xs.getD k.toNat default) := gidx_ok default h.1 h.2.1
theorem circle1_ok (fs : Sl Leq) (k : Int) : cert_Circle_1_v2 k fs = some (!decide (OkK fs.xs k)) := by
  apply tot_val
  unfold cert_Circle_1_v2
  refine tot_bind (tot_if (c := (decide (k < 0) || decide (fs.len ≤ k)) = true) (fun h => tot_some (tot_some ?_)) (fun h => ?_))
  · have hn : ¬ OkK fs.xs k := fun ho => by
      have h1 := ho.1; have h2 := ho.2.1
      rw [decide_eq_false (by omega), decide_eq_false (by rw [sl_len]; omega)] at h
      simp at h
    rw [decide_eq_false hn]; rfl
  · have h0 : ¬ k < 0 := fun hk => h (by rw [decide_eq_true hk]; rfl)
    have h1 : ¬ fs.len ≤ k := fun hk => h (by rw [decide_eq_true hk]; simp)
    rw [sl_len] at h1
    refine tot_bind (tot_eq (gidx_ok default (by omega) (by omega)) (tot_bind (tot_eq (show cert_within _ _ = some () from rfl) (tot_some (tot_some ?_)))))
    have e : OkK fs.xs k ↔ (gC fs.xs k ≤ 17592186044416 ∧ -17592186044416 ≤ gC fs.xs k) := ⟨fun h => h.2.2, fun h => ⟨by omega, by omega, h⟩⟩
    have e2 : decide (OkK fs.xs k) = decide (gC fs.xs k ≤ 17592186044416 ∧ -17592186044416 ≤ gC fs.xs k) := by
      by_cases h : OkK fs.xs k
      · rw [decide_eq_true h, decide_eq_true (e.1 h)]
      · rw [decide_eq_false h, decide_eq_false fun h' => h (e.2 h')]
    rw [e2, Bool.decide_and, show IntKind.i64.wrap (0 - 17592186044416) = -17592186044416 from wrap_id (by omega) (by omega)]; rfl
theorem containsI_ok (s : Sl Int) (fs : Sl Leq) (hl : s.xs.length ≤ 140737488355328) : slices_ContainsFunc_v6 s fs = some (s.xs.any fun k => !decide (OkK fs.xs k)) := by
  have hfun : ∀ k, cert_Circle_1_v2 k fs = some (!decide (OkK fs.xs k)) := circle1_ok fs
  generalize hp : (fun k => !decide (OkK fs.xs k)) = p at *
  have hfun : ∀ k, cert_Circle_1_v2 k fs = some (p k) := fun k => by rw [hfun, ← hp]
  apply tot_val
  unfold slices_ContainsFunc_v6 slices_IndexFunc_v6
  refine tot_bind (tot_bind ?_)
  refine (tot_count s.xs.length hl (fun j => ∀ i, i < j → p (At s.xs i) = false) (fun i hi => by omega) (Q := fun y => match y with | .a _ => s.xs.any p = false | .b i => 0 ≤ i ∧ s.xs.any p = true) ?_ ?_).mono ?_
  · intro j hj hP
    unfold slices_IndexFunc_v6_L1
    refine tot_ifd (fun _ => ?_) (fun h => (h (lt_len hj)).elim)
    refine tot_bind (tot_eq (at_gidx rfl rfl hj) (tot_bind (tot_eq (hfun _) ?_)))
    refine tot_ifb (fun hp => tot_some ⟨by omega, ?_⟩) (fun hp => tot_some ⟨rfl, ?_⟩)
    · exact List.any_eq_true.2 ⟨_, getD_mem 0 hj, hp⟩
    · intro i hi
      by_cases e : i = j
      · subst e; exact hp
      · exact hP i (by omega)
  · intro hP
    unfold slices_IndexFunc_v6_L1
    refine tot_ifd (fun h => (nlt_len h).elim) (fun _ => tot_some ?_)
    refine List.any_eq_false.2 fun x hx => ?_
    obtain ⟨i, hi, rfl⟩ := List.getElem_of_mem hx
    have := hP i hi
    unfold At at this
    rw [List.getD_eq_getElem?_getD, List.getElem?_eq_getElem hi] at this
    simp only [Option.getD_some] at this
    rw [this]; simp
  · rintro (_ | i) h
    · refine tot_some (tot_some ?_)
      rw [show s.xs.any p = false from h]; rfl
    · obtain ⟨h1, h2⟩ := h
      refine tot_some (tot_some ?_)
      rw [h2]; exact decide_eq_true h1
/-- a circle, by its definition -/
def Circ (fs : List Leq) (c : List Int) : Prop :=
  0 < c.length ∧ c.length ≤ 65536 ∧ (∀ i, i < c.length → OkK fs (At c i)) ∧ (∀ i, i < c.length → gY fs (At c i) = gX fs (At c ((i + 1) % c.length))) ∧ ((List.range c.length).map fun i => gC fs (At c i)).sum < 0
theorem allK {fs : List Leq} {c : List Int} : (c.any fun k => !decide (OkK fs k)) = false ↔ ∀ i, i < c.length → OkK fs (At c i) := by
  rw [List.any_eq_false]
  constructor
  · intro h i hi
    have := h (At c i) (getD_mem 0 hi)
    simpa using this
  · intro h x hx
    obtain ⟨i, hi, rfl⟩ := List.getElem_of_mem hx
    have := h i hi
    unfold At at this
    rw [List.getD_eq_getElem?_getD, List.getElem?_eq_getElem hi] at this
    simpa using this
theorem sumK {fs : List Leq} {c : List Int} (h : ∀ i, i < c.length → OkK fs (At c i)) (hl : c.length ≤ 65536) (j : Nat) (hj : j ≤ c.length) :
    -1152921504606846976 ≤ ((List.range j).map fun i => gC fs (At c i)).sum ∧ ((List.range j).map fun i => gC fs (At c i)).sum ≤ 1152921504606846976 := by
  have hb : ∀ p, p ≤ c.length → -(p * 17592186044416) ≤ ((List.range p).map fun i => gC fs (At c i)).sum ∧ ((List.range p).map fun i => gC fs (At c i)).sum ≤ p * 17592186044416 := by
    intro p
    induction p with
    | zero => simp
    | succ p ih =>
      intro hp
      have h1 := ih (by omega)
      have h2 := (h p (by omega)).2.2
      simp only [List.range_succ, List.map_append, List.sum_append, List.map_cons, List.map_nil, List.sum_cons, List.sum_nil]
      push_cast
      omega
  have := hb j hj
  omega
theorem sum_snoc (f : Nat → Int) (j : Nat) : ((List.range (j + 1)).map f).sum = ((List.range j).map f).sum + f j := by
  simp only [List.range_succ, List.map_append, List.sum_append, List.map_cons, List.map_nil, List.sum_cons, List.sum_nil]
  omega
theorem certCircle_ok (c : Sl Int) (fs : Sl Leq) (hl : c.xs.length ≤ 1048576) : Tot (cert_Circle_v3 c fs) fun b => b = true ↔ Circ fs.xs c.xs := by
  unfold cert_Circle_v3
  refine tot_bind ?_
  have h1 : Tot (if (decide (c.len = 0) || decide (65536 < c.len)) = true then
      some true
    else
      Option.bind (slices_ContainsFunc_v6 c fs) fun r_12 =>
      some r_12) fun b => b = false ↔ (0 < c.xs.length ∧ c.xs.length ≤ 65536 ∧ ∀ i, i < c.xs.length → OkK fs.xs (At c.xs i)) := by
    refine tot_if (fun h => tot_some ?_) (fun h => ?_)
    · simp only [Bool.or_eq_true, decide_eq_true_eq] at h; simp only [sl_len] at h
      constructor
      · intro h; simp at h
      · rintro ⟨a, b, _⟩; omega
    · simp only [Bool.or_eq_true, decide_eq_true_eq] at h; simp only [sl_len] at h
      refine tot_bind (tot_eq (containsI_ok c fs (by omega)) (tot_some ?_))
      rw [allK]
      exact ⟨fun h2 => ⟨by omega, by omega, h2⟩, fun h2 => h2.2.2⟩
  refine h1.mono fun b hb => ?_
  refine tot_ifb (fun h => tot_some ?_) (fun h => ?_)
  · constructor
    · intro h2; simp at h2
    · rintro ⟨k1, k2, k3, _⟩
      have := hb.2 ⟨k1, k2, k3⟩
      rw [h] at this; simp at this
  · obtain ⟨k1, k2, k3⟩ := hb.1 h
    have e0 : gidx c 0 = some (At c.xs 0) := at_gidx (x := 0) rfl rfl k1
    refine tot_bind (tot_eq e0 (tot_bind (tot_eq (g_idx (k3 0 k1)) (tot_bind ?_))))
    refine (tot_loop (fun x : Int × Int × Int => ∃ j : Nat, x.2.2 = j ∧ j ≤ c.xs.length ∧ x.1 = ((List.range j).map fun i => gC fs.xs (At c.xs i)).sum ∧ x.2.1 = (if j = 0 then gX fs.xs (At c.xs 0) else gY fs.xs (At c.xs (j - 1))) ∧ ∀ i, i + 1 < c.xs.length → i + 1 ≤ j - 1 → gY fs.xs (At c.xs i) = gX fs.xs (At c.xs (i + 1)))
      (fun x : Int × Int × Int => c.xs.length - x.2.2.toNat)
      (Q := fun y => match y with | .a y => y.1 = ((List.range c.xs.length).map fun i => gC fs.xs (At c.xs i)).sum ∧ y.2 = gY fs.xs (At c.xs (c.xs.length - 1)) ∧ ∀ i, i + 1 < c.xs.length → gY fs.xs (At c.xs i) = gX fs.xs (At c.xs (i + 1)) | .b _ => ∃ i, i + 1 < c.xs.length ∧ gY fs.xs (At c.xs i) ≠ gX fs.xs (At c.xs (i + 1)))
      ?_ _ ⟨0, rfl, by omega, by simp, by simp; rfl, fun i h1 h2 => by omega⟩).mono ?_
    · rintro ⟨sm, at_, idx⟩ ⟨j, hi, hj, hs, ha, hlk⟩
      simp only at hi hs ha
      subst hi
      unfold cert_Circle_v3_L1
      refine tot_ifd (fun hlt => ?_) (fun hge => ?_)
      · have hj' : j < c.xs.length := by have : (j : Int) < c.xs.length := hlt; omega
        have ho := k3 j hj'
        have eg := g_idx ho
        refine tot_bind (tot_eq (at_gidx rfl rfl hj') (tot_bind (tot_eq eg ?_)))
        have hnx : IntKind.i64.wrap ((j : Int) + 1) = ((j + 1 : Nat) : Int) := by rw [wrap_id (by omega) (by omega)]; omega
        refine tot_ifd (fun hne => ?_) (fun heq => ?_)
        · refine tot_some ?_
          have hne' : gX fs.xs (At c.xs j) ≠ at_ := hne
          rw [ha] at hne'
          by_cases e : j = 0
          · subst e; exact absurd rfl hne'
          · rw [if_neg e] at hne'
            refine ⟨j - 1, by omega, fun h => hne' ?_⟩
            rw [h, show j - 1 + 1 = j by omega]
        · have heq' : gX fs.xs (At c.xs j) = at_ := Classical.not_not.1 heq
          refine tot_some ⟨⟨j + 1, hnx, by omega, ?_, ?_, fun i h1 h2 => ?_⟩, by simp only; rw [hnx]; omega⟩
          · have hb := sumK k3 k2 (j + 1) (by omega)
            rw [sum_snoc] at hb ⊢
            simp only
            rw [hs]
            show IntKind.i64.wrap (((List.range j).map fun i => gC fs.xs (At c.xs i)).sum + gC fs.xs (At c.xs j)) = _
            exact wrap_id (by omega) (by omega)
          · rw [if_neg (by omega)]; rfl
          · by_cases e : i + 1 = j
            · subst e
              rw [ha, if_neg (by omega)] at heq'
              simpa using heq'.symm
            · exact hlk i h1 (by omega)
      · have hj' : j = c.xs.length := by have : ¬ (j : Int) < c.xs.length := hge; omega
        subst hj'
        refine tot_some ⟨hs, ?_, fun i h1 => hlk i h1 (by omega)⟩
        rw [if_neg (by omega)] at ha; exact ha
    · rintro (y | _) hy
      · obtain ⟨y1, y2, y3⟩ := hy
        refine tot_some ?_
        rw [Bool.and_eq_true, decide_eq_true_eq, decide_eq_true_eq, y1, y2]
        constructor
        · rintro ⟨h1, h2⟩
          refine ⟨k1, k2, k3, fun i hi => ?_, h2⟩
          by_cases e : i + 1 = c.xs.length
          · rw [e, Nat.mod_self, show i = c.xs.length - 1 by omega]; exact h1
          · rw [Nat.mod_eq_of_lt (by omega)]; exact y3 i (by omega)
        · rintro ⟨_, _, _, h4, h5⟩
          refine ⟨?_, h5⟩
          have := h4 (c.xs.length - 1) (by omega)
          rw [show c.xs.length - 1 + 1 = c.xs.length by omega, Nat.mod_self] at this
          exact this
      · obtain ⟨i, h1, h2⟩ := hy
        refine tot_some ⟨fun h => by simp at h, fun hc => ?_⟩
        have := hc.2.2.2.1 i (by omega)
        rw [Nat.mod_eq_of_lt h1] at this
        exact absurd this h2
end Go.Px
