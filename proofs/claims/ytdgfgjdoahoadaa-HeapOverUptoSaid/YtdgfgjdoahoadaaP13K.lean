/- Loops that build lists, and loops that look for something; facts, and facts of cells. -/
import Derived.Test.YtdgfgjdoahoadaaP13J
import Derived.Test.YtdgfgjdoahoadaaTw
namespace Go.Px
set_option linter.unusedVariables false

/-- a loop that appends one element for each -/
theorem map_loop {α β S D : Type} [Inhabited α] {b : Nat} {f : S → Option (Step S D)} (mk : Sl β → Int → S) (dn : Sl β → D) {s : Sl α} (body : α → Sl β → Int → Option (Step S D)) (g : α → β) (a0 : Sl β)
    (hf : ∀ acc i, f (mk acc i) = if decide (i < s.len) = true then Option.bind (gidx s i) (fun x => body x acc i) else some (.done (dn acc)))
    (hb : ∀ x ∈ s.xs, ∀ acc i, body x acc i = Option.bind (gapp b acc [g x]) fun s' => some (.next (mk s' (IntKind.i64.wrap (i + 1)))))
    (h1 : (a0.xs.length + s.xs.length) * b ≤ 140737488355328) (h2 : a0.xs.length + s.xs.length ≤ 140737488355328) :
    loopO f (mk a0 0) = some (dn ⟨a0.xs ++ s.xs.map g, a0.nn || !s.xs.isEmpty⟩) := by
  have key : ∀ m j, j + m = s.xs.length → loopO f (mk ⟨a0.xs ++ (s.xs.take j).map g, a0.nn || decide (j ≠ 0)⟩ (j : Int)) = some (dn ⟨a0.xs ++ s.xs.map g, a0.nn || !s.xs.isEmpty⟩) := by
    intro m
    induction m with
    | zero =>
      intro j hj
      rw [loopO_eq, hf, if_neg (by simp [sl_len]; omega)]
      have hjl : j = s.xs.length := by omega
      subst hjl
      rw [List.take_length]
      have : decide (s.xs.length ≠ 0) = !s.xs.isEmpty := by cases s.xs <;> simp
      rw [this]; rfl
    | succ m ih =>
      intro j hj
      have hlt : j < s.xs.length := by omega
      have hb1 : (a0.xs.length + j + 1) * b ≤ (a0.xs.length + s.xs.length) * b := Nat.mul_le_mul_right _ (by omega)
      rw [loopO_eq, hf, if_pos (by simp [sl_len]; omega), gidx_ok default (by omega) (by omega)]
      simp only [Int.toNat_natCast, Option.bind_some]
      rw [hb _ (getD_mem default hlt), gapp_ok (by simp [Nat.min_eq_left (show j ≤ s.xs.length by omega)]; omega) (by simp; omega)]
      simp only [Option.bind_some]
      rw [show IntKind.i64.wrap ((j : Int) + 1) = ((j + 1 : Nat) : Int) by rw [wrap_id (by omega) (by omega)]; omega]
      have := ih (j + 1) (by omega)
      rw [List.take_add_one] at this
      have e : s.xs[j]?.toList = [s.xs.getD j default] := by simp [List.getElem?_eq_getElem hlt, List.getD_eq_getElem?_getD]
      rw [e] at this
      simp only [List.map_append, List.map_cons, List.map_nil, ← List.append_assoc] at this
      simpa using this
  have := key s.xs.length 0 (by omega)
  simpa using this
/-- a loop that ends early where something is found -/
theorem find_loop {D : Type} {f : Int → Option (Step Int D)} (N : Nat) (hN : N ≤ 140737488355328) (p : Nat → Bool) (a b : D)
    (hf : ∀ j, j < N → f (j : Int) = if p j = true then some (.done b) else some (.next (IntKind.i64.wrap ((j : Int) + 1)))) (he : f (N : Int) = some (.done a)) :
    loopO f 0 = some (if (List.range N).any p = true then b else a) := by
  have key : ∀ m j, j + m = N → (∀ i, i < j → p i = false) → loopO f (j : Int) = some (if (List.range N).any p = true then b else a) := by
    intro m
    induction m with
    | zero =>
      intro j hj hp
      obtain rfl : j = N := by omega
      rw [loopO_eq, he]
      have : ¬ (List.range j).any p = true := by
        simp only [List.any_eq_true, List.mem_range, not_exists, not_and]
        intro i hi; rw [hp i hi]; simp
      rw [if_neg this]; rfl
    | succ m ih =>
      intro j hj hp
      rw [loopO_eq, hf j (by omega)]
      by_cases h : p j = true
      · rw [if_pos h]
        have : (List.range N).any p = true := List.any_eq_true.2 ⟨j, List.mem_range.2 (by omega), h⟩
        rw [if_pos this]; rfl
      · rw [if_neg h]
        simp only [Option.bind_some]
        rw [show IntKind.i64.wrap ((j : Int) + 1) = ((j + 1 : Nat) : Int) by rw [wrap_id (by omega) (by omega)]; omega]
        refine ih (j + 1) (by omega) fun i hi => ?_
        by_cases e : i = j
        · subst e; simpa using h
        · exact hp i (by omega)
  have := key N 0 (by omega) (fun i hi => by omega)
  simpa using this
theorem gmod_ok {a b : Int} (ha : 0 ≤ a) (hb : 0 < b) (hb2 : b ≤ 9223372036854775807) : gmod .i64 a b = some (a % b) := by
  unfold gmod
  have hm := Int.emod_nonneg a (show b ≠ 0 by omega)
  have hm2 := Int.emod_lt_of_pos a hb
  rw [if_neg (by omega), Int.tmod_eq_emod_of_nonneg ha]
  try rw [wrap_id (by omega) (by omega)]
def pos (x : Int) : Int := if 0 < x then x else 0
theorem pos_nn (x : Int) : 0 ≤ pos x := by unfold pos; split <;> omega
def clp (c : Int) : Int := if (-1099511627776) < (if 1099511627776 < c then 1099511627776 else c) then (if 1099511627776 < c then 1099511627776 else c) else (-1099511627776)
theorem clp_le (c : Int) : -1099511627776 ≤ clp c ∧ clp c ≤ 1099511627776 := by unfold clp; split <;> split at * <;> omega
def fxn (n : Int) (f : Leq) : Leq := ⟨pos f.X % n, pos f.Y % n, clp f.C⟩
theorem fxn_ok {n : Int} (hn : 0 < n) (f : Leq) : 0 ≤ (fxn n f).X ∧ (fxn n f).X < n ∧ 0 ≤ (fxn n f).Y ∧ (fxn n f).Y < n ∧ -1099511627776 ≤ (fxn n f).C ∧ (fxn n f).C ≤ 1099511627776 :=
  ⟨Int.emod_nonneg _ (by omega), Int.emod_lt_of_pos _ hn, Int.emod_nonneg _ (by omega), Int.emod_lt_of_pos _ hn, (clp_le _).1, (clp_le _).2⟩
theorem take9 {α : Type} (l : Sl α) (m : Int) (hm : 0 ≤ m) (hl : l.xs.length ≤ 140737488355328) : gslice l 0 (if m < l.len then m else l.len) = some ⟨l.xs.take m.toNat, l.nn⟩ := by
  rw [sl_len]
  by_cases h : m < (l.xs.length : Int)
  · rw [if_pos h, gslice_ok (by omega) (by omega) (by omega)]; simp
  · rw [if_neg h, gslice_ok (by omega) (by omega) (by omega)]
    rw [List.take_of_length_le (i := m.toNat) (by omega)]; simp
theorem facts_ok (l : Sl Leq) (n : Int) (hn : 0 < n) (hn2 : n ≤ 1000000) (hl : l.xs.length ≤ 140737488355328) : ∃ nn, lychgatelaw13_facts l n = some ⟨(l.xs.take 9).map (fxn n), nn⟩ ∧ (nn = false → (l.xs.take 9).map (fxn n) = []) := by
  unfold lychgatelaw13_facts
  rw [take9 l 9 (by omega) hl]
  simp only [Option.bind_some]
  have := map_loop (b := 24) (f := lychgatelaw13_facts_L1 n ⟨l.xs.take 9, l.nn⟩) (fun acc i => (acc, i)) id (s := ⟨l.xs.take 9, l.nn⟩) (fun x acc i =>
    Option.bind (gmod .i64 (if 0 < x.X then x.X else 0) n) fun q_24 =>
    Option.bind (gmod .i64 (if 0 < x.Y then x.Y else 0) n) fun q_26 =>
    Option.bind (lychgatelaw13_cut x.C) fun r_28 =>
    Option.bind (gapp 24 acc [(⟨q_24, q_26, clp x.C⟩ : Gdiff_Leq)]) fun s_40 =>
    some (.next (s_40, IntKind.i64.wrap (i + 1)))) (fxn n) ⟨[], false⟩ (fun acc i => rfl) (fun x hx acc i => ?_) (by simp; omega) (by simp; omega)
  · rw [show loopO (lychgatelaw13_facts_L1 n ⟨l.xs.take (Int.toNat 9), l.nn⟩) ((⟨[], false⟩ : Sl Gdiff_Leq), (0 : Int)) = _ from this]
    refine ⟨_, rfl, ?_⟩
    simp
  · show Option.bind (gmod .i64 (pos x.X) n) _ = _
    rw [gmod_ok (pos_nn _) hn (by omega)]
    show Option.bind (gmod .i64 (pos x.Y) n) _ = _
    rw [gmod_ok (pos_nn _) hn (by omega)]
    rfl
theorem facts2_ok (l : Sl Leq) (n : Int) (hn : 0 < n) (hn2 : n ≤ 1000000) (hl : l.xs.length ≤ 140737488355328) : ∃ nn, lychgatelaw13_facts_v2 l n = some ⟨(l.xs.take 9).map (fxn n), nn⟩ ∧ (nn = false → (l.xs.take 9).map (fxn n) = []) := facts_ok l n hn hn2 hl
/-- what a fact's variable stands for -/
def sd (l : List Gheap_Sym) (v : Int) : Int × Int := if v = 0 then (0, 0) else if (l.getD (v - 1).toNat default).Kind ≠ 1 then (0, 0) else ((l.getD (v - 1).toNat default).Var, (l.getD (v - 1).toNat default).K)
theorem over1_ok (s : Sl Gheap_Sym) (v : Int) (h0 : 0 ≤ v) (h1 : v ≤ s.xs.length) (h2 : s.xs.length ≤ 1000000) : heap_Over_1 v s = some (sd s.xs v) := by
  unfold heap_Over_1 sd
  by_cases h : v = 0
  · rw [if_pos (decide_eq_true h), if_pos h]; rfl
  · have hi : gidx s (IntKind.i64.wrap (v - 1)) = some (s.xs.getD (v - 1).toNat default) := by
      rw [wrap_id (by omega) (by omega), gidx_ok default (by omega) (by omega)]
    rw [if_neg (by simpa using h), if_neg h, hi]
    simp only [Option.bind_some]
    by_cases hk : (s.xs.getD (v - 1).toNat default).Kind ≠ 1
    · rw [if_pos (decide_eq_true hk), if_pos hk]
    · rw [if_neg (by simpa using hk), if_neg hk]
def ov (l : List Gheap_Sym) (f : Leq) : Leq := ⟨(sd l f.X).1, (sd l f.Y).1, IntKind.i64.wrap (IntKind.i64.wrap (f.C - (sd l f.X).2) + (sd l f.Y).2)⟩
theorem over_ok (fs : Sl Leq) (s : Sl Gheap_Sym) (h2 : s.xs.length ≤ 1000000) (hl : fs.xs.length ≤ 1000000) (hf : ∀ f ∈ fs.xs, 0 ≤ f.X ∧ f.X ≤ s.xs.length ∧ 0 ≤ f.Y ∧ f.Y ≤ s.xs.length) :
    heap_Over fs s = some ⟨fs.xs.map (ov s.xs), !fs.xs.isEmpty⟩ := by
  unfold heap_Over
  have := map_loop (b := 24) (f := heap_Over_L1 fs s) (fun acc i => (acc, i)) id (s := fs) (fun x acc i =>
    Option.bind (heap_Over_1 x.X s) fun r_23 =>
    Option.bind (heap_Over_1 x.Y s) fun r_30 =>
    Option.bind (gapp 24 acc [(⟨r_23.1, r_30.1, IntKind.i64.wrap ((IntKind.i64.wrap (x.C - r_23.2)) + r_30.2)⟩ : Gdiff_Leq)]) fun s_40 =>
    some (.next (s_40, IntKind.i64.wrap (i + 1)))) (ov s.xs) ⟨[], false⟩ (fun acc i => rfl) (fun x hx acc i => ?_) (by simp; omega) (by simp; omega)
  · rw [show loopO (heap_Over_L1 fs s) ((⟨[], false⟩ : Sl Gdiff_Leq), (0 : Int)) = _ from this]
    simp
  · obtain ⟨a1, a2, a3, a4⟩ := hf x hx
    rw [over1_ok s _ a1 a2 h2]
    simp only [Option.bind_some]
    rw [over1_ok s _ a3 a4 h2]
    rfl
theorem over2_ok (fs : Sl Leq) (s : Sl Gheap_Sym) (h2 : s.xs.length ≤ 1000000) (hl : fs.xs.length ≤ 1000000) (hf : ∀ f ∈ fs.xs, 0 ≤ f.X ∧ f.X ≤ s.xs.length ∧ 0 ≤ f.Y ∧ f.Y ≤ s.xs.length) :
    heap_Over_v2 fs s = some ⟨fs.xs.map (ov s.xs), !fs.xs.isEmpty⟩ := over_ok fs s h2 hl hf
end Go.Px
