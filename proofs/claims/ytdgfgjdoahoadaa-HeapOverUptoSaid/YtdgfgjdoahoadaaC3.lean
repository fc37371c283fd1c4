/- Regions, functions, calls. -/
import Derived.Test.YtdgfgjdoahoadaaC2
namespace Go.Px
set_option linter.unusedVariables false

/-! a region in whatever order, where something holds until one operation (number 'tr') has come up -/
def TwaitN (ops : Array Oper) : Nat → Nat → Nat → Bool
  | 0, _, _ => false
  | n + 1, k, i => match ops[k]? with
    | none => false
    | some o => o.after.any fun e => Region.binds .any e && (e.on == i || TwaitN ops n e.on i)
def Twait (ops : Array Oper) (tr i : Nat) : Bool :=
  match ops[tr]? with
  | none => true
  | some _ => TwaitN ops ops.size tr i
/-- with an operation all have come up that it waits for -/
def Closed (ops : Array Oper) (listed : Array Bool) : Prop := ∀ (k : Nat) (o : Oper), ops[k]? = some o → listed.getD k false = true → ∀ e ∈ o.after, Region.binds .any e = true → listed.getD e.on false = true
def closedB (ops : Array Oper) (listed : Array Bool) : Bool :=
  (List.range ops.size).all fun k => !listed.getD k false || match ops[k]? with
    | none => true
    | some o => o.after.all fun e => !Region.binds .any e || listed.getD e.on false
theorem closed_of {ops : Array Oper} {listed : Array Bool} (h : closedB ops listed = true) : Closed ops listed := by
  intro k o hk hl e he hb
  have hks := (Array.getElem?_eq_some_iff.1 hk).1
  have h1 := List.all_eq_true.1 h k (List.mem_range.2 hks)
  rw [hl, hk] at h1
  simp only [Bool.not_true, Bool.false_or] at h1
  have h2 := Array.all_eq_true'.1 h1 e he
  simpa [hb] using h2
theorem TwaitN.listed {ops : Array Oper} {listed : Array Bool} (hc : Closed ops listed) {i : Nat} : ∀ (n k : Nat), TwaitN ops n k i = true → listed.getD k false = true → listed.getD i false = true
  | 0, _, h, _ => by simp [TwaitN] at h
  | n + 1, k, h, hk => by
    unfold TwaitN at h
    cases ho : ops[k]? with
    | none => rw [ho] at h; cases h
    | some o =>
      rw [ho] at h
      obtain ⟨e, he, hb⟩ := Array.any_eq_true'.1 h
      simp only [Bool.and_eq_true, Bool.or_eq_true, beq_iff_eq] at hb
      have hl := hc k o ho hk e he hb.1
      rcases hb.2 with z | z
      · rw [← z]; exact hl
      · exact TwaitN.listed hc n e.on z hl
/-- what waits for i isn't ready while i hasn't come up -/
theorem Twait.not_ready {ops : Array Oper} {listed : Array Bool} (hc : Closed ops listed) {tr i : Nat} {o : Oper} (ho : ops[tr]? = some o) (h : Twait ops tr i = true) (hi : listed.getD i false = false) (hr : ∀ e ∈ o.after, Region.binds .any e = true → listed.getD e.on false = true) : False := by
  unfold Twait at h
  rw [ho] at h
  cases hn : ops.size with
  | zero => have := (Array.getElem?_eq_some_iff.1 ho).1; omega
  | succ n =>
    rw [hn] at h
    simp only at h
    unfold TwaitN at h
    rw [ho] at h
    obtain ⟨e, he, hb⟩ := Array.any_eq_true'.1 h
    simp only [Bool.and_eq_true, Bool.or_eq_true, beq_iff_eq] at hb
    have hl := hr e he hb.1
    rcases hb.2 with z | z
    · rw [z, hi] at hl; cases hl
    · have := TwaitN.listed hc n e.on z hl; rw [hi] at this; cases this
theorem Closed.add {ops : Array Oper} {listed : Array Bool} (hc : Closed ops listed) {j : Nat} {o : Oper} (ho : ops[j]? = some o) (hr : ∀ e ∈ o.after, Region.binds .any e = true → listed.getD e.on false = true) : Closed ops (listed.setIfInBounds j true) := by
  have mono : ∀ k, listed.getD k false = true → (listed.setIfInBounds j true).getD k false = true := fun k h => by
    by_cases hk : j = k
    · subst hk
      rcases Nat.lt_or_ge j listed.size with z | z
      · rw [Array.getD_eq_getD_getElem?]; simp [z]
      · rw [Array.getD_eq_getD_getElem?, Array.getElem?_eq_none z] at h; cases h
    · rw [Array.getD_eq_getD_getElem?, Array.getElem?_setIfInBounds_ne hk, ← Array.getD_eq_getD_getElem?]; exact h
  intro k o' hk hl e he hb
  by_cases hkj : j = k
  · subst hkj
    rw [ho] at hk; cases hk
    exact mono _ (hr e he hb)
  · rw [Array.getD_eq_getD_getElem?, Array.getElem?_setIfInBounds_ne hkj, ← Array.getD_eq_getD_getElem?] at hl
    exact mono _ (hc k o' hk hl e he hb)
def wpAnyT (P : Program) (ops : Array Oper) (Q : Exit → Act → World → Prop) (S : World → Prop) (tr : Nat) : Nat → Array Bool → Act → World → Prop
  | 0, listed, a, w => Region.ready .any ops listed = [] ∧ Q .normal a w
  | fuel + 1, listed, a, w =>
    (Region.ready .any ops listed = [] → Q .normal a w) ∧
    ∀ i ∈ Region.ready .any ops listed, wpOp P ops Q i (fun a' w' => ((i = tr ∨ listed.getD tr false = true) ∨ S w') ∧ wpAnyT P ops Q S tr fuel (listed.setIfInBounds i true) a' w') a w
section
variable {P : Program} {ops : Array Oper} {Q : Exit → Act → World → Prop} {S : World → Prop} {tr : Nat}
theorem wpAny_of_T : ∀ (fuel : Nat) (listed : Array Bool) (a : Act) (w : World), wpAnyT P ops Q S tr fuel listed a w → wpAny P .any ops Q fuel listed a w
  | 0, _, _, _, h => h
  | fuel + 1, _, _, _, h => ⟨h.1, fun i hi => wpOp_mono (fun a' w' h' => wpAny_of_T fuel _ a' w' h'.2) (h.2 i hi)⟩
theorem wpAnyT_first {i : Nat} {oi : Oper} {v : Value} (hi : ops[i]? = some oi) (hsel : ∀ (j : Nat) (o : Oper) cs b, ops[j]? = some o → o.op ≠ .select cs b)
    (hQ : ∀ c a w, Q (.panic c) (a.put oi.dst v) w → Q (.panic c) a w) (htw : Twait ops tr i = true) :
    ∀ (fuel : Nat) (listed : Array Bool) (a : Act) (w : World), listed.getD tr false = false → Closed ops listed →
      (∀ j oj, ops[j]? = some oj → j ≠ i → listed.getD j true = false → (∀ e ∈ oj.after, Region.binds .any e = true → e.on ≠ i) → oi.apart ops oj = true) →
      i ∈ Region.ready .any ops listed → YieldsIf P ops S oi v a → S w →
      wpAnyT P ops Q S tr fuel (listed.setIfInBounds i true) (a.put oi.dst v) w → wpAnyT P ops Q S tr (fuel + 1) listed a w := by
  intro fuel
  induction fuel with
  | zero =>
    intro listed a w _ _ _ hr hy hS H
    refine ⟨fun h => (by rw [h] at hr; cases hr), fun j hj => ?_⟩
    by_cases hji : j = i
    · subst hji; exact hy.wpOp hi hS ⟨.inr hS, H⟩
    · have := ready_mono hj hji
      rw [H.1] at this
      cases this
  | succ fuel ih =>
    intro listed a w hlt hcl hfree hr hy hS H
    refine ⟨fun h => (by rw [h] at hr; cases hr), fun j hj => ?_⟩
    by_cases hji : j = i
    · subst hji; exact hy.wpOp hi hS ⟨.inr hS, H⟩
    · have h1 := H.2 j (ready_mono hj hji)
      obtain ⟨hjun, oj, hoj, hall⟩ := mem_ready.1 hj
      have hnot : ∀ e ∈ oj.after, Region.binds .any e = true → e.on ≠ i := fun e he hb heq => by
        have h1 := hall e he hb
        have h0 := (mem_ready.1 hr).1
        rw [heq] at h1
        rcases Nat.lt_or_ge i listed.size with h' | h'
        · simp [h'] at h0 h1; rw [h0] at h1; cases h1
        · simp [Array.getElem?_eq_none h'] at h1
      have hiun : listed.getD i false = false := by
        have h0 := (mem_ready.1 hr).1
        rcases Nat.lt_or_ge i listed.size with h' | h'
        · simp [h'] at h0 ⊢; exact h0
        · rw [Array.getD_eq_getD_getElem?, Array.getElem?_eq_none h']; rfl
      have hjt : j ≠ tr := fun e => by
        subst e
        exact Twait.not_ready hcl hoj htw hiun hall
      have hlt2 : (listed.setIfInBounds j true).getD tr false = false := by
        rw [Array.getD_eq_getD_getElem?, Array.getElem?_setIfInBounds_ne hjt, ← Array.getD_eq_getD_getElem?]; exact hlt
      have hlti : (listed.setIfInBounds i true).getD tr false = true → i = tr := fun h => by
        apply Classical.byContradiction
        intro hne
        rw [Array.getD_eq_getD_getElem?, Array.getElem?_setIfInBounds_ne hne, ← Array.getD_eq_getD_getElem?, hlt] at h
        cases h
      have h2 := wpOp_putIf hoj (hfree j oj hoj hji hjun hnot) (fun cs b => hsel i oi cs b hi) (fun cs b => hsel j oj cs b hoj) hQ hy h1
      have hfree' : ∀ k ok, ops[k]? = some ok → k ≠ i → (listed.setIfInBounds j true).getD k true = false →
          (∀ e ∈ ok.after, Region.binds .any e = true → e.on ≠ i) → oi.apart ops ok = true := fun k ok hk hki hun hno => by
        refine hfree k ok hk hki ?_ hno
        by_cases hjk : j = k
        · subst hjk; exact hjun
        · rw [getD_set_ne true hjk] at hun; exact hun
      have hit : i ≠ tr := fun e => by
        subst e
        obtain ⟨_, oi', hoi', hall'⟩ := mem_ready.1 hr
        exact Twait.not_ready hcl hoi' htw hiun hall'
      refine wpOp_mono (fun a' w' h3 => ?_) h2
      have hS' : S w' := by
        rcases h3.2.1 with (e | e) | e
        · exact absurd e hjt
        · exact absurd (hlti e) hit
        · exact e
      refine ⟨.inr hS', ih (listed.setIfInBounds j true) a' w' hlt2 (hcl.add hoj hall) hfree' (ready_mono hr (Ne.symm hji)) h3.1 hS' ?_⟩
      rw [Array.setIfInBounds_comm _ _ hji]
      exact h3.2.2
/-- as 'wpAnyT_first', of what yields its value in every world -/
theorem wpAnyT_firstp {i : Nat} {oi : Oper} {v : Value} (hi : ops[i]? = some oi) (hsel : ∀ (j : Nat) (o : Oper) cs b, ops[j]? = some o → o.op ≠ .select cs b)
    (hQ : ∀ c a w, Q (.panic c) (a.put oi.dst v) w → Q (.panic c) a w) (hit : i ≠ tr) :
    ∀ (fuel : Nat) (listed : Array Bool) (a : Act) (w : World),
      (∀ j oj, ops[j]? = some oj → j ≠ i → listed.getD j true = false → (∀ e ∈ oj.after, Region.binds .any e = true → e.on ≠ i) → oi.apart ops oj = true) →
      i ∈ Region.ready .any ops listed → YieldsIf P ops (fun _ => True) oi v a → (listed.getD tr false = true ∨ S w) →
      wpAnyT P ops Q S tr fuel (listed.setIfInBounds i true) (a.put oi.dst v) w → wpAnyT P ops Q S tr (fuel + 1) listed a w := by
  intro fuel
  induction fuel with
  | zero =>
    intro listed a w _ hr hy hS H
    refine ⟨fun h => (by rw [h] at hr; cases hr), fun j hj => ?_⟩
    by_cases hji : j = i
    · subst hji; exact hy.wpOp hi trivial ⟨hS.imp .inr id, H⟩
    · have := ready_mono hj hji
      rw [H.1] at this
      cases this
  | succ fuel ih =>
    intro listed a w hfree hr hy hS H
    refine ⟨fun h => (by rw [h] at hr; cases hr), fun j hj => ?_⟩
    by_cases hji : j = i
    · subst hji; exact hy.wpOp hi trivial ⟨hS.imp .inr id, H⟩
    · have h1 := H.2 j (ready_mono hj hji)
      obtain ⟨hjun, oj, hoj, hall⟩ := mem_ready.1 hj
      have hnot : ∀ e ∈ oj.after, Region.binds .any e = true → e.on ≠ i := fun e he hb heq => by
        have h1 := hall e he hb
        have h0 := (mem_ready.1 hr).1
        rw [heq] at h1
        rcases Nat.lt_or_ge i listed.size with h' | h'
        · simp [h'] at h0 h1; rw [h0] at h1; cases h1
        · simp [Array.getElem?_eq_none h'] at h1
      have h2 := wpOp_putIf hoj (hfree j oj hoj hji hjun hnot) (fun cs b => hsel i oi cs b hi) (fun cs b => hsel j oj cs b hoj) hQ hy h1
      have hfree' : ∀ k ok, ops[k]? = some ok → k ≠ i → (listed.setIfInBounds j true).getD k true = false →
          (∀ e ∈ ok.after, Region.binds .any e = true → e.on ≠ i) → oi.apart ops ok = true := fun k ok hk hki hun hno => by
        refine hfree k ok hk hki ?_ hno
        by_cases hjk : j = k
        · subst hjk; exact hjun
        · rw [getD_set_ne true hjk] at hun; exact hun
      have hjs : j < listed.size := by
        rcases Nat.lt_or_ge j listed.size with h | h
        · exact h
        · rw [Array.getD_eq_getD_getElem?, Array.getElem?_eq_none h] at hjun; cases hjun
      have hset : (listed.setIfInBounds i true).getD tr false = listed.getD tr false := by
        rw [Array.getD_eq_getD_getElem?, Array.getElem?_setIfInBounds_ne hit, ← Array.getD_eq_getD_getElem?]
      have hset2 : listed.getD tr false = true → (listed.setIfInBounds j true).getD tr false = true := fun h => by
        by_cases hk : j = tr
        · subst hk; rw [Array.getD_eq_getD_getElem?]; simp [hjs]
        · rw [Array.getD_eq_getD_getElem?, Array.getElem?_setIfInBounds_ne hk, ← Array.getD_eq_getD_getElem?]; exact h
      refine wpOp_mono (fun a' w' h3 => ?_) h2
      rw [hset] at h3
      refine ⟨h3.2.1, ih (listed.setIfInBounds j true) a' w' hfree' (ready_mono hr (Ne.symm hji)) h3.1 ?_ ?_⟩
      · rcases h3.2.1 with (e | e) | e
        · left; subst e; rw [Array.getD_eq_getD_getElem?]; simp [hjs]
        · exact .inl (hset2 e)
        · exact .inr e
      · rw [Array.setIfInBounds_comm _ _ hji]; exact h3.2.2
theorem wpAnyT_takep {i : Nat} {oi : Oper} {v : Value} {fuel : Nat} {listed : Array Bool} {a : Act} {w : World} (hi : ops[i]? = some oi)
    (hs : Region.noSelect ops = true) (hf : Region.free .any ops listed i = true) (hr : (Region.ready .any ops listed).contains i = true) (hit : Nat.beq i tr = false)
    (hQ : ∀ c a w, Q (.panic c) (a.put oi.dst v) w → Q (.panic c) a w) (hy : YieldsIf P ops (fun _ => True) oi v a) (hS : listed.getD tr false = true ∨ S w)
    (h : wpAnyT P ops Q S tr fuel (listed.setIfInBounds i true) (a.put oi.dst v) w) : wpAnyT P ops Q S tr (fuel + 1) listed a w :=
  wpAnyT_firstp hi (Region.noSelect_spec hs) hQ (fun e => by subst e; simp at hit) fuel listed a w (Region.free_spec hi hf) (by simpa using hr) hy hS h
theorem wpAnyT_take {i : Nat} {oi : Oper} {v : Value} {fuel : Nat} {listed : Array Bool} {a : Act} {w : World} (hi : ops[i]? = some oi)
    (hs : Region.noSelect ops = true) (hf : Region.free .any ops listed i = true) (hr : (Region.ready .any ops listed).contains i = true) (htw : Twait ops tr i = true) (hlt : listed.getD tr false = false) (hcl : closedB ops listed = true)
    (hQ : ∀ c a w, Q (.panic c) (a.put oi.dst v) w → Q (.panic c) a w) (hy : YieldsIf P ops S oi v a) (hS : S w)
    (h : wpAnyT P ops Q S tr fuel (listed.setIfInBounds i true) (a.put oi.dst v) w) : wpAnyT P ops Q S tr (fuel + 1) listed a w :=
  wpAnyT_first hi (Region.noSelect_spec hs) hQ htw fuel listed a w hlt (closed_of hcl) (Region.free_spec hi hf) (by simpa using hr) hy hS h
theorem wpAnyT_all {rs : List Nat} {fuel : Nat} {listed : Array Bool} {a : Act} {w : World} (hr : Region.ready .any ops listed = rs) (hne : rs ≠ [])
    (h : ∀ i ∈ rs, wpOp P ops Q i (fun a' w' => ((i = tr ∨ listed.getD tr false = true) ∨ S w') ∧ wpAnyT P ops Q S tr fuel (listed.setIfInBounds i true) a' w') a w) : wpAnyT P ops Q S tr (fuel + 1) listed a w :=
  ⟨fun h0 => absurd (hr ▸ h0) hne, hr ▸ h⟩
theorem wpAnyT_done {listed : Array Bool} {a : Act} {w : World} (hr : Region.ready .any ops listed = []) (h : Q .normal a w) : ∀ fuel, wpAnyT P ops Q S tr fuel listed a w
  | 0 => ⟨hr, h⟩
  | _ + 1 => ⟨fun _ => h, by rw [hr]; simp⟩
end

class PStab (Q : Exit → Act → World → Prop) : Prop where
  st : ∀ c (a : Act) d v w, Q (.panic c) (a.put d v) w → Q (.panic c) a w
instance {K : Act → World → Prop} {Q : Exit → Act → World → Prop} [h : PStab Q] : PStab (Exit.then K Q) := ⟨fun c a d v w q => h.st c a d v w q⟩
instance {i : Nat} {Q : Exit → Act → World → Prop} [h : PStab Q] : PStab (Exit.inBlock i Q) := ⟨fun c a d v w q => h.st c a d v w q⟩
instance {P : Program} {fn : Func} {R : Ending → World → Prop} : PStab (bodyPost P fn R) := ⟨fun c a d v w q => ⟨by have := q.1; cases d <;> exact this, q.2⟩⟩
instance {n w0 σ0 γ Tail} {y : γ} : PStab (cutQ n w0 σ0 Tail y) := ⟨fun c a d v w q => q⟩
instance {n w0 σ0 s β Head Tail} {st : Step s β} : PStab (loopQ n w0 σ0 Head Tail st) := ⟨fun c a d v w q => by cases st <;> exact q⟩

section
variable {ρ : Type} {n : Nat} {w0 : Start} {σ0 σ : FS} {p : Option ρ} {L : List (Nat × Value)} {b : Nat → Value} {PV PV' : List Priv}
variable {P : Program} {Q : ρ → Exit → Act → World → Prop} {ops : Array Oper} {o : Oper} {rest : List Oper}

/-! one operation -/
/-- what an operation does: 'dst' is its temporary; H is what must be shown of the rest -/
def OpOK (P : Program) (n : Nat) (w0 : Start) (σ0 : FS) (o : Oper) (p : Option ρ) (L : List (Nat × Value)) (b : Nat → Value) (σ : FS) (PV : List Priv)
    (H : Option ρ → List (Nat × Value) → FS → List Priv → Prop) : Prop :=
  ∀ r, p = some r → ∀ a w, Inv w0 σ0 σ PV w → Fits n L b a → ∀ (K : Act → World → Prop) (Q : Exit → Act → World → Prop),
    (∀ p' L' σ' PV' a' w', p' = some r → Inv w0 σ0 σ' PV' w' → Fits n L' b a' → H p' L' σ' PV' → K a' w') → o.wp P a w K Q
/-- an operation that yields a value and does nothing else, in whatever world -/
theorem op_pure {H : Option ρ → List (Nat × Value) → FS → List Priv → Prop} {d : Nat} {v : Value} (hd : o.dst = some d) (hn : Nat.blt d n = true)
    (hr : ∀ w, (execOp (opv L b) o).run P w = .ok (.value v) w) (h : H p ((d, v) :: L) σ PV) : OpOK P n w0 σ0 o p L b σ PV H := by
  intro r hp a w hi hf K Q hK
  unfold Oper.wp
  rw [hf.eval, hr w, Oper.upon_value, hd]
  exact hK p _ σ PV _ w hp hi (hf.put (by simpa [Nat.blt_eq] using hn) v) h

/-! the region in the order of its text -/
abbrev GL (P : Program) (ops : Array Oper) (Q : ρ → Exit → Act → World → Prop) (rest : List Oper) : ρ → Act → World → Prop := fun r a w => wpList P ops (Q r) rest a w
theorem J_region {i : Nat} {l : List Oper} (h : J n w0 σ0 p (GL P l.toArray Q l) L b σ PV) :
    J n w0 σ0 p (fun r a w => (Code.region i l.toArray false).wp P (Q r) a w) L b σ PV := fun r hp a w hi hf => wp_region_lit (h r hp a w hi hf)
theorem JL_nil (h : J n w0 σ0 p (fun r a w => Q r .normal a w) L b σ PV) : J n w0 σ0 p (GL P ops Q []) L b σ PV :=
  fun r hp a w hi hf => wpList_nil (h r hp a w hi hf)
theorem JL_op (hg : o.guard = none) (h : OpOK P n w0 σ0 o p L b σ PV (fun p' L' σ' PV' => J n w0 σ0 p' (GL P ops Q rest) L' b σ' PV')) :
    J n w0 σ0 p (GL P ops Q (o :: rest)) L b σ PV := by
  intro r hp a w hi hf
  refine wpList_plain hg fun K hK => h r hp a w hi hf K (Q r) ?_
  intro p' L' σ' PV' a' w' hp' hi' hf' hH
  exact hK _ _ (hH r hp' a' w' hi' hf')
/-- a guarded operation that is carried out -/
theorem JL_opg {j : Nat} {want e : Bool} (hg : o.guard = some (j, want)) (hy : yieldedL ops L b j = some e) (he : e = want)
    (h : OpOK P n w0 σ0 o p L b σ PV (fun p' L' σ' PV' => J n w0 σ0 p' (GL P ops Q rest) L' b σ' PV')) :
    J n w0 σ0 p (GL P ops Q (o :: rest)) L b σ PV := by
  intro r hp a w hi hf
  refine wpList_step fun K hK => ?_
  rw [if_pos (by simp [Region.wanted, hg, hf.yielded, hy, he])]
  refine h r hp a w hi hf K (Q r) ?_
  intro p' L' σ' PV' a' w' hp' hi' hf' hH
  exact hK _ _ (hH r hp' a' w' hi' hf')
theorem JL_skip {j d : Nat} {want e : Bool} (hg : o.guard = some (j, want)) (hy : yieldedL ops L b j = some e) (he : e = !want) (hd : o.dst = some d) (hn : Nat.blt d n = true)
    (h : J n w0 σ0 p (GL P ops Q rest) ((d, undef) :: L) b σ PV) : J n w0 σ0 p (GL P ops Q (o :: rest)) L b σ PV := by
  intro r hp a w hi hf
  refine wpList_step fun K hK => ?_
  rw [if_neg (by simp [Region.wanted, hg, hf.yielded, hy, he]), hd]
  exact hK _ _ (h r hp _ w hi (hf.put (by simpa [Nat.blt_eq] using hn) _))
theorem JL_skipn {j d : Nat} {want : Bool} (hg : o.guard = some (j, want)) (hy : yieldedL ops L b j = none) (hd : o.dst = some d) (hn : Nat.blt d n = true)
    (h : J n w0 σ0 p (GL P ops Q rest) ((d, undef) :: L) b σ PV) : J n w0 σ0 p (GL P ops Q (o :: rest)) L b σ PV := by
  intro r hp a w hi hf
  refine wpList_step fun K hK => ?_
  rw [if_neg (by simp [Region.wanted, hg, hf.yielded, hy]), hd]
  exact hK _ _ (h r hp _ w hi (hf.put (by simpa [Nat.blt_eq] using hn) _))
/-- a guarded operation without a temporary (a store) that isn't carried out -/
theorem JL_skip0 {j : Nat} {want e : Bool} (hg : o.guard = some (j, want)) (hy : yieldedL ops L b j = some e) (he : e = !want) (hd : o.dst = none)
    (h : J n w0 σ0 p (GL P ops Q rest) L b σ PV) : J n w0 σ0 p (GL P ops Q (o :: rest)) L b σ PV := by
  intro r hp a w hi hf
  refine wpList_step fun K hK => ?_
  rw [if_neg (by simp [Region.wanted, hg, hf.yielded, hy, he]), hd]
  exact hK _ _ (h r hp _ w hi hf)

/-! the region in whatever order -/
def Held (σr : FS) (PVr : List Priv) (w : World) : Prop := σr.sub w ∧ ∃ h, Sep σr PVr h ∧ h.sub w
structure HeldOK (σr : FS) (PVr : List Priv) (σ : FS) (PV : List Priv) : Prop where
  le : σr.le σ
  all : ∀ h, Sep σ PV h → Sep σr PVr h
theorem HeldOK.held {σr : FS} {PVr : List Priv} (h : HeldOK σr PVr σ PV) {w : World} (hi : Inv w0 σ0 σ PV w) : Held σr PVr w :=
  ⟨h.le.sub hi.sub, hi.own.elim fun g k => ⟨g, h.all g k.1, k.2.sub⟩⟩
theorem HeldOK.same {σ : FS} {PVr PV : List Priv} (idx : List Nat) (hn : idx.Nodup) (hg : idx.map (fun i => PV[i]?) = PVr.map some) : HeldOK σ PVr σ PV := ⟨.refl σ, fun h k => k.select idx hn hg⟩
/-- what holds whatever is held fast -/
def Free : List Priv → Prop
  | [] => True
  | p :: r => (∀ σ τ h, p.holds σ h → p.holds τ h) ∧ Free r
theorem Free.get : ∀ {l : List Priv}, Free l → ∀ (i : Nat) p, l[i]? = some p → ∀ σ τ h, p.holds σ h → p.holds τ h
  | [], _, i, _, h => by simp at h
  | p :: r, ⟨h, k⟩, i, q, hq => by
    cases i with
    | zero => simp at hq; subst hq; exact h
    | succ i => exact k.get i q (by simpa using hq)
theorem Free.sep {l : List Priv} (f : Free l) {σ τ : FS} {h : Frag} (k : Sep σ l h) : Sep τ l h := by
  obtain ⟨hs, k1, k2, k3⟩ := k
  exact ⟨hs, fun i p hp => f.get i p hp σ τ _ (k1 i p hp), k2, k3⟩
theorem Free.append : ∀ {l m : List Priv}, Free l → Free m → Free (l ++ m)
  | [], _, _, h => h
  | _ :: _, _, ⟨h, k⟩, g => ⟨h, k.append g⟩
theorem HeldOK.plain {σr σ : FS} {PVr PV : List Priv} (hl : σr.le σ) (idx : List Nat) (hn : idx.Nodup) (hg : idx.map (fun i => PV[i]?) = PVr.map some) (hp : Free PVr) : HeldOK σr PVr σ PV := ⟨hl, fun h k => hp.sep (k.select idx hn hg)⟩
abbrev GA (P : Program) (ops : Array Oper) (tr : Nat) (σr : FS) (PVr : List Priv) (Q : ρ → Exit → Act → World → Prop) (fuel : Nat) (listed : Array Bool) : ρ → Act → World → Prop :=
  fun r a w => wpAnyT P ops (Q r) (Held σr PVr) tr fuel listed a w
/-- what is to be shown behind an operation: nothing more is leant on, or it still holds -/
abbrev Behind (i tr : Nat) (listed : Array Bool) (σr : FS) (PVr : List Priv) (σ : FS) (PV : List Priv) : Prop := (i = tr ∨ listed.getD tr false = true) ∨ HeldOK σr PVr σ PV
theorem Behind.world {i tr : Nat} {listed : Array Bool} {σr : FS} {PVr : List Priv} (h : Behind i tr listed σr PVr σ PV) {w : World} (hi : Inv w0 σ0 σ PV w) : (i = tr ∨ listed.getD tr false = true) ∨ Held σr PVr w := h.imp id fun k => k.held hi
theorem J_region_any {i : Nat} (tr : Nat) (PVr : List Priv) (hm : P.follows .mixedOrders = true) (hs : Region.noSelect ops = true)
    (h : Region.noSelect ops = true → J n w0 σ0 p (GA P ops tr σ PVr Q ops.size (Array.replicate ops.size false)) L b σ PV) :
    J n w0 σ0 p (fun r a w => (Code.region i ops true).wp P (Q r) a w) L b σ PV :=
  fun r hp a w hi hf => wp_region_any hm (wpAny_of_T _ _ _ _ (h hs r hp a _ hi.drew hf))
theorem JA_done {tr : Nat} {σr : FS} {PVr : List Priv} {fuel : Nat} {listed : Array Bool} (hr : Region.ready .any ops listed = [])
    (h : J n w0 σ0 p (fun r a w => Q r .normal a w) L b σ PV) : J n w0 σ0 p (GA P ops tr σr PVr Q fuel listed) L b σ PV :=
  fun r hp a w hi hf => wpAnyT_done hr (h r hp a w hi hf) fuel
/-- an operation that only reads is taken first -/
theorem JA_take [hq : ∀ r, PStab (Q r)] {tr : Nat} {σr : FS} {PVr : List Priv} {fuel : Nat} {listed : Array Bool} (i : Nat) {d : Nat} {v : Value}
    (ho : ops[i]? = some o) (hs : Region.noSelect ops = true)
    (hfr : Region.free .any ops listed i = true) (hr : (Region.ready .any ops listed).contains i = true) (htw : Twait ops tr i = true) (hlt : listed.getD tr false = false) (hcl : closedB ops listed = true)
    (hS : HeldOK σr PVr σ PV) (hg : o.guard = none) (hd : o.dst = some d) (hn : Nat.blt d n = true)
    (hv : ∀ w, Held σr PVr w → (execOp (opv L b) o).run P w = .ok (.value v) w)
    (h : J n w0 σ0 p (GA P ops tr σr PVr Q fuel (listed.setIfInBounds i true)) ((d, v) :: L) b σ PV) :
    J n w0 σ0 p (GA P ops tr σr PVr Q (fuel + 1) listed) L b σ PV := by
  intro r hp a w hi hf
  refine wpAnyT_take ho hs hfr hr htw hlt hcl (fun c a w => (hq r).st c a o.dst v w) (.inl ⟨by simp [Region.wanted, hg], fun w hw => by rw [hf.eval]; exact hv w hw⟩) (hS.held hi) ?_
  rw [hd]
  exact h r hp _ w hi (hf.put (by simpa [Nat.blt_eq] using hn) v)
theorem JA_takeg [hq : ∀ r, PStab (Q r)] {tr : Nat} {σr : FS} {PVr : List Priv} {fuel : Nat} {listed : Array Bool} (i : Nat) {d j : Nat} {v : Value} {want e : Bool}
    (ho : ops[i]? = some o) (hs : Region.noSelect ops = true)
    (hfr : Region.free .any ops listed i = true) (hr : (Region.ready .any ops listed).contains i = true) (htw : Twait ops tr i = true) (hlt : listed.getD tr false = false) (hcl : closedB ops listed = true)
    (hS : HeldOK σr PVr σ PV) (hg : o.guard = some (j, want)) (hy : yieldedL ops L b j = some e) (he : e = want) (hd : o.dst = some d) (hn : Nat.blt d n = true)
    (hv : ∀ w, Held σr PVr w → (execOp (opv L b) o).run P w = .ok (.value v) w)
    (h : J n w0 σ0 p (GA P ops tr σr PVr Q fuel (listed.setIfInBounds i true)) ((d, v) :: L) b σ PV) :
    J n w0 σ0 p (GA P ops tr σr PVr Q (fuel + 1) listed) L b σ PV := by
  intro r hp a w hi hf
  refine wpAnyT_take ho hs hfr hr htw hlt hcl (fun c a w => (hq r).st c a o.dst v w) (.inl ⟨by simp [Region.wanted, hg, hf.yielded, hy, he], fun w hw => by rw [hf.eval]; exact hv w hw⟩) (hS.held hi) ?_
  rw [hd]
  exact h r hp _ w hi (hf.put (by simpa [Nat.blt_eq] using hn) v)
/-- an operation that looks at no memory is taken first -/
theorem JA_takep [hq : ∀ r, PStab (Q r)] {tr : Nat} {σr : FS} {PVr : List Priv} {fuel : Nat} {listed : Array Bool} (i : Nat) {d : Nat} {v : Value}
    (ho : ops[i]? = some o) (hs : Region.noSelect ops = true) (hfr : Region.free .any ops listed i = true) (hr : (Region.ready .any ops listed).contains i = true) (hit : Nat.beq i tr = false)
    (hS : listed.getD tr false = true ∨ HeldOK σr PVr σ PV) (hg : o.guard = none) (hd : o.dst = some d) (hn : Nat.blt d n = true)
    (hv : ∀ w, Held (fun _ _ => none) [] w → (execOp (opv L b) o).run P w = .ok (.value v) w)
    (h : J n w0 σ0 p (GA P ops tr σr PVr Q fuel (listed.setIfInBounds i true)) ((d, v) :: L) b σ PV) :
    J n w0 σ0 p (GA P ops tr σr PVr Q (fuel + 1) listed) L b σ PV := by
  intro r hp a w hi hf
  refine wpAnyT_takep ho hs hfr hr hit (fun c a w => (hq r).st c a o.dst v w) (.inl ⟨by simp [Region.wanted, hg], fun w _ => by rw [hf.eval]; exact hv w ⟨fun _ _ _ e => (by cases e), Frag.none, .nil, fun _ _ _ e => by cases e⟩⟩) (hS.imp id fun k => k.held hi) ?_
  rw [hd]
  exact h r hp _ w hi (hf.put (by simpa [Nat.blt_eq] using hn) v)
theorem JA_takepg [hq : ∀ r, PStab (Q r)] {tr : Nat} {σr : FS} {PVr : List Priv} {fuel : Nat} {listed : Array Bool} (i : Nat) {d j : Nat} {v : Value} {want e : Bool}
    (ho : ops[i]? = some o) (hs : Region.noSelect ops = true) (hfr : Region.free .any ops listed i = true) (hr : (Region.ready .any ops listed).contains i = true) (hit : Nat.beq i tr = false)
    (hS : listed.getD tr false = true ∨ HeldOK σr PVr σ PV) (hg : o.guard = some (j, want)) (hy : yieldedL ops L b j = some e) (he : e = want) (hd : o.dst = some d) (hn : Nat.blt d n = true)
    (hv : ∀ w, Held (fun _ _ => none) [] w → (execOp (opv L b) o).run P w = .ok (.value v) w)
    (h : J n w0 σ0 p (GA P ops tr σr PVr Q fuel (listed.setIfInBounds i true)) ((d, v) :: L) b σ PV) :
    J n w0 σ0 p (GA P ops tr σr PVr Q (fuel + 1) listed) L b σ PV := by
  intro r hp a w hi hf
  refine wpAnyT_takep ho hs hfr hr hit (fun c a w => (hq r).st c a o.dst v w) (.inl ⟨by simp [Region.wanted, hg, hf.yielded, hy, he], fun w _ => by rw [hf.eval]; exact hv w ⟨fun _ _ _ e => (by cases e), Frag.none, .nil, fun _ _ _ e => by cases e⟩⟩) (hS.imp id fun k => k.held hi) ?_
  rw [hd]
  exact h r hp _ w hi (hf.put (by simpa [Nat.blt_eq] using hn) v)
theorem JA_skip [hq : ∀ r, PStab (Q r)] {tr : Nat} {σr : FS} {PVr : List Priv} {fuel : Nat} {listed : Array Bool} (i : Nat) {d j : Nat} {want : Bool} {y : Option Bool}
    (ho : ops[i]? = some o) (hs : Region.noSelect ops = true) (hfr : Region.free .any ops listed i = true) (hr : (Region.ready .any ops listed).contains i = true) (hit : Nat.beq i tr = false)
    (hS : listed.getD tr false = true ∨ HeldOK σr PVr σ PV) (hg : o.guard = some (j, want)) (hy : yieldedL ops L b j = y) (he : y ≠ some want) (hd : o.dst = some d) (hn : Nat.blt d n = true)
    (h : J n w0 σ0 p (GA P ops tr σr PVr Q fuel (listed.setIfInBounds i true)) ((d, undef) :: L) b σ PV) :
    J n w0 σ0 p (GA P ops tr σr PVr Q (fuel + 1) listed) L b σ PV := by
  intro r hp a w hi hf
  refine wpAnyT_takep (v := undef) ho hs hfr hr hit (fun c a w => (hq r).st c a o.dst undef w) (.inr ⟨by simp only [Region.wanted, hg, hf.yielded, hy]; simpa using he, rfl⟩) (hS.imp id fun k => k.held hi) ?_
  rw [hd]
  exact h r hp _ w hi (hf.put (by simpa [Nat.blt_eq] using hn) _)
/-- the one operation that may come up -/
theorem JA_op {tr : Nat} {σr : FS} {PVr : List Priv} {fuel : Nat} {listed : Array Bool} {i : Nat}
    (hr : Region.ready .any ops listed = [i]) (ho : ops[i]? = some o) (hg : o.guard = none)
    (h : OpOK P n w0 σ0 o p L b σ PV (fun p' L' σ' PV' => Behind i tr listed σr PVr σ' PV' ∧ J n w0 σ0 p' (GA P ops tr σr PVr Q fuel (listed.setIfInBounds i true)) L' b σ' PV')) :
    J n w0 σ0 p (GA P ops tr σr PVr Q (fuel + 1) listed) L b σ PV := by
  intro r hp a w hi hf
  refine wpAnyT_all hr (by simp) ?_
  intro k hk
  obtain rfl : k = i := by simpa using hk
  unfold wpOp
  simp only [ho]
  rw [if_pos (by simp [Region.wanted, hg])]
  refine .inl (h r hp a w hi hf _ (Q r) ?_)
  intro p' L' σ' PV' a' w' hp' hi' hf' ⟨hS, hH⟩
  exact ⟨hS.world hi', hH r hp' a' w' hi' hf'⟩
theorem JA_opg {tr : Nat} {σr : FS} {PVr : List Priv} {fuel : Nat} {listed : Array Bool} {i j : Nat} {want e : Bool}
    (hr : Region.ready .any ops listed = [i]) (ho : ops[i]? = some o) (hg : o.guard = some (j, want)) (hy : yieldedL ops L b j = some e) (he : e = want)
    (h : OpOK P n w0 σ0 o p L b σ PV (fun p' L' σ' PV' => Behind i tr listed σr PVr σ' PV' ∧ J n w0 σ0 p' (GA P ops tr σr PVr Q fuel (listed.setIfInBounds i true)) L' b σ' PV')) :
    J n w0 σ0 p (GA P ops tr σr PVr Q (fuel + 1) listed) L b σ PV := by
  intro r hp a w hi hf
  refine wpAnyT_all hr (by simp) ?_
  intro k hk
  obtain rfl : k = i := by simpa using hk
  unfold wpOp
  simp only [ho]
  rw [if_pos (by simp [Region.wanted, hg, hf.yielded, hy, he])]
  refine .inl (h r hp a w hi hf _ (Q r) ?_)
  intro p' L' σ' PV' a' w' hp' hi' hf' ⟨hS, hH⟩
  exact ⟨hS.world hi', hH r hp' a' w' hi' hf'⟩
/-- several that may come up: each is shown by itself, as the only one -/
def J1 (P : Program) (ops : Array Oper) (n : Nat) (w0 : Start) (σ0 : FS) (tr : Nat) (σr : FS) (PVr : List Priv) (Q : ρ → Exit → Act → World → Prop) (fuel : Nat) (listed : Array Bool)
    (i : Nat) (p : Option ρ) (L : List (Nat × Value)) (b : Nat → Value) (σ : FS) (PV : List Priv) : Prop :=
  J n w0 σ0 p (fun r a w => wpOp P ops (Q r) i (fun a' w' => ((i = tr ∨ listed.getD tr false = true) ∨ Held σr PVr w') ∧ wpAnyT P ops (Q r) (Held σr PVr) tr fuel (listed.setIfInBounds i true) a' w') a w) L b σ PV
theorem JA_all {tr : Nat} {σr : FS} {PVr : List Priv} {fuel : Nat} {listed : Array Bool} {rs : List Nat}
    (hr : Region.ready .any ops listed = rs) (hne : rs ≠ []) (h : ∀ i ∈ rs, J1 P ops n w0 σ0 tr σr PVr Q fuel listed i p L b σ PV) :
    J n w0 σ0 p (GA P ops tr σr PVr Q (fuel + 1) listed) L b σ PV :=
  fun r hp a w hi hf => wpAnyT_all hr hne fun i hm => h i hm r hp a w hi hf
theorem JA_two {tr : Nat} {σr : FS} {PVr : List Priv} {fuel : Nat} {listed : Array Bool} {i j : Nat}
    (hr : Region.ready .any ops listed = [i, j]) (h1 : J1 P ops n w0 σ0 tr σr PVr Q fuel listed i p L b σ PV) (h2 : J1 P ops n w0 σ0 tr σr PVr Q fuel listed j p L b σ PV) :
    J n w0 σ0 p (GA P ops tr σr PVr Q (fuel + 1) listed) L b σ PV :=
  JA_all hr (by simp) (by simp [h1, h2])
theorem JA_three {tr : Nat} {σr : FS} {PVr : List Priv} {fuel : Nat} {listed : Array Bool} {i j k : Nat}
    (hr : Region.ready .any ops listed = [i, j, k]) (h1 : J1 P ops n w0 σ0 tr σr PVr Q fuel listed i p L b σ PV) (h2 : J1 P ops n w0 σ0 tr σr PVr Q fuel listed j p L b σ PV)
    (h3 : J1 P ops n w0 σ0 tr σr PVr Q fuel listed k p L b σ PV) :
    J n w0 σ0 p (GA P ops tr σr PVr Q (fuel + 1) listed) L b σ PV :=
  JA_all hr (by simp) (by simp [h1, h2, h3])
theorem J1_op {tr : Nat} {σr : FS} {PVr : List Priv} {fuel : Nat} {listed : Array Bool} {i : Nat} (ho : ops[i]? = some o) (hg : o.guard = none)
    (h : OpOK P n w0 σ0 o p L b σ PV (fun p' L' σ' PV' => Behind i tr listed σr PVr σ' PV' ∧ J n w0 σ0 p' (GA P ops tr σr PVr Q fuel (listed.setIfInBounds i true)) L' b σ' PV')) :
    J1 P ops n w0 σ0 tr σr PVr Q fuel listed i p L b σ PV := by
  intro r hp a w hi hf
  unfold wpOp
  simp only [ho]
  rw [if_pos (by simp [Region.wanted, hg])]
  refine .inl (h r hp a w hi hf _ (Q r) ?_)
  intro p' L' σ' PV' a' w' hp' hi' hf' ⟨hS, hH⟩
  exact ⟨hS.world hi', hH r hp' a' w' hi' hf'⟩
theorem J1_opg {tr : Nat} {σr : FS} {PVr : List Priv} {fuel : Nat} {listed : Array Bool} {i j : Nat} {want e : Bool} (ho : ops[i]? = some o) (hg : o.guard = some (j, want))
    (hy : yieldedL ops L b j = some e) (he : e = want)
    (h : OpOK P n w0 σ0 o p L b σ PV (fun p' L' σ' PV' => Behind i tr listed σr PVr σ' PV' ∧ J n w0 σ0 p' (GA P ops tr σr PVr Q fuel (listed.setIfInBounds i true)) L' b σ' PV')) :
    J1 P ops n w0 σ0 tr σr PVr Q fuel listed i p L b σ PV := by
  intro r hp a w hi hf
  unfold wpOp
  simp only [ho]
  rw [if_pos (by simp [Region.wanted, hg, hf.yielded, hy, he])]
  refine .inl (h r hp a w hi hf _ (Q r) ?_)
  intro p' L' σ' PV' a' w' hp' hi' hf' ⟨hS, hH⟩
  exact ⟨hS.world hi', hH r hp' a' w' hi' hf'⟩
/-- the rest under one name: where several ways meet within a region -/
theorem J_meet {α : Type} {G : ρ → Act → World → Prop} {G2 : ρ → Act → World → Prop} {x : Option α} {k : α → Option ρ} (Tail : α → List (Nat × Value) → FS → List Priv → Prop)
    (hk : ∀ y L b σ PV, Tail y L σ PV → J n w0 σ0 (k y) G2 L b σ PV)
    (h : (∀ y L b σ PV, Tail y L σ PV → J n w0 σ0 (k y) G2 L b σ PV) → J n w0 σ0 (x.bind k) G L b σ PV) : J n w0 σ0 (x.bind k) G L b σ PV := h hk

/-- a test within a region, whose ways meet again: all is computed -/
theorem J_forkL {e : Bool} {l : List Oper} (m : Nat) (M : List (Nat × Value))
    (h1 : e = true → (∀ b', J n w0 σ0 p (GL P ops Q (l.drop m)) M b' σ PV) → J n w0 σ0 p (GL P ops Q l) L b σ PV)
    (h0 : e = false → (∀ b', J n w0 σ0 p (GL P ops Q (l.drop m)) M b' σ PV) → J n w0 σ0 p (GL P ops Q l) L b σ PV)
    (hk : ∀ b', J n w0 σ0 p (GL P ops Q (l.drop m)) M b' σ PV) : J n w0 σ0 p (GL P ops Q l) L b σ PV := by
  cases e with
  | true => exact h1 rfl hk
  | false => exact h0 rfl hk
theorem J_forkLB {γ : Type} {e : Bool} {x1 x0 : Option γ} {k : γ → Option ρ} {l : List Oper} (m : Nat) (Tail : γ → List (Nat × Value) → FS → List Priv → Prop)
    (h1 : e = true → (∀ y L b σ PV, Tail y L σ PV → J n w0 σ0 (k y) (GL P ops Q (l.drop m)) L b σ PV) → J n w0 σ0 (x1.bind k) (GL P ops Q l) L b σ PV)
    (h0 : e = false → (∀ y L b σ PV, Tail y L σ PV → J n w0 σ0 (k y) (GL P ops Q (l.drop m)) L b σ PV) → J n w0 σ0 (x0.bind k) (GL P ops Q l) L b σ PV)
    (hk : ∀ y L b σ PV, Tail y L σ PV → J n w0 σ0 (k y) (GL P ops Q (l.drop m)) L b σ PV) : J n w0 σ0 ((if e then x1 else x0).bind k) (GL P ops Q l) L b σ PV := by
  cases e with
  | true => simpa using h1 rfl hk
  | false => simpa using h0 rfl hk
theorem J_forkA {e : Bool} {tr : Nat} {σr : FS} {PVr : List Priv} {fuel : Nat} {listed : Array Bool} (fuel2 : Nat) (listed2 : Array Bool) (M : List (Nat × Value))
    (h1 : e = true → (∀ b', J n w0 σ0 p (GA P ops tr σr PVr Q fuel2 listed2) M b' σ PV) → J n w0 σ0 p (GA P ops tr σr PVr Q fuel listed) L b σ PV)
    (h0 : e = false → (∀ b', J n w0 σ0 p (GA P ops tr σr PVr Q fuel2 listed2) M b' σ PV) → J n w0 σ0 p (GA P ops tr σr PVr Q fuel listed) L b σ PV)
    (hk : ∀ b', J n w0 σ0 p (GA P ops tr σr PVr Q fuel2 listed2) M b' σ PV) : J n w0 σ0 p (GA P ops tr σr PVr Q fuel listed) L b σ PV := by
  cases e with
  | true => exact h1 rfl hk
  | false => exact h0 rfl hk
theorem J_forkAB {γ : Type} {e : Bool} {x1 x0 : Option γ} {k : γ → Option ρ} {tr : Nat} {σr : FS} {PVr : List Priv} {fuel : Nat} {listed : Array Bool} (fuel2 : Nat) (listed2 : Array Bool) (Tail : γ → List (Nat × Value) → FS → List Priv → Prop)
    (h1 : e = true → (∀ y L b σ PV, Tail y L σ PV → J n w0 σ0 (k y) (GA P ops tr σr PVr Q fuel2 listed2) L b σ PV) → J n w0 σ0 (x1.bind k) (GA P ops tr σr PVr Q fuel listed) L b σ PV)
    (h0 : e = false → (∀ y L b σ PV, Tail y L σ PV → J n w0 σ0 (k y) (GA P ops tr σr PVr Q fuel2 listed2) L b σ PV) → J n w0 σ0 (x0.bind k) (GA P ops tr σr PVr Q fuel listed) L b σ PV)
    (hk : ∀ y L b σ PV, Tail y L σ PV → J n w0 σ0 (k y) (GA P ops tr σr PVr Q fuel2 listed2) L b σ PV) : J n w0 σ0 ((if e then x1 else x0).bind k) (GA P ops tr σr PVr Q fuel listed) L b σ PV := by
  cases e with
  | true => simpa using h1 rfl hk
  | false => simpa using h0 rfl hk
theorem J_meetD {γ : Type} {tr : Nat} {σr : FS} {PVr : List Priv} {fuel : Nat} {listed : Array Bool} (k : γ → Option ρ) (fuel2 : Nat) (listed2 : Array Bool) (Tail : γ → List (Nat × Value) → FS → List Priv → Prop)
    (h : (∀ y L b σ PV, Tail y L σ PV → J n w0 σ0 (k y) (GA P ops tr σr PVr Q fuel2 listed2) L b σ PV) → J n w0 σ0 p (GA P ops tr σr PVr Q fuel listed) L b σ PV)
    (hk : ∀ y L b σ PV, Tail y L σ PV → J n w0 σ0 (k y) (GA P ops tr σr PVr Q fuel2 listed2) L b σ PV) : J n w0 σ0 p (GA P ops tr σr PVr Q fuel listed) L b σ PV := h hk
/-- orders that differ within a region meet again -/
theorem J_meetA {tr : Nat} {σr : FS} {PVr : List Priv} {fuel : Nat} {listed : Array Bool} (fuel2 : Nat) (listed2 : Array Bool) {γ : Type} {x : Option γ} {k : γ → Option ρ} (Tail : γ → List (Nat × Value) → FS → List Priv → Prop)
    (h : (∀ y L b σ PV, Tail y L σ PV → J n w0 σ0 (k y) (GA P ops tr σr PVr Q fuel2 listed2) L b σ PV) → J n w0 σ0 (x.bind k) (GA P ops tr σr PVr Q fuel listed) L b σ PV)
    (hk : ∀ y L b σ PV, Tail y L σ PV → J n w0 σ0 (k y) (GA P ops tr σr PVr Q fuel2 listed2) L b σ PV) : J n w0 σ0 (x.bind k) (GA P ops tr σr PVr Q fuel listed) L b σ PV := h hk

/-! functions -/
inductive W2 (α β : Type) where
  | a (x : α)
  | b (x : β)
inductive W3 (α β γ : Type) where
  | a (x : α)
  | b (x : β)
  | c (x : γ)
inductive W4 (α β γ δ : Type) where
  | a (x : α)
  | b (x : β)
  | c (x : γ)
  | d (x : δ)
/-- what is there where a call begins: what is held fast, and what is lent -/
structure Pre (s : Start) (σ : FS) (PV : List Priv) : Prop where
  sub : σ.sub s.w
  sep : Sep σ PV s.h
  own : s.h.sub s.w
  apart : ∀ b o, (s.h b (o + 1)).isSome → σ b o = none
theorem Pre.inv {s : Start} {σ : FS} {PV : List Priv} (h : Pre s σ PV) : Inv s σ σ PV s.w := .start h.sub h.sep h.own h.apart
theorem Pre.empty {w : World} {σ : FS} (h : σ.sub w) : Pre ⟨w, Frag.none⟩ σ [] := ⟨h, Sep.nil, fun _ _ _ (e : (none : Option Bit) = some _) => (by cases e), fun _ _ (e : (none : Option Bit).isSome = true) => by simp at e⟩
/-- what a call does: the post speaks of what is held fast then, of what the caller owns now, and of the value -/
def Does (P : Program) (f : FuncId) (args : List Value) (s : Start) (σ : FS) (post : FS → List Priv → Value → Prop) : Prop :=
  Calls P f args.toArray s.w fun e w' => ∃ v σ' PV', e = .returned v ∧ Inv s σ σ' PV' w' ∧ post σ' PV' v
def retPost (P : Program) (fn : Func) (w0 : Start) (σ0 : FS) (post : ρ → FS → List Priv → Value → Prop) (r : ρ) : Exit → Act → World → Prop :=
  bodyPost P fn fun e w' => ∃ v σ' PV', e = .returned v ∧ Inv w0 σ0 σ' PV' w' ∧ post r σ' PV' v
instance {P : Program} {fn : Func} {w0 : Start} {σ0 : FS} {post : ρ → FS → List Priv → Value → Prop} {r : ρ} : PStab (retPost P fn w0 σ0 post r) := by unfold retPost; infer_instance
def startL : Nat → List Value → List (Nat × Value)
  | _, [] => []
  | i, v :: r => (i, v) :: startL (i + 1) r
theorem look_startL : ∀ (args : List Value) (k i : Nat), look (startL k args) (fun _ => undef) i = if i < k then undef else (args[i - k]?).getD undef
  | [], k, i => by simp [startL, look]
  | v :: r, k, i => by
    simp only [startL, look]
    rw [look_startL r (k + 1) i]
    cases e : Nat.beq i k with
    | true => have := Nat.eq_of_beq_eq_true e; subst this; simp
    | false =>
      have hne : i ≠ k := fun h => by subst h; simp at e
      simp only [cond_false]
      by_cases h : i < k
      · rw [if_pos (by omega), if_pos h]
      · rw [if_neg (by omega), if_neg h, show i - k = (i - (k + 1)) + 1 by omega]
        simp
theorem fits_start {args : List Value} {k : Nat} (h : args.length ≤ k) :
    Fits k (startL 0 args) (fun _ => undef) { tmps := args.toArray ++ Array.replicate (k - args.toArray.size) undef, defers := [] } := by
  refine ⟨rfl, by simp; omega, fun i => ?_⟩
  rw [look_startL]
  simp only [Nat.not_lt_zero, if_false, Nat.sub_zero, Array.getD_eq_getD_getElem?]
  by_cases hi : i < args.length
  · rw [Array.getElem?_append_left (by simpa using hi)]; simp
  · rw [Array.getElem?_append_right (by simpa using hi)]
    simp only [List.size_toArray]
    rw [List.getElem?_eq_none (by omega)]
    simp only [Option.getD_none]
    cases e : (Array.replicate (k - args.length) undef)[i - args.length]? with
    | none => rfl
    | some v =>
      have := Array.getElem?_eq_some_iff.1 e
      obtain ⟨h1, h2⟩ := this
      simp at h2; simp [h2]
theorem does_of_J {f : FuncId} {fn : Func} {c : Code} {args : List Value} {s : Start} {r : ρ} {post : ρ → FS → List Priv → Value → Prop}
    (hf : P.funcs[f]? = some fn) (hb : fn.body = some c) (hnt : fn.ntmps = n) (hl : Nat.ble args.length n = true) (hs : Pre s σ PV) (hr : p = some r)
    (h : J n s σ p (fun r a w' => c.wp P (retPost P fn s σ post r) a w') (startL 0 args) (fun _ => undef) σ PV) : Does P f args s σ (post r) :=
  calls_of_wp hf hb (by rw [hnt]; exact h r hr _ _ hs.inv (fits_start (by simpa using hl)))
theorem J_return1 {fn : Func} {post : ρ → FS → List Priv → Value → Prop} {r : ρ} {t : Nat} (hres : fn.results = #[.tmp t]) (h : post r σ PV (look L b t)) :
    J n w0 σ0 (some r) (fun r a w => retPost P fn w0 σ0 post r .ret a w) L b σ PV := by
  intro r' hp a w hi hf
  cases hp
  exact bodyPost_ret (results_tmp hres _ _ _) hf.defers ⟨_, σ, PV, rfl, hi, by rw [hf.get]; exact h⟩
theorem J_return2 {fn : Func} {post : ρ → FS → List Priv → Value → Prop} {r : ρ} {t u : Nat} (hres : fn.results = #[.tmp t, .tmp u])
    (h : post r σ PV (.tuple #[look L b t, look L b u])) :
    J n w0 σ0 (some r) (fun r a w => retPost P fn w0 σ0 post r .ret a w) L b σ PV := by
  intro r' hp a w hi hf
  cases hp
  exact bodyPost_ret (results_tmp2 hres _ _ _) hf.defers ⟨_, σ, PV, rfl, hi, by rw [hf.get, hf.get]; exact h⟩
theorem results_tmp3 {fn : Func} {t u s : Tmp} (h : fn.results = #[.tmp t, .tmp u, .tmp s]) (tmps : Array Value) (P : Program) (w : World) :
    (results fn tmps).run P w = .ok (.tuple #[tmps.getD t undef, tmps.getD u undef, tmps.getD s undef]) w := by
  simp [results, h]
theorem J_return3 {fn : Func} {post : ρ → FS → List Priv → Value → Prop} {r : ρ} {t u s : Nat} (hres : fn.results = #[.tmp t, .tmp u, .tmp s])
    (h : post r σ PV (.tuple #[look L b t, look L b u, look L b s])) :
    J n w0 σ0 (some r) (fun r a w => retPost P fn w0 σ0 post r .ret a w) L b σ PV := by
  intro r' hp a w hi hf
  cases hp
  exact bodyPost_ret (results_tmp3 hres _ _ _) hf.defers ⟨_, σ, PV, rfl, hi, by rw [hf.get, hf.get, hf.get]; exact h⟩


/-! calls -/
theorem Inv.call {w w' : World} {A' C : List Priv} {σ' : FS} {h1 h2 : Frag} (hi : Inv w0 σ0 σ PV w) {h : Frag} (hg : Good w0 σ w h) (s2 : Sep σ C h2) (l1 : h1.le h) (l2 : h2.le h) (d : h1.disj h2)
    (k : Inv ⟨w, h1⟩ σ σ' A' w') : Inv w0 σ0 σ' (A' ++ C) w' := by
  obtain ⟨g1, q1, q2⟩ := k.own
  have e1 := hg.mono l1
  have e2 := hg.mono l2
  have hlt : ∀ b i, (h2 b i).isSome → b < w.heap.size := fun b i e => by
    obtain ⟨x, hx⟩ := Option.isSome_iff_exists.1 e; exact Bit.at_lt (e2.sub b i x hx)
  have hd : g1.disj h2 := fun b i => by
    cases hx : h2 b i with
    | none => exact .inr rfl
    | some x =>
      left
      cases hy : g1 b i with
      | none => rfl
      | some y =>
        rcases q2.mine b i (by simp [hy]) with z | z
        · have h3 := hlt b i (by simp [hx]); simp only at z; omega
        · simp only at z
          rcases d b i with u | u
          · rw [u] at z; cases z
          · rw [u] at hx; cases hx
  have hmine : ∀ b i, (h1 b i).isSome → w0.w.heap.size ≤ b ∨ (w0.h b i).isSome := e1.mine
  refine ⟨k.sub, hi.le.trans k.le, fun b o v hv => ?_, ⟨g1.or h2, q1.append (s2.mono k.le (.refl _)) (Frag.le_or _ _) (Frag.le_or_right hd) hd, Frag.or_sub q2.sub (k.ext.frag d e2.sub), fun b o e => ?_, fun b i e => ?_⟩, hi.ext.trans k.ext fun b i hb e => ?_⟩
  · rcases k.fresh b o v hv with z | z | z
    · exact hi.fresh b o v z
    · exact .inr (.inl (Nat.le_trans hi.ext.size z))
    · exact .inr (hmine b (o + 1) z)
  · unfold Frag.or at e
    cases hx : g1 b (o + 1) with
    | some y => exact q2.apart b o (by simp [hx])
    | none =>
      rw [hx] at e
      have e' : (h2 b (o + 1)).isSome := by simpa using e
      cases hv : σ' b o with
      | none => rfl
      | some v =>
        rcases k.fresh b o v hv with z | z | z
        · rw [e2.apart b o e'] at z; cases z
        · have := hlt b _ e'; simp only at z; omega
        · simp only at z
          rcases d b (o + 1) with u | u
          · rw [u] at z; cases z
          · rw [u] at e'; cases e'
  · unfold Frag.or at e
    cases hx : g1 b i with
    | some y =>
      rcases q2.mine b i (by simp [hx]) with z | z
      · exact .inl (Nat.le_trans hi.ext.size z)
      · exact hmine b i z
    | none => rw [hx] at e; exact e2.mine b i (by simpa using e)
  · rcases hmine b i e with z | z
    · omega
    · exact z
theorem op_call {α : Type} {x : Option α} {k : α → Option ρ} {H : Option ρ → List (Nat × Value) → FS → List Priv → Prop} {d : Nat} {f : FuncId} {fn : Func} {cl : Call} {ty : TypeId} {ps : String} {af : Array Edge} {g : Option (Nat × Bool)}
    {args : List Value} {post : α → FS → List Priv → Value → Prop} {c : Operand} {ca : Array Value} (A C : List Priv)
    (hn : Nat.blt d n = true) (hc : cl.callee = .value c) (hfv : opv L b c = .func (.func f) #[] ca) (hf : P.funcs[f]? = some fn) (hnm : (fn.name == "runtime.NumGoroutine") = false) (hb : fn.body.isNone = false)
    (ha : cl.args.toList.map (opv L b) ++ ca.toList = args)
    (hcall : ∀ y s, x = some y → Pre s σ A → Does P f args s σ (post y))
    (h : ∀ y v σ' A', x = some y → σ.le σ' → post y σ' A' v → H (k y) ((d, v) :: L) σ' (A' ++ C)) :
    OpOK P n w0 σ0 ⟨some d, .call cl, ty, ps, af, g⟩ (x.bind k) L b σ (A ++ C) H := by
  intro r hp a w hi hft K Q hK
  cases hx : x with
  | none => rw [hx] at hp; cases hp
  | some y =>
    rw [hx] at hp
    obtain ⟨gg, hsep, hg⟩ := hi.own
    obtain ⟨h1, h2, s1, s2, l1, l2, dd⟩ := hsep.split
    have hdoes := hcall y ⟨w, h1⟩ hx ⟨hi.sub, s1, hg.sub.mono l1, (hg.mono l1).apart⟩
    have hrun : (execOp a.eval ⟨some d, .call cl, ty, ps, af, g⟩).run P w = .ok (.enter f args.toArray) w := by
      have ha' : cl.args.map (opv L b) ++ ca = args.toArray := by subst ha; apply Array.toList_inj.1; simp
      rw [hft.eval, ← ha']
      simp only [execOp, resolve, hc, hfv, Deferred.ofValue, Sem.run_bind, Sem.run_pure, Result.andThen_ok, invoke]
      unfold callFunc
      simp only [Sem.run_bind, run_program, Result.andThen_ok, hf, hnm, hb, Bool.false_eq_true, if_false, Sem.run_pure, Array.empty_append]
    unfold Oper.wp
    rw [hrun, Oper.upon_enter]
    refine Calls.mono hdoes ?_
    rintro e w' ⟨v, σ', A', rfl, hi', hpost⟩
    exact hK (k y) _ σ' _ _ w' hp (hi.call hg s2 l1 l2 dd hi') (hft.put (by simpa [Nat.blt_eq] using hn) v) (h y v σ' A' hx hi'.le hpost)
end
end Go.Px
