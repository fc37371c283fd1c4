/- Regions, functions, calls. -/
import Derived.Test.YtdpnogldgiomnaaB2
namespace Go.Px
set_option linter.unusedVariables false

class PStab (Q : Exit → Act → World → Prop) : Prop where
  st : ∀ c (a : Act) d v w, Q (.panic c) (a.put d v) w → Q (.panic c) a w
instance {K : Act → World → Prop} {Q : Exit → Act → World → Prop} [h : PStab Q] : PStab (Exit.then K Q) := ⟨fun c a d v w q => h.st c a d v w q⟩
instance {i : Nat} {Q : Exit → Act → World → Prop} [h : PStab Q] : PStab (Exit.inBlock i Q) := ⟨fun c a d v w q => h.st c a d v w q⟩
instance {P : Program} {fn : Func} {R : Ending → World → Prop} : PStab (bodyPost P fn R) := ⟨fun c a d v w q => ⟨by have := q.1; cases d <;> exact this, q.2⟩⟩
instance {n w0 σ0 γ Tail} {y : γ} : PStab (cutQ n w0 σ0 Tail y) := ⟨fun c a d v w q => q⟩
instance {n w0 σ0 s β Head Tail} {st : Step s β} : PStab (loopQ n w0 σ0 Head Tail st) := ⟨fun c a d v w q => by cases st <;> exact q⟩

section
variable {ρ : Type} {n : Nat} {w0 : World} {σ0 σ : FS} {p : Option ρ} {L : List (Nat × Value)} {b : Nat → Value} {PV PV' : List Priv}
variable {P : Program} {Q : ρ → Exit → Act → World → Prop} {ops : Array Oper} {o : Oper} {rest : List Oper}

/-! one operation -/
/-- what an operation does: 'dst' is its temporary; H is what must be shown of the rest -/
def OpOK (P : Program) (n : Nat) (w0 : World) (σ0 : FS) (o : Oper) (p : Option ρ) (L : List (Nat × Value)) (b : Nat → Value) (σ : FS) (PV : List Priv)
    (H : Option ρ → List (Nat × Value) → FS → List Priv → Prop) : Prop :=
  ∀ r, p = some r → ∀ a w, Inv w0 σ0 σ PV w → Fits n L b a → ∀ (K : Act → World → Prop) (Q : Exit → Act → World → Prop),
    (∀ p' L' σ' PV' a' w', p' = some r → Inv w0 σ0 σ' PV' w' → Fits n L' b a' → H p' L' σ' PV' → K a' w') → o.wp P a w K Q
/-- an operation that yields a value and does nothing else, in whatever world -/
theorem op_pure {H : Option ρ → List (Nat × Value) → FS → List Priv → Prop} {d : Nat} {v : Value} (hd : o.dst = some d) (hn : Nat.blt d n = true)
    (hr : ∀ w, (execOp (opv L b) o).run P w = .ok (.value v) w) (h : H p ((d, v) :: L) σ PV) : OpOK P n w0 σ0 o p L b σ PV H := by
  intro r hp a w hi hf K Q hK
  unfold Oper.wp
  rw [hf.eval, hr w, Oper.upon_value, hd]
  exact hK p _ σ PV _ w hp hi (hf.put (by simpa [Nat.blt_eq] using hn) v) h

/-! the region in the order of its text -/
abbrev GL (P : Program) (ops : Array Oper) (Q : ρ → Exit → Act → World → Prop) (rest : List Oper) : ρ → Act → World → Prop := fun r a w => wpList P ops (Q r) rest a w
theorem J_region {i : Nat} {l : List Oper} (h : J n w0 σ0 p (GL P l.toArray Q l) L b σ PV) :
    J n w0 σ0 p (fun r a w => (Code.region i l.toArray false).wp P (Q r) a w) L b σ PV := fun r hp a w hi hf => wp_region_lit (h r hp a w hi hf)
theorem JL_nil (h : J n w0 σ0 p (fun r a w => Q r .normal a w) L b σ PV) : J n w0 σ0 p (GL P ops Q []) L b σ PV :=
  fun r hp a w hi hf => wpList_nil (h r hp a w hi hf)
theorem JL_op (hg : o.guard = none) (h : OpOK P n w0 σ0 o p L b σ PV (fun p' L' σ' PV' => J n w0 σ0 p' (GL P ops Q rest) L' b σ' PV')) :
    J n w0 σ0 p (GL P ops Q (o :: rest)) L b σ PV := by
  intro r hp a w hi hf
  refine wpList_plain hg fun K hK => h r hp a w hi hf K (Q r) ?_
  intro p' L' σ' PV' a' w' hp' hi' hf' hH
  exact hK _ _ (hH r hp' a' w' hi' hf')
/-- a guarded operation that is carried out -/
theorem JL_opg {j : Nat} {want e : Bool} (hg : o.guard = some (j, want)) (hy : yieldedL ops L b j = some e) (he : e = want)
    (h : OpOK P n w0 σ0 o p L b σ PV (fun p' L' σ' PV' => J n w0 σ0 p' (GL P ops Q rest) L' b σ' PV')) :
    J n w0 σ0 p (GL P ops Q (o :: rest)) L b σ PV := by
  intro r hp a w hi hf
  refine wpList_step fun K hK => ?_
  rw [if_pos (by simp [Region.wanted, hg, hf.yielded, hy, he])]
  refine h r hp a w hi hf K (Q r) ?_
  intro p' L' σ' PV' a' w' hp' hi' hf' hH
  exact hK _ _ (hH r hp' a' w' hi' hf')
theorem JL_skip {j d : Nat} {want e : Bool} (hg : o.guard = some (j, want)) (hy : yieldedL ops L b j = some e) (he : e = !want) (hd : o.dst = some d) (hn : Nat.blt d n = true)
    (h : J n w0 σ0 p (GL P ops Q rest) ((d, undef) :: L) b σ PV) : J n w0 σ0 p (GL P ops Q (o :: rest)) L b σ PV := by
  intro r hp a w hi hf
  refine wpList_step fun K hK => ?_
  rw [if_neg (by simp [Region.wanted, hg, hf.yielded, hy, he]), hd]
  exact hK _ _ (h r hp _ w hi (hf.put (by simpa [Nat.blt_eq] using hn) _))
theorem JL_skipn {j d : Nat} {want : Bool} (hg : o.guard = some (j, want)) (hy : yieldedL ops L b j = none) (hd : o.dst = some d) (hn : Nat.blt d n = true)
    (h : J n w0 σ0 p (GL P ops Q rest) ((d, undef) :: L) b σ PV) : J n w0 σ0 p (GL P ops Q (o :: rest)) L b σ PV := by
  intro r hp a w hi hf
  refine wpList_step fun K hK => ?_
  rw [if_neg (by simp [Region.wanted, hg, hf.yielded, hy]), hd]
  exact hK _ _ (h r hp _ w hi (hf.put (by simpa [Nat.blt_eq] using hn) _))
/-- a guarded operation without a temporary (a store) that isn't carried out -/
theorem JL_skip0 {j : Nat} {want e : Bool} (hg : o.guard = some (j, want)) (hy : yieldedL ops L b j = some e) (he : e = !want) (hd : o.dst = none)
    (h : J n w0 σ0 p (GL P ops Q rest) L b σ PV) : J n w0 σ0 p (GL P ops Q (o :: rest)) L b σ PV := by
  intro r hp a w hi hf
  refine wpList_step fun K hK => ?_
  rw [if_neg (by simp [Region.wanted, hg, hf.yielded, hy, he]), hd]
  exact hK _ _ (h r hp _ w hi hf)

/-! the region in whatever order -/
def Held (B : Nat) (σr : FS) (PVr : List Priv) (w : World) : Prop := σr.sub w ∧ ∀ p ∈ PVr, p.holds B σr w
structure HeldOK (σr : FS) (PVr : List Priv) (σ : FS) (PV : List Priv) : Prop where
  le : σr.le σ
  sub : ∀ p ∈ PVr, p ∈ PV
  all : ∀ p ∈ PVr, ∀ B w, p.holds B σ w → p.holds B σr w
theorem FS.le.sub {σ τ : FS} {w : World} (h : σ.le τ) (k : τ.sub w) : σ.sub w := fun x o e => k x o (h x o e)
theorem HeldOK.held {σr : FS} {PVr : List Priv} (h : HeldOK σr PVr σ PV) {w : World} (hi : Inv w0 σ0 σ PV w) : Held w0.heap.size σr PVr w :=
  ⟨h.le.sub hi.sub, fun p hp => h.all p hp _ _ (hi.pv p (h.sub p hp))⟩
abbrev GA (P : Program) (ops : Array Oper) (B : Nat) (σr : FS) (PVr : List Priv) (Q : ρ → Exit → Act → World → Prop) (fuel : Nat) (listed : Array Bool) : ρ → Act → World → Prop :=
  fun r a w => wpAnyH P .any ops (Q r) (Held B σr PVr) fuel listed a w
theorem J_region_any {i : Nat} (PVr : List Priv) (hm : P.follows .mixedOrders = true) (hs : Region.noSelect ops = true)
    (h : Region.noSelect ops = true → J n w0 σ0 p (GA P ops w0.heap.size σ PVr Q ops.size (Array.replicate ops.size false)) L b σ PV) :
    J n w0 σ0 p (fun r a w => (Code.region i ops true).wp P (Q r) a w) L b σ PV :=
  fun r hp a w hi hf => wp_region_held hm (h hs r hp a _ hi.drew hf)
theorem JA_done {σr : FS} {PVr : List Priv} {fuel : Nat} {listed : Array Bool} (hr : Region.ready .any ops listed = [])
    (h : J n w0 σ0 p (fun r a w => Q r .normal a w) L b σ PV) : J n w0 σ0 p (GA P ops w0.heap.size σr PVr Q fuel listed) L b σ PV :=
  fun r hp a w hi hf => wpAnyH_done hr (h r hp a w hi hf) fuel
/-- an operation that only reads is taken first -/
theorem JA_take [hq : ∀ r, PStab (Q r)] {σr : FS} {PVr : List Priv} {fuel : Nat} {listed : Array Bool} (i : Nat) {d : Nat} {v : Value}
    (ho : ops[i]? = some o) (hs : Region.noSelect ops = true)
    (hfr : Region.free .any ops listed i = true) (hr : (Region.ready .any ops listed).contains i = true)
    (hS : HeldOK σr PVr σ PV) (hg : o.guard = none) (hd : o.dst = some d) (hn : Nat.blt d n = true)
    (hv : ∀ w, Held w0.heap.size σr PVr w → (execOp (opv L b) o).run P w = .ok (.value v) w)
    (h : J n w0 σ0 p (GA P ops w0.heap.size σr PVr Q fuel (listed.setIfInBounds i true)) ((d, v) :: L) b σ PV) :
    J n w0 σ0 p (GA P ops w0.heap.size σr PVr Q (fuel + 1) listed) L b σ PV := by
  intro r hp a w hi hf
  refine wpAnyH_take ho hs hfr hr (fun c a w => (hq r).st c a o.dst v w) (.inl ⟨by simp [Region.wanted, hg], fun w hw => by rw [hf.eval]; exact hv w hw⟩) (hS.held hi) ?_
  rw [hd]
  exact h r hp _ w hi (hf.put (by simpa [Nat.blt_eq] using hn) v)
theorem JA_takeg [hq : ∀ r, PStab (Q r)] {σr : FS} {PVr : List Priv} {fuel : Nat} {listed : Array Bool} (i : Nat) {d j : Nat} {v : Value} {want e : Bool}
    (ho : ops[i]? = some o) (hs : Region.noSelect ops = true)
    (hfr : Region.free .any ops listed i = true) (hr : (Region.ready .any ops listed).contains i = true)
    (hS : HeldOK σr PVr σ PV) (hg : o.guard = some (j, want)) (hy : yieldedL ops L b j = some e) (he : e = want) (hd : o.dst = some d) (hn : Nat.blt d n = true)
    (hv : ∀ w, Held w0.heap.size σr PVr w → (execOp (opv L b) o).run P w = .ok (.value v) w)
    (h : J n w0 σ0 p (GA P ops w0.heap.size σr PVr Q fuel (listed.setIfInBounds i true)) ((d, v) :: L) b σ PV) :
    J n w0 σ0 p (GA P ops w0.heap.size σr PVr Q (fuel + 1) listed) L b σ PV := by
  intro r hp a w hi hf
  refine wpAnyH_take ho hs hfr hr (fun c a w => (hq r).st c a o.dst v w) (.inl ⟨by simp [Region.wanted, hg, hf.yielded, hy, he], fun w hw => by rw [hf.eval]; exact hv w hw⟩) (hS.held hi) ?_
  rw [hd]
  exact h r hp _ w hi (hf.put (by simpa [Nat.blt_eq] using hn) v)
theorem JA_skip [hq : ∀ r, PStab (Q r)] {σr : FS} {PVr : List Priv} {fuel : Nat} {listed : Array Bool} (i : Nat) {d j : Nat} {want : Bool} {y : Option Bool}
    (ho : ops[i]? = some o) (hs : Region.noSelect ops = true)
    (hfr : Region.free .any ops listed i = true) (hr : (Region.ready .any ops listed).contains i = true)
    (hS : HeldOK σr PVr σ PV) (hg : o.guard = some (j, want)) (hy : yieldedL ops L b j = y) (he : y ≠ some want) (hd : o.dst = some d) (hn : Nat.blt d n = true)
    (h : J n w0 σ0 p (GA P ops w0.heap.size σr PVr Q fuel (listed.setIfInBounds i true)) ((d, undef) :: L) b σ PV) :
    J n w0 σ0 p (GA P ops w0.heap.size σr PVr Q (fuel + 1) listed) L b σ PV := by
  intro r hp a w hi hf
  refine wpAnyH_take (v := undef) ho hs hfr hr (fun c a w => (hq r).st c a o.dst undef w) (.inr ⟨by simp only [Region.wanted, hg, hf.yielded, hy]; simpa using he, rfl⟩) (hS.held hi) ?_
  rw [hd]
  exact h r hp _ w hi (hf.put (by simpa [Nat.blt_eq] using hn) _)
/-- the one operation that may come up -/
theorem JA_op {σr : FS} {PVr : List Priv} {fuel : Nat} {listed : Array Bool} {i : Nat}
    (hr : Region.ready .any ops listed = [i]) (ho : ops[i]? = some o) (hg : o.guard = none)
    (h : OpOK P n w0 σ0 o p L b σ PV (fun p' L' σ' PV' => HeldOK σr PVr σ' PV' ∧ J n w0 σ0 p' (GA P ops w0.heap.size σr PVr Q fuel (listed.setIfInBounds i true)) L' b σ' PV')) :
    J n w0 σ0 p (GA P ops w0.heap.size σr PVr Q (fuel + 1) listed) L b σ PV := by
  intro r hp a w hi hf
  refine wpAnyH_all hr (by simp) ?_
  intro k hk
  obtain rfl : k = i := by simpa using hk
  unfold wpOp
  simp only [ho]
  rw [if_pos (by simp [Region.wanted, hg])]
  refine .inl (h r hp a w hi hf _ (Q r) ?_)
  intro p' L' σ' PV' a' w' hp' hi' hf' ⟨hS, hH⟩
  exact ⟨hS.held hi', hH r hp' a' w' hi' hf'⟩
theorem JA_opg {σr : FS} {PVr : List Priv} {fuel : Nat} {listed : Array Bool} {i j : Nat} {want e : Bool}
    (hr : Region.ready .any ops listed = [i]) (ho : ops[i]? = some o) (hg : o.guard = some (j, want)) (hy : yieldedL ops L b j = some e) (he : e = want)
    (h : OpOK P n w0 σ0 o p L b σ PV (fun p' L' σ' PV' => HeldOK σr PVr σ' PV' ∧ J n w0 σ0 p' (GA P ops w0.heap.size σr PVr Q fuel (listed.setIfInBounds i true)) L' b σ' PV')) :
    J n w0 σ0 p (GA P ops w0.heap.size σr PVr Q (fuel + 1) listed) L b σ PV := by
  intro r hp a w hi hf
  refine wpAnyH_all hr (by simp) ?_
  intro k hk
  obtain rfl : k = i := by simpa using hk
  unfold wpOp
  simp only [ho]
  rw [if_pos (by simp [Region.wanted, hg, hf.yielded, hy, he])]
  refine .inl (h r hp a w hi hf _ (Q r) ?_)
  intro p' L' σ' PV' a' w' hp' hi' hf' ⟨hS, hH⟩
  exact ⟨hS.held hi', hH r hp' a' w' hi' hf'⟩
/-- several that may come up: each is shown by itself, as the only one -/
def J1 (P : Program) (ops : Array Oper) (n : Nat) (w0 : World) (σ0 : FS) (σr : FS) (PVr : List Priv) (Q : ρ → Exit → Act → World → Prop) (fuel : Nat) (listed : Array Bool)
    (i : Nat) (p : Option ρ) (L : List (Nat × Value)) (b : Nat → Value) (σ : FS) (PV : List Priv) : Prop :=
  J n w0 σ0 p (fun r a w => wpOp P ops (Q r) i (fun a' w' => Held w0.heap.size σr PVr w' ∧ wpAnyH P .any ops (Q r) (Held w0.heap.size σr PVr) fuel (listed.setIfInBounds i true) a' w') a w) L b σ PV
theorem JA_all {σr : FS} {PVr : List Priv} {fuel : Nat} {listed : Array Bool} {rs : List Nat}
    (hr : Region.ready .any ops listed = rs) (hne : rs ≠ []) (h : ∀ i ∈ rs, J1 P ops n w0 σ0 σr PVr Q fuel listed i p L b σ PV) :
    J n w0 σ0 p (GA P ops w0.heap.size σr PVr Q (fuel + 1) listed) L b σ PV :=
  fun r hp a w hi hf => wpAnyH_all hr hne fun i hm => h i hm r hp a w hi hf
theorem JA_two {σr : FS} {PVr : List Priv} {fuel : Nat} {listed : Array Bool} {i j : Nat}
    (hr : Region.ready .any ops listed = [i, j]) (h1 : J1 P ops n w0 σ0 σr PVr Q fuel listed i p L b σ PV) (h2 : J1 P ops n w0 σ0 σr PVr Q fuel listed j p L b σ PV) :
    J n w0 σ0 p (GA P ops w0.heap.size σr PVr Q (fuel + 1) listed) L b σ PV :=
  JA_all hr (by simp) (by simp [h1, h2])
theorem JA_three {σr : FS} {PVr : List Priv} {fuel : Nat} {listed : Array Bool} {i j k : Nat}
    (hr : Region.ready .any ops listed = [i, j, k]) (h1 : J1 P ops n w0 σ0 σr PVr Q fuel listed i p L b σ PV) (h2 : J1 P ops n w0 σ0 σr PVr Q fuel listed j p L b σ PV)
    (h3 : J1 P ops n w0 σ0 σr PVr Q fuel listed k p L b σ PV) :
    J n w0 σ0 p (GA P ops w0.heap.size σr PVr Q (fuel + 1) listed) L b σ PV :=
  JA_all hr (by simp) (by simp [h1, h2, h3])
theorem J1_op {σr : FS} {PVr : List Priv} {fuel : Nat} {listed : Array Bool} {i : Nat} (ho : ops[i]? = some o) (hg : o.guard = none)
    (h : OpOK P n w0 σ0 o p L b σ PV (fun p' L' σ' PV' => HeldOK σr PVr σ' PV' ∧ J n w0 σ0 p' (GA P ops w0.heap.size σr PVr Q fuel (listed.setIfInBounds i true)) L' b σ' PV')) :
    J1 P ops n w0 σ0 σr PVr Q fuel listed i p L b σ PV := by
  intro r hp a w hi hf
  unfold wpOp
  simp only [ho]
  rw [if_pos (by simp [Region.wanted, hg])]
  refine .inl (h r hp a w hi hf _ (Q r) ?_)
  intro p' L' σ' PV' a' w' hp' hi' hf' ⟨hS, hH⟩
  exact ⟨hS.held hi', hH r hp' a' w' hi' hf'⟩
theorem J1_opg {σr : FS} {PVr : List Priv} {fuel : Nat} {listed : Array Bool} {i j : Nat} {want e : Bool} (ho : ops[i]? = some o) (hg : o.guard = some (j, want))
    (hy : yieldedL ops L b j = some e) (he : e = want)
    (h : OpOK P n w0 σ0 o p L b σ PV (fun p' L' σ' PV' => HeldOK σr PVr σ' PV' ∧ J n w0 σ0 p' (GA P ops w0.heap.size σr PVr Q fuel (listed.setIfInBounds i true)) L' b σ' PV')) :
    J1 P ops n w0 σ0 σr PVr Q fuel listed i p L b σ PV := by
  intro r hp a w hi hf
  unfold wpOp
  simp only [ho]
  rw [if_pos (by simp [Region.wanted, hg, hf.yielded, hy, he])]
  refine .inl (h r hp a w hi hf _ (Q r) ?_)
  intro p' L' σ' PV' a' w' hp' hi' hf' ⟨hS, hH⟩
  exact ⟨hS.held hi', hH r hp' a' w' hi' hf'⟩
/-- the rest under one name: where several ways meet within a region -/
theorem J_meet {α : Type} {G : ρ → Act → World → Prop} {G2 : ρ → Act → World → Prop} {x : Option α} {k : α → Option ρ} (Tail : α → List (Nat × Value) → FS → List Priv → Prop)
    (hk : ∀ y L b σ PV, Tail y L σ PV → J n w0 σ0 (k y) G2 L b σ PV)
    (h : (∀ y L b σ PV, Tail y L σ PV → J n w0 σ0 (k y) G2 L b σ PV) → J n w0 σ0 (x.bind k) G L b σ PV) : J n w0 σ0 (x.bind k) G L b σ PV := h hk

/-- a test within a region, whose ways meet again: all is computed -/
theorem J_forkL {e : Bool} {l : List Oper} (m : Nat) (M : List (Nat × Value))
    (h1 : e = true → (∀ b', J n w0 σ0 p (GL P ops Q (l.drop m)) M b' σ PV) → J n w0 σ0 p (GL P ops Q l) L b σ PV)
    (h0 : e = false → (∀ b', J n w0 σ0 p (GL P ops Q (l.drop m)) M b' σ PV) → J n w0 σ0 p (GL P ops Q l) L b σ PV)
    (hk : ∀ b', J n w0 σ0 p (GL P ops Q (l.drop m)) M b' σ PV) : J n w0 σ0 p (GL P ops Q l) L b σ PV := by
  cases e with
  | true => exact h1 rfl hk
  | false => exact h0 rfl hk
theorem J_forkLB {γ : Type} {e : Bool} {x1 x0 : Option γ} {k : γ → Option ρ} {l : List Oper} (m : Nat) (Tail : γ → List (Nat × Value) → FS → List Priv → Prop)
    (h1 : e = true → (∀ y L b σ PV, Tail y L σ PV → J n w0 σ0 (k y) (GL P ops Q (l.drop m)) L b σ PV) → J n w0 σ0 (x1.bind k) (GL P ops Q l) L b σ PV)
    (h0 : e = false → (∀ y L b σ PV, Tail y L σ PV → J n w0 σ0 (k y) (GL P ops Q (l.drop m)) L b σ PV) → J n w0 σ0 (x0.bind k) (GL P ops Q l) L b σ PV)
    (hk : ∀ y L b σ PV, Tail y L σ PV → J n w0 σ0 (k y) (GL P ops Q (l.drop m)) L b σ PV) : J n w0 σ0 ((if e then x1 else x0).bind k) (GL P ops Q l) L b σ PV := by
  cases e with
  | true => simpa using h1 rfl hk
  | false => simpa using h0 rfl hk
theorem J_forkA {e : Bool} {σr : FS} {PVr : List Priv} {fuel : Nat} {listed : Array Bool} (fuel2 : Nat) (listed2 : Array Bool) (M : List (Nat × Value))
    (h1 : e = true → (∀ b', J n w0 σ0 p (GA P ops w0.heap.size σr PVr Q fuel2 listed2) M b' σ PV) → J n w0 σ0 p (GA P ops w0.heap.size σr PVr Q fuel listed) L b σ PV)
    (h0 : e = false → (∀ b', J n w0 σ0 p (GA P ops w0.heap.size σr PVr Q fuel2 listed2) M b' σ PV) → J n w0 σ0 p (GA P ops w0.heap.size σr PVr Q fuel listed) L b σ PV)
    (hk : ∀ b', J n w0 σ0 p (GA P ops w0.heap.size σr PVr Q fuel2 listed2) M b' σ PV) : J n w0 σ0 p (GA P ops w0.heap.size σr PVr Q fuel listed) L b σ PV := by
  cases e with
  | true => exact h1 rfl hk
  | false => exact h0 rfl hk
theorem J_forkAB {γ : Type} {e : Bool} {x1 x0 : Option γ} {k : γ → Option ρ} {σr : FS} {PVr : List Priv} {fuel : Nat} {listed : Array Bool} (fuel2 : Nat) (listed2 : Array Bool) (Tail : γ → List (Nat × Value) → FS → List Priv → Prop)
    (h1 : e = true → (∀ y L b σ PV, Tail y L σ PV → J n w0 σ0 (k y) (GA P ops w0.heap.size σr PVr Q fuel2 listed2) L b σ PV) → J n w0 σ0 (x1.bind k) (GA P ops w0.heap.size σr PVr Q fuel listed) L b σ PV)
    (h0 : e = false → (∀ y L b σ PV, Tail y L σ PV → J n w0 σ0 (k y) (GA P ops w0.heap.size σr PVr Q fuel2 listed2) L b σ PV) → J n w0 σ0 (x0.bind k) (GA P ops w0.heap.size σr PVr Q fuel listed) L b σ PV)
    (hk : ∀ y L b σ PV, Tail y L σ PV → J n w0 σ0 (k y) (GA P ops w0.heap.size σr PVr Q fuel2 listed2) L b σ PV) : J n w0 σ0 ((if e then x1 else x0).bind k) (GA P ops w0.heap.size σr PVr Q fuel listed) L b σ PV := by
  cases e with
  | true => simpa using h1 rfl hk
  | false => simpa using h0 rfl hk
theorem J_meetD {γ : Type} {σr : FS} {PVr : List Priv} {fuel : Nat} {listed : Array Bool} (k : γ → Option ρ) (fuel2 : Nat) (listed2 : Array Bool) (Tail : γ → List (Nat × Value) → FS → List Priv → Prop)
    (h : (∀ y L b σ PV, Tail y L σ PV → J n w0 σ0 (k y) (GA P ops w0.heap.size σr PVr Q fuel2 listed2) L b σ PV) → J n w0 σ0 p (GA P ops w0.heap.size σr PVr Q fuel listed) L b σ PV)
    (hk : ∀ y L b σ PV, Tail y L σ PV → J n w0 σ0 (k y) (GA P ops w0.heap.size σr PVr Q fuel2 listed2) L b σ PV) : J n w0 σ0 p (GA P ops w0.heap.size σr PVr Q fuel listed) L b σ PV := h hk
/-- orders that differ within a region meet again -/
theorem J_meetA {σr : FS} {PVr : List Priv} {fuel : Nat} {listed : Array Bool} (fuel2 : Nat) (listed2 : Array Bool) {γ : Type} {x : Option γ} {k : γ → Option ρ} (Tail : γ → List (Nat × Value) → FS → List Priv → Prop)
    (h : (∀ y L b σ PV, Tail y L σ PV → J n w0 σ0 (k y) (GA P ops w0.heap.size σr PVr Q fuel2 listed2) L b σ PV) → J n w0 σ0 (x.bind k) (GA P ops w0.heap.size σr PVr Q fuel listed) L b σ PV)
    (hk : ∀ y L b σ PV, Tail y L σ PV → J n w0 σ0 (k y) (GA P ops w0.heap.size σr PVr Q fuel2 listed2) L b σ PV) : J n w0 σ0 (x.bind k) (GA P ops w0.heap.size σr PVr Q fuel listed) L b σ PV := h hk

/-! functions -/
inductive W2 (α β : Type) where
  | a (x : α)
  | b (x : β)
inductive W3 (α β γ : Type) where
  | a (x : α)
  | b (x : β)
  | c (x : γ)
inductive W4 (α β γ δ : Type) where
  | a (x : α)
  | b (x : β)
  | c (x : γ)
  | d (x : δ)
/-- what a call does: the post speaks of what is held fast then, of what the caller owns now, and of the value -/
def Does (P : Program) (f : FuncId) (args : List Value) (w : World) (σ : FS) (post : FS → List Priv → Value → Prop) : Prop :=
  Calls P f args.toArray w fun e w' => ∃ v σ' PV', e = .returned v ∧ Inv w σ σ' PV' w' ∧ post σ' PV' v
def retPost (P : Program) (fn : Func) (w0 : World) (σ0 : FS) (post : ρ → FS → List Priv → Value → Prop) (r : ρ) : Exit → Act → World → Prop :=
  bodyPost P fn fun e w' => ∃ v σ' PV', e = .returned v ∧ Inv w0 σ0 σ' PV' w' ∧ post r σ' PV' v
instance {P : Program} {fn : Func} {w0 : World} {σ0 : FS} {post : ρ → FS → List Priv → Value → Prop} {r : ρ} : PStab (retPost P fn w0 σ0 post r) := by unfold retPost; infer_instance
def startL : Nat → List Value → List (Nat × Value)
  | _, [] => []
  | i, v :: r => (i, v) :: startL (i + 1) r
theorem look_startL : ∀ (args : List Value) (k i : Nat), look (startL k args) (fun _ => undef) i = if i < k then undef else (args[i - k]?).getD undef
  | [], k, i => by simp [startL, look]
  | v :: r, k, i => by
    simp only [startL, look]
    rw [look_startL r (k + 1) i]
    cases e : Nat.beq i k with
    | true => have := Nat.eq_of_beq_eq_true e; subst this; simp
    | false =>
      have hne : i ≠ k := fun h => by subst h; simp at e
      simp only [cond_false]
      by_cases h : i < k
      · rw [if_pos (by omega), if_pos h]
      · rw [if_neg (by omega), if_neg h, show i - k = (i - (k + 1)) + 1 by omega]
        simp
theorem fits_start {args : List Value} {k : Nat} (h : args.length ≤ k) :
    Fits k (startL 0 args) (fun _ => undef) { tmps := args.toArray ++ Array.replicate (k - args.toArray.size) undef, defers := [] } := by
  refine ⟨rfl, by simp; omega, fun i => ?_⟩
  rw [look_startL]
  simp only [Nat.not_lt_zero, if_false, Nat.sub_zero, Array.getD_eq_getD_getElem?]
  by_cases hi : i < args.length
  · rw [Array.getElem?_append_left (by simpa using hi)]; simp
  · rw [Array.getElem?_append_right (by simpa using hi)]
    simp only [List.size_toArray]
    rw [List.getElem?_eq_none (by omega)]
    simp only [Option.getD_none]
    cases e : (Array.replicate (k - args.length) undef)[i - args.length]? with
    | none => rfl
    | some v =>
      have := Array.getElem?_eq_some_iff.1 e
      obtain ⟨h1, h2⟩ := this
      simp at h2; simp [h2]
theorem does_of_J {f : FuncId} {fn : Func} {c : Code} {args : List Value} {w : World} {r : ρ} {post : ρ → FS → List Priv → Value → Prop}
    (hf : P.funcs[f]? = some fn) (hb : fn.body = some c) (hnt : fn.ntmps = n) (hl : Nat.ble args.length n = true) (hs : σ.sub w) (hr : p = some r)
    (h : J n w σ p (fun r a w' => c.wp P (retPost P fn w σ post r) a w') (startL 0 args) (fun _ => undef) σ []) : Does P f args w σ (post r) :=
  calls_of_wp hf hb (by rw [hnt]; exact h r hr _ w (.start hs) (fits_start (by simpa using hl)))
theorem J_return1 {fn : Func} {post : ρ → FS → List Priv → Value → Prop} {r : ρ} {t : Nat} (hres : fn.results = #[.tmp t]) (h : post r σ PV (look L b t)) :
    J n w0 σ0 (some r) (fun r a w => retPost P fn w0 σ0 post r .ret a w) L b σ PV := by
  intro r' hp a w hi hf
  cases hp
  exact bodyPost_ret (results_tmp hres _ _ _) hf.defers ⟨_, σ, PV, rfl, hi, by rw [hf.get]; exact h⟩
theorem J_return2 {fn : Func} {post : ρ → FS → List Priv → Value → Prop} {r : ρ} {t u : Nat} (hres : fn.results = #[.tmp t, .tmp u])
    (h : post r σ PV (.tuple #[look L b t, look L b u])) :
    J n w0 σ0 (some r) (fun r a w => retPost P fn w0 σ0 post r .ret a w) L b σ PV := by
  intro r' hp a w hi hf
  cases hp
  exact bodyPost_ret (results_tmp2 hres _ _ _) hf.defers ⟨_, σ, PV, rfl, hi, by rw [hf.get, hf.get]; exact h⟩
theorem results_tmp3 {fn : Func} {t u s : Tmp} (h : fn.results = #[.tmp t, .tmp u, .tmp s]) (tmps : Array Value) (P : Program) (w : World) :
    (results fn tmps).run P w = .ok (.tuple #[tmps.getD t undef, tmps.getD u undef, tmps.getD s undef]) w := by
  simp [results, h]
theorem J_return3 {fn : Func} {post : ρ → FS → List Priv → Value → Prop} {r : ρ} {t u s : Nat} (hres : fn.results = #[.tmp t, .tmp u, .tmp s])
    (h : post r σ PV (.tuple #[look L b t, look L b u, look L b s])) :
    J n w0 σ0 (some r) (fun r a w => retPost P fn w0 σ0 post r .ret a w) L b σ PV := by
  intro r' hp a w hi hf
  cases hp
  exact bodyPost_ret (results_tmp3 hres _ _ _) hf.defers ⟨_, σ, PV, rfl, hi, by rw [hf.get, hf.get, hf.get]; exact h⟩

/-! calls -/
theorem ownsRow_mono {w : World} {B B' : Nat} {e : TypeId} {size : Nat} {v : Value} {n : Nat} {xs : List Value} (h : w.ownsRow B e size v n xs) (hb : B' ≤ B) : w.ownsRow B' e size v n xs := by
  refine ⟨h.1, ?_⟩
  rcases h.2 with h | ⟨g, cap, cur, e1, k1, k2⟩
  · exact .inl h
  · exact .inr ⟨g, cap, cur, e1, Nat.le_trans hb k1, k2⟩
theorem Inv.call {w w' : World} {σ' : FS} {PV' : List Priv} (h : Inv w0 σ0 σ PV w) (k : Inv w σ σ' PV' w') : Inv w0 σ0 σ' (PV' ++ PV) w' := by
  have hold : ∀ p ∈ PV, ∀ b, p.blk = some b → b < w.heap.size := fun p hp b hb => (Priv.holds_blk (h.pv p hp) hb).2
  refine ⟨k.sub, h.le.trans k.le, fun b o hb => ?_, fun p hp => ?_, fun p hp b hb => ?_, ?_, h.ext.trans k.ext⟩
  · rcases k.fresh b o hb with e | e
    · exact h.fresh b o e
    · exact .inr (Nat.le_trans h.ext.size e)
  · rcases List.mem_append.1 hp with hp | hp
    · have := k.pv p hp
      cases p with
      | cell b cs T => exact ⟨this.1, Nat.le_trans h.ext.size this.2⟩
      | row α T e v s => obtain ⟨xs, h1, h2, h3⟩ := this; exact ⟨xs, ownsRow_mono h1 h.ext.size, h2, h3⟩
    · exact Priv.holds_same (h.pv p hp) k.le fun b hb => k.ext.old b (hold p hp b hb)
  · rcases List.mem_append.1 hp with hp | hp
    · exact k.apart p hp b hb
    · cases hs : σ' b with
      | none => rfl
      | some o =>
        rcases k.fresh b o hs with e | e
        · rw [h.apart p hp b hb] at e; cases e
        · have := hold p hp b hb; omega
  · refine List.pairwise_append.2 ⟨k.nodup, h.nodup, ?_⟩
    intro p hp q hq b hb hq'
    have h1 := (Priv.holds_blk (k.pv p hp) hb).1
    have h2 := hold q hq b hq'
    omega
theorem op_call {α : Type} {x : Option α} {k : α → Option ρ} {H : Option ρ → List (Nat × Value) → FS → List Priv → Prop} {d : Nat} {f : FuncId} {fn : Func} {cl : Call} {ty : TypeId} {ps : String} {af : Array Edge} {g : Option (Nat × Bool)}
    {args : List Value} {post : α → FS → List Priv → Value → Prop} {c : Operand} {ca : Array Value}
    (hn : Nat.blt d n = true) (hc : cl.callee = .value c) (hfv : opv L b c = .func (.func f) #[] ca) (hf : P.funcs[f]? = some fn) (hnm : (fn.name == "runtime.NumGoroutine") = false) (hb : fn.body.isNone = false)
    (ha : cl.args.toList.map (opv L b) ++ ca.toList = args)
    (hcall : ∀ y w, x = some y → σ.sub w → Does P f args w σ (post y))
    (h : ∀ y v σ' PV', x = some y → σ.le σ' → post y σ' PV' v → H (k y) ((d, v) :: L) σ' (PV' ++ PV)) :
    OpOK P n w0 σ0 ⟨some d, .call cl, ty, ps, af, g⟩ (x.bind k) L b σ PV H := by
  intro r hp a w hi hft K Q hK
  cases hx : x with
  | none => rw [hx] at hp; cases hp
  | some y =>
    rw [hx] at hp
    have hdoes := hcall y w hx hi.sub
    have hrun : (execOp a.eval ⟨some d, .call cl, ty, ps, af, g⟩).run P w = .ok (.enter f args.toArray) w := by
      have ha' : cl.args.map (opv L b) ++ ca = args.toArray := by subst ha; apply Array.toList_inj.1; simp
      rw [hft.eval, ← ha']
      simp only [execOp, resolve, hc, hfv, Deferred.ofValue, Sem.run_bind, Sem.run_pure, Result.andThen_ok, invoke]
      unfold callFunc
      simp only [Sem.run_bind, run_program, Result.andThen_ok, hf, hnm, hb, Bool.false_eq_true, if_false, Sem.run_pure, Array.empty_append]
    unfold Oper.wp
    rw [hrun, Oper.upon_enter]
    refine Calls.mono hdoes ?_
    rintro e w' ⟨v, σ', PV', rfl, hi', hpost⟩
    exact hK (k y) _ σ' _ _ w' hp (hi.call hi') (hft.put (by simpa [Nat.blt_eq] using hn) v) (h y v σ' PV' hx hi'.le hpost)
end
end Go.Px
