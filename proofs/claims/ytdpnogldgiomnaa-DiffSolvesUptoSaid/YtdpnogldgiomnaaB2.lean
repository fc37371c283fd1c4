/- The judgement of a walk: the state, and the rules for code and regions. -/
import Derived.Test.YtdpnogldgiomnaaB1
namespace Go.Px
set_option linter.unusedVariables false

/-! the temporaries -/
def look (L : List (Nat × Value)) (b : Nat → Value) (i : Nat) : Value :=
  match L with
  | [] => b i
  | (j, v) :: r => bif Nat.beq i j then v else look r b i
def opv (L : List (Nat × Value)) (b : Nat → Value) : Operand → Value
  | .tmp t => look L b t
  | .const v => v
  | .global g => .pointer (some ⟨g, 0, none⟩)
  | .func f => .func (.func f) #[] #[]
structure Fits (n : Nat) (L : List (Nat × Value)) (b : Nat → Value) (a : Act) : Prop where
  defers : a.defers = []
  size : a.tmps.size = n
  get : ∀ i, a.tmps.getD i undef = look L b i
theorem Fits.eval {n L b a} (h : Fits n L b a) : a.eval = opv L b := by
  funext x; cases x <;> simp [Act.eval, opv, h.get]
theorem Fits.put {n L b a} (h : Fits n L b a) {d : Nat} (hd : d < n) (v : Value) : Fits n ((d, v) :: L) b (a.put (some d) v) := by
  refine ⟨h.defers, by simp [Act.put, h.size], fun i => ?_⟩
  have hg := h.get i
  have hs := h.size
  simp only [Act.put, look, Array.getD_eq_getD_getElem?, Array.getElem?_setIfInBounds] at hg ⊢
  by_cases e : d = i
  · subst e; simp [hs, hd]
  · have : Nat.beq i d = false := by
      cases hb : Nat.beq i d with
      | false => rfl
      | true => exact absurd (Nat.eq_of_beq_eq_true hb).symm e
    simp [e, this, hg]
def Agree (L : List (Nat × Value)) (b : Nat → Value) : List (Nat × Value) → Prop
  | [] => True
  | (i, v) :: r => look L b i = v ∧ Agree L b r
theorem Agree.look {L b} : ∀ {M}, Agree L b M → ∀ i, look M (Px.look L b) i = Px.look L b i
  | [], _, i => rfl
  | (j, v) :: r, ⟨h, k⟩, i => by
    simp only [Px.look]
    cases e : Nat.beq i j with
    | true => have := Nat.eq_of_beq_eq_true e; subst this; simp [h]
    | false => simp only [cond_false]; exact Agree.look k i
theorem Fits.prune {n L b a M} (h : Fits n L b a) (k : Agree L b M) : Fits n M (look L b) a :=
  ⟨h.defers, h.size, fun i => by rw [h.get, k.look]⟩
def yieldedL (ops : Array Oper) (L : List (Nat × Value)) (b : Nat → Value) (j : Nat) : Option Bool :=
  match (ops[j]?).bind (·.dst) with
  | some d => match look L b d with
    | .bool c => some c
    | _ => none
  | none => none
theorem Fits.yielded {n L b a} (h : Fits n L b a) (ops : Array Oper) : Go.yielded ops a.tmps = yieldedL ops L b := by
  funext j
  unfold Go.yielded yieldedL
  cases e : (ops[j]?).bind (·.dst) with
  | none => simp
  | some d =>
    have hg := h.get d
    rw [Array.getD_eq_getD_getElem?] at hg
    simp only [Option.bind_some]
    cases e2 : a.tmps[d]? with
    | none => rw [e2] at hg; simp only [Option.getD_none] at hg; rw [← hg]; rfl
    | some v => rw [e2] at hg; simp only [Option.getD_some] at hg; rw [← hg]; cases v <;> rfl

/-! memory of the call's own -/
inductive Priv : Type 1
  | cell (b : Nat) (cs : List Value) (T : TypeId)
  | row (α : Type) (T : Ty α) (e : TypeId) (v : Value) (s : Sl α)
def Priv.blk : Priv → Option Nat
  | .cell b _ _ => some b
  | .row _ _ _ v _ => v.ownBlock
def Priv.holds (B : Nat) (σ : FS) (w : World) : Priv → Prop
  | .cell b cs T => w.heap[b]? = some (.cells cs.toArray T (0, 0)) ∧ B ≤ b
  | .row _ T e v s => ∃ xs, w.ownsRow B e T.size v s.xs.length xs ∧ T.rels σ xs s.xs ∧ (v = .slice none 0 0 ↔ s.nn = false)
theorem Priv.holds_blk {B : Nat} {σ : FS} {w : World} {p : Priv} (h : p.holds B σ w) {b : Nat} (hb : p.blk = some b) : B ≤ b ∧ b < w.heap.size := by
  cases p with
  | cell b' cs T =>
    simp only [Priv.blk, Option.some.injEq] at hb; subst hb
    exact ⟨h.2, (Array.getElem?_eq_some_iff.1 h.1).1⟩
  | row α T e v s => obtain ⟨xs, h1, _, _⟩ := h; exact h1.lt b hb
/-- a block that stays as it was -/
theorem Priv.holds_same {B : Nat} {σ τ : FS} {w w' : World} {p : Priv} (h : p.holds B σ w) (hl : σ.le τ) (hs : ∀ b, p.blk = some b → w'.heap[b]? = w.heap[b]?) : p.holds B τ w' := by
  cases p with
  | cell b cs T => exact ⟨by rw [hs b rfl]; exact h.1, h.2⟩
  | row α T e v s =>
    obtain ⟨xs, ⟨h1, h2⟩, h3, h4⟩ := h
    refine ⟨xs, ⟨h1, ?_⟩, T.rels_mono hl h3, h4⟩
    rcases h2 with h2 | ⟨g, cap, cur, rfl, k1, k2, k3, k4, k5, k6⟩
    · exact .inl h2
    · exact .inr ⟨g, cap, cur, rfl, k1, by rw [hs g rfl]; exact k2, k3, k4, k5, k6⟩

structure Ext (w0 w : World) : Prop where
  os : w.os = w0.os
  output : w.output = w0.output
  tape : w.tape = w0.tape
  size : w0.heap.size ≤ w.heap.size
  old : ∀ b, b < w0.heap.size → w.heap[b]? = w0.heap[b]?
  fz : ∀ a, w.frozen? a = w0.frozen? a
theorem Ext.refl (w : World) : Ext w w := ⟨rfl, rfl, rfl, Nat.le_refl _, fun _ _ => rfl, fun _ => rfl⟩
theorem Ext.trans {a b c : World} (h : Ext a b) (k : Ext b c) : Ext a c :=
  ⟨k.os.trans h.os, k.output.trans h.output, k.tape.trans h.tape, Nat.le_trans h.size k.size,
    fun x hx => (k.old x (Nat.lt_of_lt_of_le hx h.size)).trans (h.old x hx), fun a => (k.fz a).trans (h.fz a)⟩
abbrev apartP (p q : Priv) : Prop := ∀ b, p.blk = some b → q.blk ≠ some b
structure Inv (w0 : World) (σ0 σ : FS) (PV : List Priv) (w : World) : Prop where
  sub : σ.sub w
  le : σ0.le σ
  fresh : ∀ b o, σ b = some o → σ0 b = some o ∨ w0.heap.size ≤ b
  pv : ∀ p ∈ PV, p.holds w0.heap.size σ w
  apart : ∀ p ∈ PV, ∀ b, p.blk = some b → σ b = none
  nodup : PV.Pairwise apartP
  ext : Ext w0 w
theorem Inv.start {w : World} {σ : FS} (h : σ.sub w) : Inv w σ σ [] w :=
  ⟨h, .refl σ, fun _ _ h => .inl h, by simp, by simp, .nil, .refl w⟩
theorem Inv.drew {w0 : World} {σ0 σ : FS} {PV : List Priv} {w : World} (h : Inv w0 σ0 σ PV w) : Inv w0 σ0 σ PV { w with drawn := w.drawn + 1 } :=
  ⟨h.sub, h.le, h.fresh, fun p hp => Priv.holds_same (h.pv p hp) (.refl _) (fun _ _ => rfl), h.apart, h.nodup, ⟨h.ext.os, h.ext.output, h.ext.tape, h.ext.size, h.ext.old, h.ext.fz⟩⟩
theorem Inv.lt {w0 : World} {σ0 σ : FS} {PV : List Priv} {w : World} (h : Inv w0 σ0 σ PV w) {b : Nat} {o : Obj} (hb : σ b = some o) : b < w.heap.size :=
  (Array.getElem?_eq_some_iff.1 (h.sub b o hb)).1

/-! the judgement -/
section
variable {ρ : Type}
def J (n : Nat) (w0 : World) (σ0 : FS) (p : Option ρ) (G : ρ → Act → World → Prop) (L : List (Nat × Value)) (b : Nat → Value) (σ : FS) (PV : List Priv) : Prop :=
  ∀ r, p = some r → ∀ a w, Inv w0 σ0 σ PV w → Fits n L b a → G r a w

variable {n : Nat} {w0 : World} {σ0 σ : FS} {p : Option ρ} {G G' : ρ → Act → World → Prop} {L : List (Nat × Value)} {b : Nat → Value} {PV PV' : List Priv}
variable {P : Program} {Q : ρ → Exit → Act → World → Prop}

theorem J_none : J n w0 σ0 (none : Option ρ) G L b σ PV := fun _ h => by cases h
theorem J_mono (h : J n w0 σ0 p G L b σ PV) (hg : ∀ r a w, G r a w → G' r a w) : J n w0 σ0 p G' L b σ PV := fun r hp a w hi hf => hg _ _ _ (h r hp a w hi hf)
theorem J_prune (M : List (Nat × Value)) (k : Agree L b M) (h : ∀ b', J n w0 σ0 p G M b' σ PV) : J n w0 σ0 p G L b σ PV :=
  fun r hp a w hi hf => h _ r hp a w hi (hf.prune k)
def SubP : List Priv → List Priv → Prop
  | [], _ => True
  | p :: r, l => (∃ i : Nat, l[i]? = some p) ∧ SubP r l
theorem SubP.mem : ∀ {l m : List Priv}, SubP l m → ∀ p ∈ l, p ∈ m
  | [], _, _, _, h => by simp at h
  | q :: r, m, ⟨⟨i, hi⟩, k⟩, p, h => by
    rcases List.mem_cons.1 h with rfl | h
    · exact List.mem_of_getElem? hi
    · exact SubP.mem k p h
/-- entries are forgotten (the list is a sublist) -/
theorem J_forget (hs : PV'.Sublist PV) (h : J n w0 σ0 p G L b σ PV') : J n w0 σ0 p G L b σ PV :=
  fun r hp a w hi hf => h r hp a w ⟨hi.sub, hi.le, hi.fresh, fun q hq => hi.pv q (hs.subset hq), fun q hq => hi.apart q (hs.subset hq), hi.nodup.sublist hs, hi.ext⟩ hf
/-- entries change their order -/
theorem J_perm (hs : PV'.Perm PV) (h : J n w0 σ0 p G L b σ PV') : J n w0 σ0 p G L b σ PV :=
  fun r hp a w hi hf => h r hp a w ⟨hi.sub, hi.le, hi.fresh, fun q hq => hi.pv q (hs.subset hq), fun q hq => hi.apart q (hs.subset hq),
    hi.nodup.perm hs.symm (fun h b hq hp => h b hp hq), hi.ext⟩ hf
theorem J_if {e : Bool} {p q : Option ρ} (h1 : e = true → J n w0 σ0 p G L b σ PV) (h0 : e = false → J n w0 σ0 q G L b σ PV) :
    J n w0 σ0 (if e then p else q) G L b σ PV := by
  cases e with
  | true => simpa using h1 rfl
  | false => simpa using h0 rfl
/-- a value known by name from here on -/
theorem J_some {α : Type} {x : α} {k : α → Option ρ} (h : J n w0 σ0 (k x) G L b σ PV) : J n w0 σ0 ((some x).bind k) G L b σ PV := h
theorem J_bind {α : Type} {x : Option α} {k : α → Option ρ} (h : ∀ y, x = some y → J n w0 σ0 (k y) G L b σ PV) : J n w0 σ0 (x.bind k) G L b σ PV := by
  intro r hp
  cases x with
  | none => cases hp
  | some y => exact h y rfl r hp

/-- the cut: a part of the program that ends in several ways -/
def cutQ (n : Nat) (w0 : World) (σ0 : FS) {γ : Type} (Tail : γ → Exit → List (Nat × Value) → FS → List Priv → Prop) (y : γ) (e : Exit) (a : Act) (w : World) : Prop :=
  match e with
  | .panic _ => False
  | .outgrown => False
  | e => ∃ L b σ PV, Tail y e L σ PV ∧ Fits n L b a ∧ Inv w0 σ0 σ PV w
theorem J_cut {γ : Type} {x : Option γ} {k : γ → Option ρ} {c : Code} (Tail : γ → Exit → List (Nat × Value) → FS → List Priv → Prop)
    (hx : J n w0 σ0 x (fun y a w => c.wp P (cutQ n w0 σ0 Tail y) a w) L b σ PV)
    (hk : ∀ y e L b σ PV, Tail y e L σ PV → J n w0 σ0 (k y) (fun r a w => Q r e a w) L b σ PV) :
    J n w0 σ0 (x.bind k) (fun r a w => c.wp P (Q r) a w) L b σ PV := by
  intro r hp a w hi hf
  cases hx' : x with
  | none => rw [hx'] at hp; cases hp
  | some y =>
    rw [hx'] at hp
    refine Code.wp_mono ?_ (hx y hx' a w hi hf)
    intro e a' w' hq
    unfold cutQ at hq
    cases e <;> first | exact hq.elim | (obtain ⟨L', b', σ', PV', ht, hf', hi'⟩ := hq; exact hk y _ L' b' σ' PV' ht r hp a' w' hi' hf')
theorem J_cut_end {γ : Type} {y : γ} {e : Exit} {Tail : γ → Exit → List (Nat × Value) → FS → List Priv → Prop}
    (M : List (Nat × Value)) (k : Agree L b M) (ht : Tail y e M σ PV) (he : match e with | .panic _ => False | .outgrown => False | _ => True) :
    J n w0 σ0 (some y) (fun y a w => cutQ n w0 σ0 Tail y e a w) L b σ PV := by
  intro r hp a w hi hf
  cases hp
  unfold cutQ
  cases e <;> first | exact he.elim | exact ⟨M, _, σ, PV, ht, hf.prune k, hi⟩

theorem J_assoc {α γ : Type} {x : Option α} {f : α → Option γ} {k : γ → Option ρ} (h : J n w0 σ0 (x.bind fun y => (f y).bind k) G L b σ PV) : J n w0 σ0 ((x.bind f).bind k) G L b σ PV := by
  rw [Option.bind_assoc]; exact h
/-! code -/
theorem J_seq {c d : Code} (h : J n w0 σ0 p (fun r a w => c.wp P (Exit.then (fun a w => d.wp P (Q r) a w) (Q r)) a w) L b σ PV) :
    J n w0 σ0 p (fun r a w => (Code.seq c d).wp P (Q r) a w) L b σ PV := fun r hp a w hi hf => wp_seq (h r hp a w hi hf)
theorem J_skip (h : J n w0 σ0 p (fun r a w => Q r .normal a w) L b σ PV) : J n w0 σ0 p (fun r a w => Code.skip.wp P (Q r) a w) L b σ PV :=
  fun r hp a w hi hf => wp_skip (h r hp a w hi hf)
theorem J_exit {i : Nat} (h : J n w0 σ0 p (fun r a w => Q r (.exit i) a w) L b σ PV) : J n w0 σ0 p (fun r a w => (Code.exit i).wp P (Q r) a w) L b σ PV :=
  fun r hp a w hi hf => wp_exit (h r hp a w hi hf)
theorem J_ret (h : J n w0 σ0 p (fun r a w => Q r .ret a w) L b σ PV) : J n w0 σ0 p (fun r a w => Code.ret.wp P (Q r) a w) L b σ PV :=
  fun r hp a w hi hf => wp_ret (h r hp a w hi hf)
theorem J_block {i : Nat} {c : Code} (h : J n w0 σ0 p (fun r a w => c.wp P (Exit.inBlock i (Q r)) a w) L b σ PV) :
    J n w0 σ0 p (fun r a w => (Code.block i c).wp P (Q r) a w) L b σ PV := fun r hp a w hi hf => wp_block (h r hp a w hi hf)
theorem J_cond {c : Operand} {x y : Code} {e : Bool} {p q : Option ρ} (hc : opv L b c = .bool e)
    (h1 : e = true → J n w0 σ0 p (fun r a w => x.wp P (Q r) a w) L b σ PV) (h0 : e = false → J n w0 σ0 q (fun r a w => y.wp P (Q r) a w) L b σ PV) :
    J n w0 σ0 (if e then p else q) (fun r a w => (Code.cond c x y).wp P (Q r) a w) L b σ PV := by
  intro r hp a w hi hf
  refine wp_cond_split (t := e) (by rw [hf.eval]; exact hc) (fun ht => ?_) (fun ht => ?_)
  · subst ht; exact h1 rfl r (by simpa using hp) a w hi hf
  · subst ht; exact h0 rfl r (by simpa using hp) a w hi hf
/-- both ways go on with one program -/
theorem J_cond_any {c : Operand} {x y : Code} {e : Bool} (hc : opv L b c = .bool e)
    (h1 : e = true → J n w0 σ0 p (fun r a w => x.wp P (Q r) a w) L b σ PV) (h0 : e = false → J n w0 σ0 p (fun r a w => y.wp P (Q r) a w) L b σ PV) :
    J n w0 σ0 p (fun r a w => (Code.cond c x y).wp P (Q r) a w) L b σ PV := by
  intro r hp a w hi hf
  exact wp_cond_split (t := e) (by rw [hf.eval]; exact hc) (fun ht => h1 ht r hp a w hi hf) (fun ht => h0 ht r hp a w hi hf)
/-- ends of parts -/
theorem J_then {d : Code} (h : J n w0 σ0 p (fun r a w => d.wp P (Q r) a w) L b σ PV) :
    J n w0 σ0 p (fun r a w => Exit.then (fun a w => d.wp P (Q r) a w) (Q r) .normal a w) L b σ PV := h
theorem J_then_k {K : ρ → Act → World → Prop} (h : J n w0 σ0 p K L b σ PV) :
    J n w0 σ0 p (fun r a w => Exit.then (K r) (Q r) .normal a w) L b σ PV := h
theorem J_then_exit {i : Nat} {K : ρ → Act → World → Prop} (h : J n w0 σ0 p (fun r a w => Q r (.exit i) a w) L b σ PV) :
    J n w0 σ0 p (fun r a w => Exit.then (K r) (Q r) (.exit i) a w) L b σ PV := h
theorem J_then_ret {K : ρ → Act → World → Prop} (h : J n w0 σ0 p (fun r a w => Q r .ret a w) L b σ PV) :
    J n w0 σ0 p (fun r a w => Exit.then (K r) (Q r) .ret a w) L b σ PV := h
theorem J_in_normal {i : Nat} (h : J n w0 σ0 p (fun r a w => Q r .normal a w) L b σ PV) :
    J n w0 σ0 p (fun r a w => Exit.inBlock i (Q r) .normal a w) L b σ PV := h
theorem J_in_ret {i : Nat} (h : J n w0 σ0 p (fun r a w => Q r .ret a w) L b σ PV) :
    J n w0 σ0 p (fun r a w => Exit.inBlock i (Q r) .ret a w) L b σ PV := h
theorem J_in_exit {i : Nat} (h : J n w0 σ0 p (fun r a w => Q r .normal a w) L b σ PV) :
    J n w0 σ0 p (fun r a w => Exit.inBlock i (Q r) (.exit i) a w) L b σ PV := fun r hp a w hi hf => by
  simpa [Exit.inBlock] using h r hp a w hi hf
theorem J_in_other {i j : Nat} (hne : Nat.beq j i = false) (h : J n w0 σ0 p (fun r a w => Q r (.exit j) a w) L b σ PV) :
    J n w0 σ0 p (fun r a w => Exit.inBlock i (Q r) (.exit j) a w) L b σ PV := fun r hp a w hi hf => by
  have : j ≠ i := fun e => by subst e; simp at hne
  simpa [Exit.inBlock, this] using h r hp a w hi hf

/-! loops -/
theorem exists_least {p : Nat → Prop} (h : ∃ m, p m) : ∃ m, p m ∧ ∀ k, p k → m ≤ k := by
  obtain ⟨m, hm⟩ := h
  induction m using Nat.strongRecOn with
  | _ m ih =>
    by_cases hx : ∃ k, k < m ∧ p k
    · obtain ⟨k, hk, hp⟩ := hx; exact ih k hk hp
    · exact ⟨m, hm, fun k hk => Nat.le_of_not_lt fun hlt => hx ⟨k, hlt, hk⟩⟩

inductive Step (s β : Type) where
  | next (x : s)
  | done (y : β)
def iterL {s β : Type} (f : s → Option (Step s β)) : Nat → s → Option β
  | 0, _ => none
  | k + 1, x => (f x).bind fun
    | .next x' => iterL f k x'
    | .done y => some y
noncomputable def loopO {s β : Type} (f : s → Option (Step s β)) (x : s) : Option β :=
  @dite _ (∃ k, (iterL f k x).isSome) (Classical.propDecidable _) (fun h => iterL f h.choose x) (fun _ => none)
theorem iterL_mono {s β : Type} {f : s → Option (Step s β)} : ∀ {k m : Nat} {x : s} {y : β}, iterL f k x = some y → k ≤ m → iterL f m x = some y
  | 0, _, _, _, h, _ => by simp [iterL] at h
  | k + 1, 0, _, _, _, hm => by omega
  | k + 1, m + 1, x, y, h, hm => by
    simp only [iterL] at h ⊢
    cases hf : f x with
    | none => rw [hf] at h; simp at h
    | some st =>
      rw [hf] at h
      cases st with
      | next x' => exact iterL_mono (k := k) h (by omega)
      | done y' => exact h
theorem loopO_iff {s β : Type} {f : s → Option (Step s β)} {x : s} {y : β} : loopO f x = some y ↔ ∃ k, iterL f k x = some y := by
  unfold loopO
  constructor
  · intro h
    split at h
    · exact ⟨_, h⟩
    · cases h
  · rintro ⟨k, hk⟩
    have hex : ∃ k, (iterL f k x).isSome := ⟨k, by simp [hk]⟩
    rw [dif_pos hex]
    have hs := hex.choose_spec
    obtain ⟨z, hz⟩ := Option.isSome_iff_exists.1 hs
    rw [hz]
    rcases Nat.le_total k hex.choose with h | h
    · rw [iterL_mono hk h] at hz; exact hz.symm
    · rw [iterL_mono hz h] at hk; exact hk
theorem loopO_eq {s β : Type} (f : s → Option (Step s β)) (x : s) : loopO f x = (f x).bind fun
    | .next x' => loopO f x'
    | .done y => some y := by
  apply Option.ext
  intro y
  rw [loopO_iff]
  cases hf : f x with
  | none =>
    simp only [Option.bind_none]
    constructor
    · rintro ⟨k, hk⟩; cases k <;> simp [iterL, hf] at hk
    · intro h; cases h
  | some st =>
    cases st with
    | next x' =>
      simp only [Option.bind_some]
      rw [loopO_iff]
      constructor
      · rintro ⟨k, hk⟩
        cases k with
        | zero => simp [iterL] at hk
        | succ k => exact ⟨k, by simpa [iterL, hf] using hk⟩
      · rintro ⟨k, hk⟩; exact ⟨k + 1, by simpa [iterL, hf] using hk⟩
    | done y' =>
      simp only [Option.bind_some]
      constructor
      · rintro ⟨k, hk⟩
        cases k with
        | zero => simp [iterL] at hk
        | succ k => simpa [iterL, hf] using hk
      · intro h; exact ⟨1, by simpa [iterL, hf] using h⟩

def loopQ (n : Nat) (w0 : World) (σ0 : FS) {s β : Type} (Head : s → List (Nat × Value) → FS → List Priv → Prop)
    (Tail : β → Exit → List (Nat × Value) → FS → List Priv → Prop) (st : Step s β) (e : Exit) (a : Act) (w : World) : Prop :=
  match st, e with
  | _, .panic _ => False
  | _, .outgrown => False
  | .next x, .normal => ∃ L b σ PV, Head x L σ PV ∧ Fits n L b a ∧ Inv w0 σ0 σ PV w
  | .next _, _ => False
  | .done _, .normal => False
  | .done y, e => ∃ L b σ PV, Tail y e L σ PV ∧ Fits n L b a ∧ Inv w0 σ0 σ PV w
theorem J_loop {s β : Type} {f : s → Option (Step s β)} {x0 : s} {k : β → Option ρ} {c : Code}
    (Head : s → List (Nat × Value) → FS → List Priv → Prop) (Tail : β → Exit → List (Nat × Value) → FS → List Priv → Prop)
    (M : List (Nat × Value)) (ha : Agree L b M) (h0 : Head x0 M σ PV)
    (hb : ∀ x L b σ PV, Head x L σ PV → J n w0 σ0 (f x) (fun st a w => c.wp P (loopQ n w0 σ0 Head Tail st) a w) L b σ PV)
    (hk : ∀ y e L b σ PV, Tail y e L σ PV → J n w0 σ0 (k y) (fun r a w => Q r e a w) L b σ PV) :
    J n w0 σ0 ((loopO f x0).bind k) (fun r a w => (Code.loop c).wp P (Q r) a w) L b σ PV := by
  intro r hp a w hi hf
  cases hl : loopO f x0 with
  | none => rw [hl] at hp; cases hp
  | some y =>
    rw [hl] at hp
    obtain ⟨m, hm⟩ := loopO_iff.1 hl
    classical
    let I : Nat → Act → World → Prop := fun m a w => ∃ x L b σ PV, iterL f m x = some y ∧ Head x L σ PV ∧ Fits n L b a ∧ Inv w0 σ0 σ PV w
    refine wp_loop (fun a w => ∃ m, I m a w) (fun a w => if h : ∃ m, I m a w then (exists_least h).choose else 0) ⟨m, x0, M, _, σ, PV, hm, h0, hf.prune ha, hi⟩ ?_
    intro a1 w1 h1
    have hfind := (exists_least h1).choose_spec.1
    rw [dif_pos h1]
    generalize (exists_least h1).choose = m1 at hfind ⊢
    obtain ⟨x, L1, b1, σ1, PV1, hit, hh, hf1, hi1⟩ := hfind
    cases m1 with
    | zero => simp [iterL] at hit
    | succ m1 =>
      simp only [iterL] at hit
      cases hfx : f x with
      | none => rw [hfx] at hit; simp at hit
      | some st =>
        rw [hfx] at hit
        refine Code.wp_mono ?_ (hb x L1 b1 σ1 PV1 hh st hfx a1 w1 hi1 hf1)
        intro e a2 w2 hq
        unfold loopQ at hq
        cases st with
        | next x' =>
          cases e <;> first | exact hq.elim | skip
          obtain ⟨L2, b2, σ2, PV2, hh2, hf2, hi2⟩ := hq
          have hI : I m1 a2 w2 := ⟨x', L2, b2, σ2, PV2, hit, hh2, hf2, hi2⟩
          refine ⟨⟨m1, hI⟩, ?_⟩
          rw [dif_pos ⟨m1, hI⟩]
          exact Nat.lt_succ_of_le ((exists_least ⟨m1, hI⟩).choose_spec.2 _ hI)
        | done y' =>
          simp only [Option.bind_some, Option.some.injEq] at hit
          subst hit
          cases e <;> first | exact hq.elim | (obtain ⟨L2, b2, σ2, PV2, ht2, hf2, hi2⟩ := hq; exact hk y' _ L2 b2 σ2 PV2 ht2 r hp a2 w2 hi2 hf2)
theorem J_next {s β : Type} {x : s} {Head : s → List (Nat × Value) → FS → List Priv → Prop} {Tail : β → Exit → List (Nat × Value) → FS → List Priv → Prop}
    (M : List (Nat × Value)) (k : Agree L b M) (ht : Head x M σ PV) :
    J n w0 σ0 (some (.next x)) (fun st a w => loopQ n w0 σ0 Head Tail st .normal a w) L b σ PV := by
  intro r hp a w hi hf
  cases hp
  exact ⟨M, _, σ, PV, ht, hf.prune k, hi⟩
theorem J_done {s β : Type} {y : β} {e : Exit} {Head : s → List (Nat × Value) → FS → List Priv → Prop} {Tail : β → Exit → List (Nat × Value) → FS → List Priv → Prop}
    (he : match e with | .panic _ => False | .outgrown => False | .normal => False | _ => True)
    (M : List (Nat × Value)) (k : Agree L b M) (ht : Tail y e M σ PV) :
    J n w0 σ0 (some (.done y)) (fun st a w => loopQ n w0 σ0 Head Tail st e a w) L b σ PV := by
  intro r hp a w hi hf
  cases hp
  unfold loopQ
  cases e <;> first | exact he.elim | exact ⟨M, _, σ, PV, ht, hf.prune k, hi⟩
end
end Go.Px
