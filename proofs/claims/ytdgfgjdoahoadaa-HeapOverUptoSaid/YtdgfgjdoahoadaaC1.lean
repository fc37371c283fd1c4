/- The base of the road "pure models": representation of Go values by Lean values, the state of a walk, and its judgement. -/
import Derived.WalkKit
import Derived.WalkSpells
import Derived.WalkLawsBesides
import Derived.OrdersHeld
import Derived.KernelRfl
import Derived.Laws.OwnMore
namespace Go.Px
set_option linter.unusedVariables false

/-- What is held fast: cells that nobody will write any more. -/
abbrev FS := Nat → Nat → Option Value
def FS.le (σ τ : FS) : Prop := ∀ b o v, σ b o = some v → τ b o = some v
theorem FS.le.refl (σ : FS) : σ.le σ := fun _ _ _ h => h
theorem FS.le.trans {a b c : FS} (h : a.le b) (k : b.le c) : a.le c := fun x o v e => k x o v (h x o v e)
def FS.cell (σ : FS) (a : Addr) : Option Value := if a.spot.isSome then none else σ a.block a.off
theorem FS.le.cell {σ τ : FS} (h : σ.le τ) {a : Addr} {v : Value} (hc : σ.cell a = some v) : τ.cell a = some v := by
  unfold FS.cell at *
  split at hc
  · cases hc
  · rename_i hs; rw [if_neg hs]; exact h _ _ _ hc
def FS.sub (σ : FS) (w : World) : Prop := ∀ b o v, σ b o = some v → w.cell? ⟨b, o, none⟩ = some v
theorem FS.sub.cell {σ : FS} {w : World} (h : σ.sub w) {a : Addr} {v : Value} (hc : σ.cell a = some v) : w.cell? a = some v := by
  unfold FS.cell at hc
  split at hc
  · cases hc
  · rename_i hs
    have := h _ _ _ hc
    obtain ⟨b, o, sp⟩ := a
    cases sp with
    | none => exact this
    | some _ => simp at hs
theorem FS.le.sub {σ τ : FS} {w : World} (h : σ.le τ) (k : τ.sub w) : σ.sub w := fun b o v e => k b o v (h b o v e)

def isAggV : Value → Bool
  | .agg _ => true
  | _ => false

/-- How values of a Go type are read: their cells, and the Lean value that these mean. -/
structure Ty (α : Type) where
  size : Nat
  agg : Bool
  rel : FS → List Value → α → Prop
  len : ∀ {σ cs x}, rel σ cs x → cs.length = size
  mono : ∀ {σ τ : FS} {cs x}, σ.le τ → rel σ cs x → rel τ cs x
  one : ∀ {σ cs x}, rel σ cs x → ∀ u ∈ cs, u.oneCell' = true
  sz : agg = false → size = 1

def Ty.vrel {α : Type} (T : Ty α) (σ : FS) (v : Value) (x : α) : Prop := T.rel σ v.cells.toList x ∧ isAggV v = T.agg
theorem Ty.vmono {α : Type} (T : Ty α) {σ τ : FS} {v : Value} {x : α} (h : σ.le τ) (r : T.vrel σ v x) : T.vrel τ v x := ⟨T.mono h r.1, r.2⟩

def Ty.rels {α : Type} (T : Ty α) (σ : FS) : List Value → List α → Prop
  | cs, [] => cs = []
  | cs, x :: xs => ∃ c d, cs = c ++ d ∧ T.rel σ c x ∧ T.rels σ d xs

section
variable {α : Type} {T : Ty α} {σ τ : FS}
theorem Ty.rels_mono (h : σ.le τ) : ∀ {xs : List α} {cs : List Value}, T.rels σ cs xs → T.rels τ cs xs
  | [], _, r => r
  | _ :: _, _, ⟨c, d, e, r, s⟩ => ⟨c, d, e, T.mono h r, Ty.rels_mono h s⟩
theorem Ty.rels_len : ∀ {xs : List α} {cs : List Value}, T.rels σ cs xs → cs.length = xs.length * T.size
  | [], _, r => by simp [show _ = [] from r]
  | x :: xs, _, ⟨c, d, e, r, s⟩ => by
    subst e; have h1 := T.len r; have h2 := Ty.rels_len s
    simp only [List.length_append, List.length_cons, h1, h2, Nat.add_mul]; omega
theorem Ty.rels_one : ∀ {xs : List α} {cs : List Value}, T.rels σ cs xs → ∀ u ∈ cs, u.oneCell' = true
  | [], _, r => by rw [show _ = [] from r]; simp
  | x :: xs, _, ⟨c, d, e, r, s⟩ => by
    subst e; intro u hu
    rcases List.mem_append.1 hu with h | h
    · exact T.one r u h
    · exact Ty.rels_one s u h
theorem Ty.rels_append : ∀ {xs : List α} {cs : List Value} {ys : List α} {ds : List Value}, T.rels σ cs xs → T.rels σ ds ys → T.rels σ (cs ++ ds) (xs ++ ys)
  | [], _, _, _, r, s => by rw [show _ = [] from r]; exact s
  | x :: xs, _, _, _, ⟨c, d, e, r, q⟩, s => by subst e; exact ⟨c, _, by rw [List.append_assoc], r, Ty.rels_append q s⟩
theorem Ty.rels_one_mk {c : List Value} {x : α} (h : T.rel σ c x) : T.rels σ c [x] := ⟨c, [], by simp, h, rfl⟩
theorem Ty.rels_get : ∀ {xs : List α} {cs : List Value} (i : Nat) {x : α}, T.rels σ cs xs → xs[i]? = some x →
    T.rel σ ((cs.drop (i * T.size)).take T.size) x
  | [], _, i, _, _, hx => by simp at hx
  | y :: xs, _, 0, x, ⟨c, d, e, r, s⟩, hx => by
    simp at hx; subst hx; subst e
    have := T.len r
    simp only [Nat.zero_mul, List.drop_zero]; rw [← this, List.take_left]; exact r
  | y :: xs, _, i + 1, x, ⟨c, d, e, r, s⟩, hx => by
    subst e
    have h1 := T.len r
    have h2 := Ty.rels_get i s (by simpa using hx)
    rw [show (i + 1) * T.size = c.length + i * T.size by rw [h1, Nat.add_mul]; omega, List.drop_append]
    simp only [Nat.add_sub_cancel_left]
    rw [List.drop_eq_nil_of_le (by omega)]; exact h2
theorem Ty.rels_drop : ∀ {xs : List α} {cs : List Value} (i : Nat), T.rels σ cs xs → T.rels σ (cs.drop (i * T.size)) (xs.drop i)
  | xs, cs, 0, r => by simpa using r
  | [], cs, i + 1, r => by rw [show cs = [] from r]; simp [Ty.rels]
  | x :: xs, _, i + 1, ⟨c, d, e, r, s⟩ => by
    subst e
    have h1 := T.len r
    rw [show (i + 1) * T.size = c.length + i * T.size by rw [h1, Nat.add_mul]; omega, List.drop_append]
    simp only [Nat.add_sub_cancel_left]
    rw [List.drop_eq_nil_of_le (by omega)]; exact Ty.rels_drop i s
theorem Ty.rels_take : ∀ {xs : List α} {cs : List Value} (i : Nat), T.rels σ cs xs → T.rels σ (cs.take (i * T.size)) (xs.take i)
  | xs, cs, 0, r => by simp [Ty.rels]
  | [], cs, i + 1, r => by rw [show cs = [] from r]; simp [Ty.rels]
  | x :: xs, _, i + 1, ⟨c, d, e, r, s⟩ => by
    subst e
    have h1 := T.len r
    refine ⟨c, d.take (i * T.size), ?_, r, Ty.rels_take i s⟩
    rw [show (i + 1) * T.size = c.length + i * T.size by rw [h1, Nat.add_mul]; omega, List.take_append]
    simp only [Nat.add_sub_cancel_left]
    rw [List.take_of_length_le (by omega)]
theorem Ty.rels_set : ∀ {xs : List α} {cs : List Value} (i : Nat) {c : List Value} {x : α}, T.rels σ cs xs → T.rel σ c x → i < xs.length →
    T.rels σ (cs.take (i * T.size) ++ c ++ cs.drop ((i + 1) * T.size)) (xs.set i x)
  | [], _, i, _, _, _, _, hi => by simp at hi
  | y :: xs, _, 0, c', x, ⟨c, d, e, r, s⟩, hx, hi => by
    subst e
    have := T.len r
    simp only [Nat.zero_mul, List.take_zero, List.nil_append, List.set_cons_zero, Nat.zero_add, Nat.one_mul]
    rw [← this, List.drop_left]; exact ⟨c', d, rfl, hx, s⟩
  | y :: xs, _, i + 1, c', x, ⟨c, d, e, r, s⟩, hx, hi => by
    subst e
    have h1 := T.len r
    have h2 := Ty.rels_set i s hx (by simpa using hi)
    refine ⟨c, _, ?_, r, h2⟩
    have e1 : (i + 1) * T.size = c.length + i * T.size := by rw [h1, Nat.add_mul]; omega
    have e2 : (i + 1 + 1) * T.size = c.length + (i + 1) * T.size := by rw [h1, Nat.add_mul (i+1)]; omega
    generalize (i + 1 + 1) * T.size = q at *
    generalize (i + 1) * T.size = p at *
    subst e2
    generalize i * T.size = o at *
    rw [e1, List.take_append, List.drop_append, List.take_of_length_le (by omega), List.drop_eq_nil_of_le (by omega)]
    simp [List.append_assoc]
end

/-- A Go slice as a Lean value: its elements, and whether it is other than nil. -/
structure Sl (α : Type) where
  xs : List α
  nn : Bool
  deriving Inhabited
def Sl.nil {α : Type} : Sl α := ⟨[], false⟩
def Sl.len {α : Type} (s : Sl α) : Int := (s.xs.length : Int)

def tInt (k : IntKind) : Ty Int where
  size := 1
  agg := false
  rel _ cs x := cs = [.int k x]
  len h := by simp [h]
  mono _ h := h
  one h := by simp [h, Value.oneCell']
  sz _ := rfl
def tBool : Ty Bool where
  size := 1
  agg := false
  rel _ cs x := cs = [.bool x]
  len h := by simp [h]
  mono _ h := h
  one h := by simp [h, Value.oneCell']
  sz _ := rfl
def tStr : Ty ByteArray where
  size := 1
  agg := false
  rel _ cs x := cs = [.string x]
  len h := by simp [h]
  mono _ h := h
  one h := by simp [h, Value.oneCell']
  sz _ := rfl
def tUnit : Ty Unit where
  size := 0
  agg := true
  rel _ cs _ := cs = []
  len h := by simp [h]
  mono _ h := h
  one h := by simp [h]
  sz h := by simp at h
def slAt {α : Type} (T : Ty α) (σ : FS) (a : Option Addr) (n c : Nat) (s : Sl α) : Prop :=
  n = s.xs.length ∧ a.isSome = s.nn ∧ n ≤ c ∧ c ≤ maxLen ∧ (a = none → n = 0 ∧ c = 0) ∧
  ∃ cells, T.rels σ cells s.xs ∧ ∀ j u, cells[j]? = some u → ∃ ad, a = some ad ∧ σ.cell (ad.add j) = some u
def tSl {α : Type} (T : Ty α) : Ty (Sl α) where
  size := 1
  agg := false
  rel σ cs s := ∃ a n c, cs = [.slice a n c] ∧ slAt T σ a n c s
  len := by rintro σ cs s ⟨a, n, c, rfl, _⟩; rfl
  mono := by
    rintro σ τ cs s h ⟨a, n, c, rfl, h1, h2, h3, h4, h5, cells, h6, h7⟩
    refine ⟨a, n, c, rfl, h1, h2, h3, h4, h5, cells, T.rels_mono h h6, fun j u hu => ?_⟩
    obtain ⟨ad, ha, hc⟩ := h7 j u hu
    exact ⟨ad, ha, h.cell hc⟩
  one := by rintro σ cs s ⟨a, n, c, rfl, _⟩; simp [Value.oneCell']
  sz _ := rfl
def tProd {α β : Type} (A : Ty α) (B : Ty β) : Ty (α × β) where
  size := A.size + B.size
  agg := true
  rel σ cs x := ∃ c d, cs = c ++ d ∧ A.rel σ c x.1 ∧ B.rel σ d x.2
  len := by rintro σ cs x ⟨c, d, rfl, h, k⟩; simp [A.len h, B.len k]
  mono := by rintro σ τ cs x h ⟨c, d, rfl, p, q⟩; exact ⟨c, d, rfl, A.mono h p, B.mono h q⟩
  one := by
    rintro σ cs x ⟨c, d, rfl, h, k⟩ u hu
    rcases List.mem_append.1 hu with m | m
    · exact A.one h u m
    · exact B.one k u m
  sz h := by simp at h
/-- a type read through a map (a struct through its fields) -/
def Ty.comap {α β : Type} (T : Ty α) (f : β → α) : Ty β where
  size := T.size
  agg := T.agg
  rel σ cs x := T.rel σ cs (f x)
  len h := T.len h
  mono h r := T.mono h r
  one r := T.one r
  sz h := T.sz h
/-- a struct of one field is an aggregate too -/
def Ty.aggr {α : Type} (T : Ty α) : Ty α where
  size := T.size
  agg := true
  rel σ cs x := T.rel σ cs x
  len h := T.len h
  mono h r := T.mono h r
  one r := T.one r
  sz h := by simp at h
def tArr {α : Type} (T : Ty α) (n : Nat) : Ty (List α) where
  size := n * T.size
  agg := true
  rel σ cs xs := xs.length = n ∧ T.rels σ cs xs
  len h := by rw [T.rels_len h.2, h.1]
  mono h r := ⟨r.1, T.rels_mono h r.2⟩
  one r := T.rels_one r.2
  sz h := by simp at h
/-- a pointer to what is held fast -/
def tPtr {α : Type} (T : Ty α) : Ty (Option α) where
  size := 1
  agg := false
  rel σ cs o := ∃ p, cs = [.pointer p] ∧ match o with
    | none => p = none
    | some x => ∃ a c, p = some a ∧ T.rel σ c x ∧ ∀ (j : Nat) (u : Value), c[j]? = some u → σ.cell (a.add j) = some u
  len := by rintro σ cs o ⟨p, rfl, _⟩; rfl
  mono := by
    rintro σ τ cs o h ⟨p, rfl, r⟩
    refine ⟨p, rfl, ?_⟩
    cases o with
    | none => exact r
    | some x => obtain ⟨a, c, e, r, q⟩ := r; exact ⟨a, c, e, T.mono h r, fun j u hu => h.cell (q j u hu)⟩
  one := by rintro σ cs o ⟨p, rfl, _⟩; simp [Value.oneCell']
  sz _ := rfl

section
variable {σ : FS} {v : Value}
theorem tInt_v {k : IntKind} {x : Int} : (tInt k).vrel σ v x ↔ v = .int k x := by
  cases v <;> simp [Ty.vrel, tInt, Value.cells, isAggV]
theorem tBool_v {x : Bool} : tBool.vrel σ v x ↔ v = .bool x := by
  cases v <;> simp [Ty.vrel, tBool, Value.cells, isAggV]
theorem tStr_v {x : ByteArray} : tStr.vrel σ v x ↔ v = .string x := by
  cases v <;> simp [Ty.vrel, tStr, Value.cells, isAggV]
theorem tSl_v {α : Type} {T : Ty α} {s : Sl α} : (tSl T).vrel σ v s ↔ ∃ a n c, v = .slice a n c ∧ slAt T σ a n c s := by
  cases v <;> simp [Ty.vrel, tSl, Value.cells, isAggV]
theorem vrel_agg {α : Type} {T : Ty α} (h : T.agg = true) {x : α} : T.vrel σ v x ↔ ∃ cs : List Value, v = .agg cs.toArray ∧ T.rel σ cs x := by
  constructor
  · rintro ⟨r, e⟩
    cases v <;> simp_all [isAggV]
    exact ⟨_, rfl, r⟩
  · rintro ⟨cs, rfl, r⟩
    exact ⟨r, by simp [isAggV, h]⟩
theorem vrel_one {α : Type} {T : Ty α} (h : T.agg = false) {x : α} {u : Value} (r : T.rel σ [u] x) (hu : isAggV u = false) : T.vrel σ u x := by
  refine ⟨?_, by rw [hu, h]⟩
  cases u <;> simp_all [Value.cells, isAggV]
/-- the value of a type's cells -/
def cellsVal (agg : Bool) (cs : List Value) : Value := bif agg then .agg cs.toArray else cs.headD default
theorem oneCell_notAgg {u : Value} (h : u.oneCell' = true) : isAggV u = false := by cases u <;> simp_all [Value.oneCell', isAggV]
theorem vrel_of_rel {α : Type} {T : Ty α} {cs : List Value} {x : α} (r : T.rel σ cs x) : T.vrel σ (cellsVal T.agg cs) x := by
  cases h : T.agg with
  | true => exact (vrel_agg h).2 ⟨cs, rfl, r⟩
  | false =>
    have hl := T.len r
    rw [T.sz h] at hl
    match cs, hl with
    | [u], _ => exact vrel_one h r (oneCell_notAgg (T.one r u (by simp)))
theorem vrel_cells {α : Type} {T : Ty α} {x : α} (r : T.vrel σ v x) : v = cellsVal T.agg v.cells.toList := by
  cases h : T.agg with
  | true => obtain ⟨cs, rfl, _⟩ := (vrel_agg h).1 r; rfl
  | false =>
    have := r.2; rw [h] at this
    cases v <;> simp_all [isAggV, cellsVal, Value.cells]
end
end Go.Px
