/- Entries picked by number: the lists are found, not written. -/
import Derived.Test.YtdgfgjdoahoadaaCT
namespace Go.Px
set_option linter.unusedVariables false
class GetP (PV : List Priv) (i : Nat) (p : outParam Priv) : Prop where
  get : PV[i]? = some p
instance {p : Priv} {r : List Priv} : GetP (p :: r) 0 p := ⟨rfl⟩
instance {p q : Priv} {r : List Priv} {i : Nat} [g : GetP r i p] : GetP (q :: r) (i + 1) p := ⟨by simpa using g.get⟩
class SelP (PV : List Priv) (idx : List Nat) (out : outParam (List Priv)) : Prop where
  sel : idx.map (fun i => PV[i]?) = out.map some
instance {PV : List Priv} : SelP PV [] [] := ⟨rfl⟩
instance {PV out : List Priv} {p : Priv} {i : Nat} {r : List Nat} [g : GetP PV i p] [s : SelP PV r out] : SelP PV (i :: r) (p :: out) := ⟨by simp [g.get, s.sel]⟩
class AppP (A B : List Priv) (out : outParam (List Priv)) : Prop where
  app : A ++ B = out
instance {B : List Priv} : AppP [] B B := ⟨rfl⟩
instance {p : Priv} {A B out : List Priv} [a : AppP A B out] : AppP (p :: A) B (p :: out) := ⟨by simp [a.app]⟩
class SetP (A : List Priv) (m : Nat) (p : Priv) (out : outParam (List Priv)) : Prop where
  set : A.set m p = out
instance {p q : Priv} {r : List Priv} : SetP (q :: r) 0 p (p :: r) := ⟨rfl⟩
instance {p q : Priv} {r out : List Priv} {m : Nat} [s : SetP r m p out] : SetP (q :: r) (m + 1) p (q :: out) := ⟨by simp [s.set]⟩
class EraP (A : List Priv) (m : Nat) (out : outParam (List Priv)) : Prop where
  era : A.eraseIdx m = out
instance {q : Priv} {r : List Priv} : EraP (q :: r) 0 r := ⟨rfl⟩
instance {q : Priv} {r out : List Priv} {m : Nat} [s : EraP r m out] : EraP (q :: r) (m + 1) (q :: out) := ⟨by simp [s.era]⟩
class NormP (PV : List Priv) (out : outParam (List Priv)) : Prop where
  norm : PV = out
instance : NormP [] [] := ⟨rfl⟩
instance {p : Priv} {r o : List Priv} [n : NormP r o] : NormP (p :: r) (p :: o) := ⟨by rw [← n.norm]⟩
instance {A B a b o : List Priv} [n : NormP A a] [k : NormP B b] [z : AppP a b o] : NormP (A ++ B) o := ⟨by rw [n.norm, k.norm, z.app]⟩
instance {A a o : List Priv} {m : Nat} {p : Priv} [n : NormP A a] [z : SetP a m p o] : NormP (A.set m p) o := ⟨by rw [n.norm, z.set]⟩
instance {A a o : List Priv} {m : Nat} [n : NormP A a] [z : EraP a m o] : NormP (A.eraseIdx m) o := ⟨by rw [n.norm, z.era]⟩
class TakeP (PV : List Priv) (k : Nat) (A C : outParam (List Priv)) : Prop where
  take : PV = A ++ C
instance {PV : List Priv} : TakeP PV 0 [] PV := ⟨rfl⟩
instance {p : Priv} {r A C : List Priv} {k : Nat} [t : TakeP r k A C] : TakeP (p :: r) (k + 1) (p :: A) C := ⟨by rw [t.take]; rfl⟩
theorem Sep.perm {σ : FS} {A B : List Priv} (p : A.Perm B) : ∀ {h : Frag}, Sep σ A h → Sep σ B h := by
  induction p with
  | nil => exact fun h => h
  | cons x _ ih =>
    intro h k
    obtain ⟨h1, h2, k1, k2, l1, l2, d⟩ := k.uncons
    exact .cons k1 (ih k2) l1 l2 d
  | swap x y l =>
    intro h k
    obtain ⟨h1, h2, k1, k2, l1, l2, d⟩ := k.uncons
    obtain ⟨g1, g2, m1, m2, n1, n2, e⟩ := k2.uncons
    have d1 : h1.disj g2 := d.mono (.refl _) n2
    exact .cons (h2 := h1.or g2) m1 (.cons k1 m2 (Frag.le_or _ _) (Frag.le_or_right d1) d1) (n1.trans l2) (Frag.or_le l1 (n2.trans l2)) ((Frag.or_disj (d.mono (.refl _) n1) e.symm).symm)
  | trans _ _ i1 i2 => exact fun h => i2 (i1 h)
class PickP (PV : List Priv) (i : Nat) (p : outParam Priv) (rest : outParam (List Priv)) : Prop where
  pick : PV.Perm (p :: rest)
instance {p : Priv} {r : List Priv} : PickP (p :: r) 0 p r := ⟨.refl _⟩
instance {p q : Priv} {r o : List Priv} {i : Nat} [k : PickP r i p o] : PickP (q :: r) (i + 1) p (q :: o) := ⟨(k.pick.cons q).trans (.swap p q o)⟩
class FrontP (PV : List Priv) (idx : List Nat) (out : outParam (List Priv)) : Prop where
  front : PV.Perm out
instance {PV : List Priv} : FrontP PV [] PV := ⟨.refl _⟩
instance {PV r o : List Priv} {p : Priv} {i : Nat} {idx : List Nat} [k : PickP PV i p r] [f : FrontP r idx o] : FrontP PV (i :: idx) (p :: o) := ⟨k.pick.trans (f.front.cons p)⟩
class KeepP (PV : List Priv) (mask : List Bool) (out : outParam (List Priv)) : Prop where
  keep : ∀ {σ : FS} {h : Frag}, Sep σ PV h → Sep σ out h
instance : KeepP [] [] [] := ⟨fun h => h⟩
instance {p : Priv} {r o : List Priv} {m : List Bool} [k : KeepP r m o] : KeepP (p :: r) (true :: m) (p :: o) := ⟨fun h => by
  obtain ⟨h1, h2, k1, k2, l1, l2, d⟩ := h.uncons
  exact .cons k1 (k.keep k2) l1 l2 d⟩
instance {p : Priv} {r o : List Priv} {m : List Bool} [k : KeepP r m o] : KeepP (p :: r) (false :: m) o := ⟨fun h => by
  obtain ⟨h1, h2, k1, k2, l1, l2, d⟩ := h.uncons
  exact (k.keep k2).mono (.refl _) l2⟩
section
variable {ρ : Type} {n : Nat} {w0 : Start} {σ0 σ : FS} {p : Option ρ} {L : List (Nat × Value)} {b : Nat → Value} {PV PVn PV' A C : List Priv} {P : Program} {G : ρ → Act → World → Prop}
theorem J_sel [N : NormP PV PVn] (idx : List Nat) [S : SelP PVn idx PV'] (hn : idx.Nodup) (h : J n w0 σ0 p G L b σ PV') : J n w0 σ0 p G L b σ PV := by
  cases N.norm; exact J_select idx hn S.sel h
theorem J_all {PV' : List Priv} (hv : ∀ g, Sep σ PV g → Sep σ PV' g) (h : J n w0 σ0 p G L b σ PV') : J n w0 σ0 p G L b σ PV := by
  have h2 : J n w0 σ0 p G L b σ (PV' ++ []) := by rw [List.append_nil]; exact h
  have := J_view (A := PV) (A' := PV') (C := []) hv h2
  rwa [List.append_nil] at this
theorem J_front [N : NormP PV PVn] (idx : List Nat) [S : FrontP PVn idx PV'] (h : J n w0 σ0 p G L b σ PV') : J n w0 σ0 p G L b σ PV := by
  cases N.norm; exact J_all (fun g => Sep.perm S.front) h
theorem J_keep [N : NormP PV PVn] (mask : List Bool) [S : KeepP PVn mask PV'] (h : J n w0 σ0 p G L b σ PV') : J n w0 σ0 p G L b σ PV := by
  cases N.norm; exact J_all (fun g => S.keep) h
/-- a set of what is done, within a region: all that follows is the same, whatever the order was -/
theorem J_node {Q : ρ → Exit → Act → World → Prop} {ops : Array Oper} {L : List (Nat × Value)} {tr : Nat} {σr : FS} {PVr : List Priv} {fuel : Nat} {listed : Array Bool} (fuel2 : Nat) (listed2 : Array Bool) (Tail : List (Nat × Value) → FS → List Priv → Prop)
    (h : (∀ L b σ PV, Tail L σ PV → J n w0 σ0 p (GA P ops tr σr PVr Q fuel2 listed2) L b σ PV) → J n w0 σ0 p (GA P ops tr σr PVr Q fuel listed) L b σ PV)
    (hk : ∀ L b σ PV, Tail L σ PV → J n w0 σ0 p (GA P ops tr σr PVr Q fuel2 listed2) L b σ PV) : J n w0 σ0 p (GA P ops tr σr PVr Q fuel listed) L b σ PV := h hk
theorem op_callN {α : Type} {x : Option α} {k : α → Option ρ} {H : Option ρ → List (Nat × Value) → FS → List Priv → Prop} {d : Nat} {f : FuncId} {fn : Func} {cl : Call} {ty : TypeId} {ps : String} {af : Array Edge} {g : Option (Nat × Bool)}
    {args : List Value} {post : α → FS → List Priv → Value → Prop} {c : Operand} {ca : Array Value} (m : Nat) [N : NormP PV PVn] [T : TakeP PVn m A C]
    (hn : Nat.blt d n = true) (hc : cl.callee = .value c) (hfv : opv L b c = .func (.func f) #[] ca) (hf : P.funcs[f]? = some fn) (hnm : (fn.name == "runtime.NumGoroutine") = false) (hb : fn.body.isNone = false)
    (ha : cl.args.toList.map (opv L b) ++ ca.toList = args)
    (hcall : ∀ y s, x = some y → Pre s σ A → Does P f args s σ (post y))
    (h : ∀ y v σ' A', x = some y → σ.le σ' → post y σ' A' v → H (k y) ((d, v) :: L) σ' (A' ++ C)) :
    OpOK P n w0 σ0 ⟨some d, .call cl, ty, ps, af, g⟩ (x.bind k) L b σ PV H := by
  have := N.norm
  subst this
  have := T.take
  subst this
  exact op_call A C hn hc hfv hf hnm hb ha hcall h
theorem op_lentN {α : Type} {x : Option α} {k : α → Option ρ} {H : Option ρ → List (Nat × Value) → FS → List Priv → Prop} {d : Nat} {f : FuncId} {fn : Func} {cl : Call} {ty : TypeId} {ps : String} {af : Array Edge} {g : Option (Nat × Bool)}
    {args : List Value} {post : FS → α → FS → List Priv → Value → Prop} {F : FS → Prop} {c : Operand} {ca : Array Value} (m : Nat) [N : NormP PV PVn] [T : TakeP PVn m A C] [fA : FreeL A]
    (hn : Nat.blt d n = true) (hc : cl.callee = .value c) (hfv : opv L b c = .func (.func f) #[] ca) (hf : P.funcs[f]? = some fn) (hnm : (fn.name == "runtime.NumGoroutine") = false) (hb : fn.body.isNone = false)
    (ha : cl.args.toList.map (opv L b) ++ ca.toList = args)
    (hv : ∀ h, σ.le (σ.with h) → Sep σ C h → F (σ.with h))
    (hcall : ∀ y s τ, x = some y → F τ → σ.le τ → Pre s τ A → Does P f args s τ (post τ y))
    (hfree : ∀ y v τ σ' A', x = some y → F τ → σ.le τ → τ.le σ' → post τ y σ' A' v → FreeL A')
    (h : ∀ y v τ σ' A', x = some y → F τ → σ.le τ → post τ y σ' A' v → H (k y) ((d, v) :: L) σ (A' ++ C)) :
    OpOK P n w0 σ0 ⟨some d, .call cl, ty, ps, af, g⟩ (x.bind k) L b σ PV H := by
  have := N.norm
  subst this
  have := T.take
  subst this
  exact op_call_lent A C fA hn hc hfv hf hnm hb ha hv hcall hfree h
end
end Go.Px
