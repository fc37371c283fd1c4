/- Elements taken out and put back; stores into rows; slices of slices; strings; structs by value. -/
import Derived.Test.YtdgfgjdoahoadaaC6
namespace Go.Px
set_option linter.unusedVariables false

/-- a type whose values can be laid open: their cells, what they own, what is held fast -/
class Opn {α : Type} (T : OTy α) where
  aux : Type
  cells : aux → α → List Value
  own : aux → α → List Priv
  facts : FS → aux → α → Prop
  spec : ∀ {σ : FS} {h : Frag} {cs : List Value} {x : α}, T.rel σ h cs x → ∃ u, cs = cells u x ∧ facts σ u x ∧ Sep σ (own u x) h
  back : ∀ {σ : FS} {h : Frag} {u : aux} {x : α}, facts σ u x → Sep σ (own u x) h → T.rel σ h (cells u x) x
instance {α : Type} {T : Ty α} [p : Plain T] : Opn T.o where
  aux := Unit
  cells _ x := p.cells x
  own _ _ := []
  facts _ _ _ := True
  spec r := ⟨(), (p.spec _ _ _).1 r, trivial, .nil⟩
  back _ _ := (p.spec _ _ _).2 rfl
instance {α : Type} {T : Ty α} : Opn (tSl T).o where
  aux := Value
  cells u _ := [u]
  own _ _ := []
  facts σ u x := (tSl T).vrel σ u x
  spec := by
    rintro σ h cs x ⟨a, n, c, rfl, r⟩
    exact ⟨_, rfl, tSl_v.2 ⟨a, n, c, rfl, r⟩, .nil⟩
  back := by
    intro σ h u x f _
    obtain ⟨a, n, c, rfl, r⟩ := tSl_v.1 f
    exact ⟨a, n, c, rfl, r⟩
instance {α : Type} {T : OTy α} {e : TypeId} : Opn (oRow T e) where
  aux := Value
  cells u _ := [u]
  own u x := [.row T e u x]
  facts _ _ _ := True
  spec := by rintro σ h cs x ⟨v, rfl, r⟩; exact ⟨v, rfl, trivial, .one r⟩
  back := by intro σ h u x _ s; exact ⟨u, rfl, s.one_of⟩
instance {α β : Type} {A : OTy α} {B : OTy β} [a : Opn A] [b : Opn B] : Opn (oProd A B) where
  aux := a.aux × b.aux
  cells u x := a.cells u.1 x.1 ++ b.cells u.2 x.2
  own u x := a.own u.1 x.1 ++ b.own u.2 x.2
  facts σ u x := a.facts σ u.1 x.1 ∧ b.facts σ u.2 x.2
  spec := by
    rintro σ h cs x ⟨c, d, h1, h2, rfl, l1, l2, dd, p, q⟩
    obtain ⟨u, rfl, f1, s1⟩ := a.spec p
    obtain ⟨v, rfl, f2, s2⟩ := b.spec q
    exact ⟨(u, v), rfl, ⟨f1, f2⟩, s1.append s2 l1 l2 dd⟩
  back := by
    intro σ h u x f s
    obtain ⟨h1, h2, s1, s2, l1, l2, dd⟩ := s.split
    exact ⟨_, _, h1, h2, rfl, l1, l2, dd, a.back f.1 s1, b.back f.2 s2⟩
instance {α β : Type} {T : OTy α} {f : β → α} [a : Opn T] : Opn (T.comap f) where
  aux := a.aux
  cells u x := a.cells u (f x)
  own u x := a.own u (f x)
  facts σ u x := a.facts σ u (f x)
  spec r := a.spec r
  back f s := a.back f s
instance {α : Type} {T : OTy α} [a : Opn T] : Opn T.aggr where
  aux := a.aux
  cells := a.cells
  own := a.own
  facts := a.facts
  spec r := a.spec r
  back f s := a.back f s
/-- types that own nothing -/
class Fixd {α : Type} (T : OTy α) (T' : outParam (Ty α)) : Prop where
  size : T'.size = T.size
  up : ∀ {σ : FS} {h : Frag} {cs : List Value} {x : α}, T'.rel σ cs x → T.rel σ h cs x
  down : ∀ {σ : FS} {h : Frag} {cs : List Value} {x : α}, T.rel σ h cs x → T'.rel σ cs x
instance {α : Type} {T : Ty α} : Fixd T.o T := ⟨rfl, fun r => r, fun r => r⟩
instance {α β : Type} {A : OTy α} {B : OTy β} {A' : Ty α} {B' : Ty β} [a : Fixd A A'] [b : Fixd B B'] : Fixd (oProd A B) (tProd A' B') := ⟨by simp [oProd, tProd, a.size, b.size], by
    rintro σ h cs x ⟨c, d, rfl, p, q⟩; exact ⟨c, d, Frag.none, Frag.none, rfl, Frag.none_le _, Frag.none_le _, Frag.none_disj _, a.up p, b.up q⟩, by
    rintro σ h cs x ⟨c, d, h1, h2, rfl, _, _, _, p, q⟩; exact ⟨c, d, rfl, a.down p, b.down q⟩⟩
instance {α β : Type} {T : OTy α} {T' : Ty α} {f : β → α} [a : Fixd T T'] : Fixd (T.comap f) (T'.comap f) := ⟨a.size, fun r => a.up r, fun r => a.down r⟩
instance {α : Type} {T : OTy α} {T' : Ty α} [a : Fixd T T'] : Fixd T.aggr T'.aggr := ⟨a.size, fun r => a.up r, fun r => a.down r⟩
theorem Fixd.rels {α : Type} {T : OTy α} {T' : Ty α} [f : Fixd T T'] {σ : FS} {h : Frag} {cs : List Value} {xs : List α} : T.rels σ h cs xs ↔ T'.rels σ cs xs := by
  constructor
  · rintro ⟨h1, hs, h2, _⟩
    exact Ty.rels_of (by rw [h1, f.size]) fun i x hx => by rw [f.size]; exact f.down (h2 i x hx)
  · intro r
    exact ⟨by rw [← f.size]; exact T'.rels_len r, fun _ => Frag.none, fun i x hx => by rw [← f.size]; exact f.up (T'.rels_get i r hx), fun _ _ _ => Frag.none_disj _, fun _ => Frag.none_le _⟩

section
variable {ρ : Type} {n : Nat} {w0 : Start} {w : World} {σ0 σ : FS} {p : Option ρ} {G : ρ → Act → World → Prop} {L : List (Nat × Value)} {b : Nat → Value} {PV PV' : List Priv}
variable {P : Program} {ops : Array Oper} {o : Oper} {rest : List Oper}
variable {H : Option ρ → List (Nat × Value) → FS → List Priv → Prop} {d : Nat} {v : Value} {t t' ty : TypeId} {ps : String} {af : Array Edge} {g : Option (Nat × Bool)}
variable {x y z : Operand} {k : IntKind} {i j : Int}

theorem J_take {α : Type} {T : OTy α} [o : Opn T] {e : TypeId} {s : Sl α} {q : α} {C : List Priv} (hq : gidx s i = some q)
    (h : ∀ u, o.facts σ u q → J n w0 σ0 p G L b σ (.hole (fun x => .elem T (elemAddr v (i.toNat * T.size)) x) (fun x => .row T e v (s.set i x)) :: .cell (elemAddr v (i.toNat * T.size)) (o.cells u q) :: (o.own u q ++ C))) :
    J n w0 σ0 p G L b σ (.row T e v s :: C) := by
  intro r hp a w hi hf
  obtain ⟨g, hs, hg⟩ := hi.own
  obtain ⟨h1, h2, k1, k2, l1, l2, d12⟩ := hs.uncons
  have hsep := row_take (v := v) (e := e) (i := i) k1 hq
  obtain ⟨g1, g2, m1, m2, n1, n2, d3⟩ := hsep.uncons
  obtain ⟨cs, c1, c2, p1, p2, p3, p4, p5⟩ := m2.one_of
  obtain ⟨u, rfl, f, su⟩ := o.spec p5
  refine h u f r hp a w ⟨hi.sub, hi.le, hi.fresh, ⟨g, ?_, hg⟩, hi.ext⟩ hf
  have hc : Sep σ (.cell (elemAddr v (i.toNat * T.size)) (o.cells u q) :: o.own u q) g2 := .cons (p := .cell _ _) p4 su p1 p2 p3
  have hh : Sep σ (.hole (fun x => .elem T (elemAddr v (i.toNat * T.size)) x) (fun x => .row T e v (s.set i x)) :: .cell (elemAddr v (i.toNat * T.size)) (o.cells u q) :: o.own u q) h1 := .cons m1 hc n1 n2 d3
  exact Sep.append (A := .hole (fun x => .elem T (elemAddr v (i.toNat * T.size)) x) (fun x => .row T e v (s.set i x)) :: .cell (elemAddr v (i.toNat * T.size)) (o.cells u q) :: o.own u q) hh k2 l1 l2 d12
theorem Sl.set_same {α : Type} {s : Sl α} {q : α} (hq : gidx s i = some q) : s.set i q = s := by
  obtain ⟨h0, h1⟩ := gidx_some.1 hq
  unfold Sl.set
  obtain ⟨hl, he⟩ := List.getElem?_eq_some_iff.1 h1
  rw [← he, List.set_getElem_self]
theorem J_put {α : Type} {T : OTy α} [o : Opn T] {e : TypeId} {s s' : Sl α} {a : Addr} {cs : List Value} {A C : List Priv} (x : α) (u : o.aux) (hf : o.facts σ u x) (hc : o.cells u x = cs) (ho : o.own u x = A) (hs : s.set i x = s')
    (h : J n w0 σ0 p G L b σ (.row T e v s' :: C)) :
    J n w0 σ0 p G L b σ (.hole (fun x => .elem T a x) (fun x => .row T e v (s.set i x)) :: .cell a cs :: (A ++ C)) := by
  subst hc; subst ho; subst hs
  refine J_view (A := .hole (fun x => .elem T a x) (fun x => .row T e v (s.set i x)) :: .cell a (o.cells u x) :: o.own u x) (A' := [.row T e v (s.set i x)]) (fun g hg => ?_) h
  obtain ⟨g1, g2, m1, m2, l1, l2, dd⟩ := hg.uncons
  obtain ⟨c1, c2, k1, k2, n1, n2, d2⟩ := m2.uncons
  exact .one (m1 σ g2 x g (.refl _) dd ⟨_, c1, c2, n1, n2, d2, k1, o.back hf k2⟩ l1 l2)
/-- a value that is laid open, as one that owns -/
theorem opn_vrel {α : Type} {T : OTy α} [o : Opn T] {x : α} {u : o.aux} {A : List Priv} (hf : o.facts σ u x) (ho : o.own u x = A) (hv : v.cells.toList = o.cells u x) (ha : isAggV v = T.agg) :
    ∀ h, Sep σ A h → ∃ g, g.le h ∧ T.vrel σ g v x := by
  subst ho
  exact fun h k => ⟨h, .refl _, by rw [hv]; exact o.back hf k, ha⟩
theorem RelsO.nil {α : Type} {T : OTy α} {h : Frag} : RelsO T σ h [] [] := ⟨OTy.rels_nil, rfl, by simp⟩
theorem OTy.rels_single {α : Type} {T : OTy α} {h : Frag} {cs : List Value} {x : α} (r : T.rel σ h cs x) : T.rels σ h cs [x] := by
  have hl := T.len r
  refine ⟨by simp [hl], fun i => if i = 0 then h else Frag.none, fun i y hy => ?_, fun i j hij => ?_, fun i => ?_⟩
  · cases i with
    | zero =>
      simp at hy; subst hy
      simp only [if_true, Nat.zero_mul, List.drop_zero]
      rw [← hl, List.take_length]; exact r
    | succ i => simp at hy
  · show Frag.disj (if i = 0 then h else Frag.none) (if j = 0 then h else Frag.none)
    split <;> split
    · omega
    · exact Frag.disj_none _
    · exact Frag.none_disj _
    · exact Frag.none_disj _
  · show Frag.le (if i = 0 then h else Frag.none) h
    split
    · exact .refl _
    · exact Frag.none_le _
theorem relsO_cons {α : Type} {T : OTy α} {A B : List Priv} {u : Value} {vs : List Value} {x : α} {xs : List α} (h1 : ∀ h, Sep σ A h → ∃ g, g.le h ∧ T.vrel σ g u x) (h2 : ∀ h, Sep σ B h → ∃ g, g.le h ∧ RelsO T σ g vs xs) :
    ∀ h, Sep σ (A ++ B) h → ∃ g, g.le h ∧ RelsO T σ g (u :: vs) (x :: xs) := by
  intro h k
  obtain ⟨a, b, s1, s2, l1, l2, dd⟩ := k.split
  obtain ⟨g1, m1, r1⟩ := h1 a s1
  obtain ⟨g2, m2, r2, r3, r4⟩ := h2 b s2
  have d2 := dd.mono m1 m2
  refine ⟨g1.or g2, Frag.or_le (m1.trans l1) (m2.trans l2), ?_, by simp [r3], fun v hv => ?_⟩
  · have := OTy.rels_append (OTy.rels_single r1.1) r2 d2
    simpa [flatV] using this
  · rcases List.mem_cons.1 hv with rfl | hv
    · simpa using T.len r1.1
    · exact r4 v hv
theorem relsO_nil {α : Type} {T : OTy α} : ∀ h, Sep σ [] h → ∃ g, g.le h ∧ RelsO T σ g ([] : List Value) ([] : List α) := fun h _ => ⟨Frag.none, Frag.none_le _, .nil⟩
/-- a value of what is held fast -/
theorem fix_vrel {α : Type} {T : OTy α} {T' : Ty α} [f : Fixd T T'] {x : α} (ha : T'.agg = T.agg) (h : T'.vrel σ v x) : ∀ g, Sep σ [] g → ∃ k, k.le g ∧ T.vrel σ k v x := fun g _ => ⟨Frag.none, Frag.none_le _, f.up h.1, by rw [h.2, ha]⟩

/-! a store into an element of a row -/
theorem op_store_row {α : Type} {T : OTy α} {e : TypeId} {s : Sl α} {ti : TypeInfo} {q : α} {u : Value} {kk : Sl α → Option ρ} (A C : List Priv) (hi' : P.info? t = some ti) (hx : opv L b x = .pointer (some (elemAddr v (i.toNat * T.size)))) (hy : opv L b y = u)
    (hs : ti.size = T.size) (h0 : Nat.blt 0 T.size = true) (hr : ∀ h, Sep σ A h → ∃ g, g.le h ∧ T.vrel σ g u q)
    (h : ∀ s', gset s i q = some s' → H (kk s') L σ (.row T e v s' :: C)) : OpOK P n w0 σ0 ⟨none, .store t x y, ty, ps, af, g⟩ ((gset s i q).bind kk) L b σ (.row T e v s :: (A ++ C)) H := by
  intro r hp a w hi hf K Q hK
  cases hg : gset s i q with
  | none => rw [hg] at hp; cases hp
  | some s' =>
  rw [hg] at hp
  obtain ⟨h1, h2, rfl⟩ := gset_some hg
  have hT : 0 < T.size := by simpa using h0
  have hlt : i.toNat < s.xs.length := by omega
  have hq0 : gidx s i = some s.xs[i.toNat] := gidx_some.2 ⟨h1, List.getElem?_eq_getElem hlt⟩
  have hi0 : Inv w0 σ0 σ ((.row T e v s :: A) ++ C) w := hi
  refine Exists.elim (hi0.replace (R := fun w' A' => (execOp a.eval ⟨none, .store t x y, ty, ps, af, g⟩).run P w = .ok .skip w' ∧ A' = [Priv.row T e v ⟨s.xs.set i.toNat q, s.nn⟩]) ?_) ?_
  · intro hA sA subA
    obtain ⟨f1, f2, k1, k2, l1, l2, dd⟩ := Sep.uncons sA
    obtain ⟨gu, lu, ru⟩ := hr f2 k2
    obtain ⟨g1, g2, m1, m2, n1, n2, d3⟩ := (row_take (v := v) (e := e) (i := i) k1 hq0).uncons
    obtain ⟨cs, c1, c2, p1, p2, p3, p4, p5⟩ := m2.one_of
    have hcl := T.len p5
    have hul : u.cells.toList.length = T.size := T.len ru.1
    have hne : u.cells.toList ≠ [] := by intro e; rw [e] at hul; simp at hul; omega
    have l12 : c1.le hA := p1.trans (n2.trans l1)
    have hcells : ∀ j, j < u.cells.toList.length → ∃ y, c1 (elemAddr v (i.toNat * T.size)).block ((elemAddr v (i.toNat * T.size)).off + j + 1) = some (.cell y) := fun j hj =>
      ⟨_, p4.2 j _ (List.getElem?_eq_getElem (by omega))⟩
    have hlt2 : (elemAddr v (i.toNat * T.size)).block < w.heap.size := by
      obtain ⟨y, hy⟩ := hcells 0 (by omega)
      exact Bit.at_lt (subA _ _ _ (l12 _ _ _ hy))
    obtain ⟨w', j1, j2, j3⟩ := store_at (P := P) (subA.mono l12) hlt2 hcells (T.one ru.1) hne
    have dcu : c1.disj gu := dd.mono (p1.trans n2) lu
    have dcg : c1.disj g1 := (d3.mono (.refl _) p1).symm
    have hdom : ∀ b i', ((c1.put (elemAddr v (i.toNat * T.size)).block (elemAddr v (i.toNat * T.size)).off u.cells.toList) b i').isSome → (c1 b i').isSome := fun b i' hx => Frag.put_dom (fun j hj => by obtain ⟨y, hy⟩ := hcells j hj; simp [hy]) hx
    have hd' : ∀ {f : Frag}, c1.disj f → (c1.put (elemAddr v (i.toNat * T.size)).block (elemAddr v (i.toNat * T.size)).off u.cells.toList).disj f := fun {f} df b i' => by
      cases hx : c1.put (elemAddr v (i.toNat * T.size)).block (elemAddr v (i.toNat * T.size)).off u.cells.toList b i' with
      | none => exact .inl rfl
      | some y =>
        have := hdom b i' (by rw [hx]; rfl)
        rcases df b i' with z | z
        · rw [z] at this; cases this
        · exact .inr z
    have dgu : g1.disj gu := dd.mono n1 lu
    have dg : g1.disj ((c1.put (elemAddr v (i.toNat * T.size)).block (elemAddr v (i.toNat * T.size)).off u.cells.toList).or gu) := (Frag.or_disj (hd' dcg) dgu.symm).symm
    refine ⟨w', _, g1.or ((c1.put (elemAddr v (i.toNat * T.size)).block (elemAddr v (i.toNat * T.size)).off u.cells.toList).or gu), ⟨?_, rfl⟩, .one ?_, ?_, j3.mono l12, fun b i' hx => .inl ?_⟩
    · rw [hf.eval]
      have hsz : u.cells.size = T.size := by simpa using hul
      have he : (⟨(elemAddr v (i.toNat * T.size)).block, (elemAddr v (i.toNat * T.size)).off, none⟩ : Addr) = elemAddr v (i.toNat * T.size) := by
        have := p4.1
        generalize elemAddr v (i.toNat * T.size) = ad at this ⊢
        obtain ⟨b1, o1, s1⟩ := ad
        simp at this; subst this; rfl
      rw [he] at j1
      simp only [execOp, Instr.storeAt, Instr.sureAddr, hx, hy, storeVar, sizeOf, typeInfo, Sem.run_bind, Sem.run_pure, run_program, Result.andThen_ok, hi', hsz, hs, ne_eq, not_true, if_false, j1]
    · refine m1 σ _ q _ (.refl _) dg ⟨u.cells.toList, _, gu, Frag.le_or _ _, Frag.le_or_right (hd' dcu), hd' dcu, ⟨p4.1, fun j y hj => Frag.put_in hj⟩, ru.1⟩ (Frag.le_or _ _) (Frag.le_or_right dg)
    · exact Frag.or_sub (j3.frag dcg (subA.mono (n1.trans l1))) (Frag.or_sub j2 (j3.frag dcu (subA.mono (lu.trans l2))))
    · unfold Frag.or at hx
      cases hx1 : g1 b i' with
      | some y => exact (n1.trans l1).isSome (by simp [hx1])
      | none =>
        rw [hx1] at hx
        cases hx2 : c1.put (elemAddr v (i.toNat * T.size)).block (elemAddr v (i.toNat * T.size)).off u.cells.toList b i' with
        | some y => exact l12.isSome (hdom b i' (by rw [hx2]; rfl))
        | none => rw [hx2] at hx; exact (lu.trans l2).isSome (by simpa using hx)
  · rintro w' ⟨A', ⟨hrun, rfl⟩, hi2⟩
    unfold Oper.wp
    rw [hrun, Oper.upon_skip]
    exact hK _ _ σ _ _ _ hp hi2 hf (h _ hg)

/-- a pointer within an element, as one within the element's cells -/
theorem pe_add (v : Value) (j k : Nat) : Value.pointer (some (elemAddr v (j + k))) = .pointer (some ((elemAddr v j).add k)) := by rw [elemAddr_add]
/-! slices of slices that are held fast -/
theorem gslice_some {α : Type} {s s' : Sl α} {lo hi : Int} (h : gslice s lo hi = some s') : 0 ≤ lo ∧ lo ≤ hi ∧ hi ≤ s.xs.length ∧ s' = ⟨(s.xs.take hi.toNat).drop lo.toNat, s.nn⟩ := by
  unfold gslice at h
  split at h
  · cases h; simp_all
  · cases h
def optInt (L : List (Nat × Value)) (b : Nat → Value) (x : Option Operand) (dflt i : Int) : Prop :=
  match x with
  | none => i = dflt
  | some x => ∃ k, opv L b x = .int k i
theorem run_sliceBounds_opt {w : World} {isS : Bool} {m c : Nat} {lo hi : Option Operand} {i j : Int} (hl : optInt L b lo 0 i) (hh : optInt L b hi (m : Int) j) (h0 : 0 ≤ i) (h1 : i ≤ j) (h2 : j ≤ c) :
    (Instr.sliceBounds isS m c (lo.map (opv L b)) (hi.map (opv L b)) none).run P w = .ok (i.toNat, j.toNat, c) w := by
  unfold Instr.sliceBounds
  cases hi with
  | none =>
    simp only [optInt] at hh; subst hh
    cases lo with
    | none => simp only [optInt] at hl; subst hl; simp
    | some lo =>
      obtain ⟨kk, hl⟩ := hl
      have hb := fun code => run_sliceBound (P := P) w kk i m code h0 h1
      simp [hl, hb]
  | some hi =>
    obtain ⟨kh, hh⟩ := hh
    have hc := fun code => run_sliceBound (P := P) w kh j c code (by omega) h2
    cases lo with
    | none => simp only [optInt] at hl; subst hl; simp [hh, hc]
    | some lo =>
      obtain ⟨kk, hl⟩ := hl
      have hb := fun code => run_sliceBound (P := P) w kk i j.toNat code h0 (by omega)
      simp [hl, hh, hb, hc]
theorem l_slice_frozen {α : Type} {τ : FS} {T : Ty α} {s s' : Sl α} {e : TypeId} {ti : TypeInfo} {lo hi : Option Operand} {i j : Int} (hu : P.underlying t = some (.slice e)) (hi' : P.info? e = some ti) (hz : ti.size = T.size)
    (hx : opv L b x = v) (hv : (tSl T).vrel τ v s) (hl : optInt L b lo 0 i) (hh : optInt L b hi s.len j) (hs : gslice s i j = some s') :
    Reads P σ PV L b ⟨some d, .slice t x lo hi none, ty, ps, af, g⟩ (fun u => (tSl T).vrel τ u s') := by
  obtain ⟨h1, h2, h3, rfl⟩ := gslice_some hs
  obtain ⟨a, m, c, rfl, k1, k2, k3, k4, k5, cells, k6, k7⟩ := tSl_v.1 hv
  refine ⟨.slice (if (c : Int) = i then a else a.map (·.add (i.toNat * T.size))) (j - i).toNat (c - i.toNat), ?_, fun w _ => ?_⟩
  · refine tSl_v.2 ⟨_, _, _, rfl, ?_, ?_, ?_, ?_, ?_, (cells.take (j.toNat * T.size)).drop (i.toNat * T.size), ?_, ?_⟩
    · simp only [List.length_drop, List.length_take]; omega
    · rw [← k2]; split <;> simp
    · omega
    · omega
    · intro hnone
      have : a = none := by split at hnone <;> simpa using hnone
      obtain ⟨rfl, rfl⟩ := k5 this
      omega
    · exact T.rels_drop _ (T.rels_take _ k6)
    · intro q u hq
      rw [List.getElem?_drop] at hq
      have hlt : i.toNat * T.size + q < j.toNat * T.size := by
        have := (List.getElem?_eq_some_iff.1 hq).1
        simp only [List.length_take] at this; omega
      rw [List.getElem?_take_of_lt hlt] at hq
      obtain ⟨ad, rfl, hc⟩ := k7 _ _ hq
      have hne : ¬ (c : Int) = i := by
        intro e
        have : i.toNat = j.toNat := by omega
        rw [this] at hlt; omega
      refine ⟨ad.add (i.toNat * T.size), by simp [hne], ?_⟩
      rw [Addr.add_add]; exact hc
  · have hb := run_sliceBounds_opt (P := P) (w := w) (isS := true) (m := m) (c := c) hl (by rw [k1]; exact hh) h1 h2 (by omega)
    have hs2 : (Instr.sliceAt t (.slice a m c) (lo.map (opv L b)) (hi.map (opv L b)) none).run P w = .ok (.slice (if (c : Int) = i then a else a.map (·.add (i.toNat * T.size))) (j - i).toNat (c - i.toNat)) w := by
      unfold Instr.sliceAt Instr.slice
      simp only [Sem.run_bind, run_underlying hu, Result.andThen_ok]
      simp only [Sem.run_bind, Result.andThen_ok, hb, sizeOf, typeInfo, run_program, hi', Sem.run_pure, hz]
      rw [show j.toNat - i.toNat = (j - i).toNat by omega]
      by_cases hci : (c : Int) = i
      · rw [if_pos hci, if_pos (by omega)]
      · rw [if_neg hci, if_neg (by omega)]
    simp only [execOp, hx, Sem.run_bind, hs2, Result.andThen_ok, Sem.run_pure, Option.map_none]

theorem nil_vrel {α : Type} {T : Ty α} : (tSl T).vrel σ (.slice none 0 0) ⟨[], false⟩ :=
  tSl_v.2 ⟨none, 0, 0, rfl, rfl, rfl, Nat.le_refl _, Nat.zero_le _, fun _ => ⟨rfl, rfl⟩, [], rfl, fun j u h => by simp at h⟩
theorem sl_one {α : Type} {T : Ty α} {s : Sl α} (h : (tSl T).vrel σ v s) : v.oneCell' = true := by
  obtain ⟨a, m, c, rfl, _⟩ := tSl_v.1 h; simp [Value.oneCell']
theorem sl_cells {α : Type} {T : Ty α} {s : Sl α} (h : (tSl T).vrel σ v s) : v.cells.toList = [v] := by
  obtain ⟨a, m, c, rfl, _⟩ := tSl_v.1 h; rfl
theorem leaf_open {α : Type} {T : Ty α} (ha : T.agg = false) {cs : List Value} {q : α} (h : T.rel σ cs q) : ∃ v, cs = [v] ∧ T.vrel σ v q := by
  have hl := T.len h
  rw [T.sz ha] at hl
  match cs, hl with
  | [u], _ => exact ⟨u, rfl, vrel_one ha h (oneCell_notAgg (T.one h u (by simp)))⟩
theorem leaf_close {α : Type} {T : Ty α} (ha : T.agg = false) {q : α} (h : T.vrel σ v q) : T.rel σ [v] q := by
  have h1 := h.1
  have h2 := h.2
  rw [ha] at h2
  cases v <;> simp_all [Value.cells, isAggV]

/-! strings -/
theorem gsidx_some {s : ByteArray} {i c : Int} (h : gsidx s i = some c) : 0 ≤ i ∧ ∃ u : UInt8, s.data.toList[i.toNat]? = some u ∧ c = u.toNat := by
  unfold gsidx at h
  split at h
  · rename_i h0
    cases hu : s.data.toList[i.toNat]? with
    | none => rw [hu] at h; cases h
    | some u => rw [hu] at h; simp at h; exact ⟨h0, u, rfl, h.symm⟩
  · cases h
theorem r_index_string {s : ByteArray} {c : Int} (hu : P.underlying t = some .string) (hx : opv L b x = .string s) (hy : opv L b y = .int k i) (hc : gsidx s i = some c) :
    Runs P σ PV L b ⟨some d, .index t x y, ty, ps, af, g⟩ (.int .u8 c) := fun w _ => by
  obtain ⟨h0, u, h1, rfl⟩ := gsidx_some hc
  have hu' : (s[i.toNat]? : Option UInt8) = some u := by
    rw [← h1]
    obtain ⟨hl, _⟩ := List.getElem?_eq_some_iff.1 h1
    have hl2 : i.toNat < s.size := by simpa using hl
    rw [getElem?_pos s i.toNat hl2, List.getElem?_eq_getElem hl]
    rfl
  simp [execOp, hx, hy, Instr.index, asIntOf, run_underlying hu, h0, hu']
theorem beq_bytes (s u : ByteArray) : (s.toList == u.toList) = decide (s = u) := by
  rw [ByteArray.toList_eq, ByteArray.toList_eq]
  by_cases h : s = u
  · subst h; simp
  · have hd : ¬ s.data = u.data := fun e => h (by cases s; cases u; simp at e; simp [e])
    simp [h, hd]
theorem r_seql {s u : ByteArray} (hx : opv L b x = .string s) (hy : opv L b y = .string u) : Runs P σ PV L b ⟨some d, .binOp .eql t x y t', ty, ps, af, g⟩ (.bool (decide (s = u))) := fun w _ => by
  simp [execOp, hx, hy, eqGuard, binOp, Op.stringOp, ← beq_bytes]
theorem r_sneq {s u : ByteArray} (hx : opv L b x = .string s) (hy : opv L b y = .string u) : Runs P σ PV L b ⟨some d, .binOp .neq t x y t', ty, ps, af, g⟩ (.bool (decide (s ≠ u))) := fun w _ => by
  have : (decide (s ≠ u)) = !decide (s = u) := by by_cases h : s = u <;> simp [h]
  rw [this, ← beq_bytes]
  simp [execOp, hx, hy, eqGuard, binOp, Op.stringOp]
theorem gsslice_some {s s' : ByteArray} {lo hi : Int} (h : gsslice s lo hi = some s') : 0 ≤ lo ∧ lo ≤ hi ∧ hi ≤ s.size ∧ s' = s.extract lo.toNat hi.toNat := by
  unfold gsslice at h
  split at h
  · cases h; simp_all
  · cases h
theorem r_slice_string {s s' : ByteArray} {lo hi : Option Operand} {i j : Int} (hu : P.underlying t = some .string)
    (hx : opv L b x = .string s) (hl : optInt L b lo 0 i) (hh : optInt L b hi s.size j) (hs : gsslice s i j = some s') :
    Runs P σ PV L b ⟨some d, .slice t x lo hi none, ty, ps, af, g⟩ (.string s') := fun w _ => by
  obtain ⟨h1, h2, h3, rfl⟩ := gsslice_some hs
  have hb := run_sliceBounds_opt (P := P) (w := w) (isS := false) (m := s.size) (c := s.size) hl hh h1 h2 h3
  have hs2 : (Instr.sliceAt t (.string s) (lo.map (opv L b)) (hi.map (opv L b)) none).run P w = .ok (.string (s.extract i.toNat j.toNat)) w := by
    unfold Instr.sliceAt Instr.slice
    simp only [Sem.run_bind, run_underlying hu, Result.andThen_ok]
    simp [Result.andThen_ok, hb]
  simp only [execOp, hx, Sem.run_bind, hs2, Result.andThen_ok, Sem.run_pure, Option.map_none]
/-! structs by value -/
def fieldsOf (d : TypeDesc) : Array Field :=
  match d with
  | .struct fs => fs
  | _ => #[]
def fillL (pls : List (Nat × Nat)) : List Value → List (Nat × List Value) → Option (List Value)
  | cs, [] => some cs
  | cs, (i, c) :: r => match pls[i]? with
    | none => none
    | some (off, size) => bif Nat.beq c.length size && Nat.ble (off + c.length) cs.length then fillL pls (cs.take off ++ c ++ cs.drop (off + c.length)) r else none
def PCells : List (Nat × Value) → List (Nat × List Value) → Prop
  | [], [] => True
  | (i, v) :: r, (j, c) :: s => i = j ∧ v.cells.toList = c ∧ PCells r s
  | _, _ => False
theorem fill_L (pls : List (Nat × Nat)) : ∀ (ps : List (Nat × Value)) (pcs : List (Nat × List Value)) (cs : Array Value) (r : List Value), PCells ps pcs → fillL pls cs.toList pcs = some r →
    Instr.fill (fun i => pls[i]?) cs ps = some r.toArray
  | [], [], cs, r, _, h => by simp [fillL] at h; simp [Instr.fill, ← h]
  | (i, v) :: ps, (j, c) :: pcs, cs, r, ⟨e1, e2, e3⟩, h => by
    subst e1; subst e2
    simp only [fillL] at h
    simp only [Instr.fill]
    cases hp : pls[i]? with
    | none => rw [hp] at h; cases h
    | some q =>
      obtain ⟨off, size⟩ := q
      rw [hp] at h
      simp only at h ⊢
      cases hc : (Nat.beq v.cells.toList.length size && Nat.ble (off + v.cells.toList.length) cs.toList.length) with
      | false => rw [hc] at h; cases h
      | true =>
        rw [hc] at h
        simp only [Bool.and_eq_true] at hc
        have h1 : v.cells.toList.length = size := Nat.eq_of_beq_eq_true hc.1
        have h2 : off + v.cells.toList.length ≤ cs.toList.length := Nat.le_of_ble_eq_true hc.2
        have hfold := foldl_set v.cells.toList cs off 0 (by simp at h1 h2 ⊢; omega)
        rw [if_neg (by simp at h1 h2; simp [h1]; omega)]
        have e0 : (v.cells.zipIdx.foldl (fun cs (x : Value × Nat) => cs.setIfInBounds (off + x.2) x.1) cs) = (cs.toList.take off ++ v.cells.toList ++ cs.toList.drop (off + v.cells.toList.length)).toArray := by
          apply Array.toList_inj.1
          rw [← Array.foldl_toList]
          simpa using hfold
        rw [show (v.cells.zipIdx.foldl (fun cs x => match x with | (c, j) => cs.setIfInBounds (off + j) c) cs) = (v.cells.zipIdx.foldl (fun cs (x : Value × Nat) => cs.setIfInBounds (off + x.2) x.1) cs) from rfl, e0]
        exact fill_L pls ps pcs _ r e3 (by simpa using h)
theorem r_build {fs : Array Field} {ti : TypeInfo} {zv : Value} {parts : Array (Nat × Operand)} {vs : List (Nat × Value)} {pcs : List (Nat × List Value)} {pls : List (Nat × Nat)} {cs : List Value} (hu : P.underlying t = some (.struct fs)) (hi : P.info? t = some ti) (hz : ti.zero = some zv)
    (hpl : fs.toList.map (fun f => (P.info? f.type).map fun i => (f.offset, i.size)) = pls.map some) (hp : (parts.toList.map fun q => (q.1, opv L b q.2)) = vs) (hc : PCells vs pcs) (hf : fillL pls zv.cells.toList pcs = some cs) :
    Runs P σ PV L b ⟨some d, .build t parts, ty, ps, af, g⟩ (.agg cs.toArray) := fun w _ => by
  have hm : ∀ (l : List Field) (m : List (Nat × Nat)), l.map (fun f => (P.info? f.type).map fun i => (f.offset, i.size)) = m.map some →
      (l.mapM (fun f => do pure (f.offset, ← sizeOf f.type) : Field → Sem (Nat × Nat))).run P w = .ok m w := by
    intro l
    induction l with
    | nil => intro m h; cases m with
      | nil => simp
      | cons => simp at h
    | cons f l ih =>
      intro m h
      cases m with
      | nil => simp at h
      | cons q m =>
        simp only [List.map_cons, List.cons.injEq] at h
        obtain ⟨h1, h2⟩ := h
        cases hi : P.info? f.type with
        | none => rw [hi] at h1; simp at h1
        | some ti =>
          rw [hi] at h1
          simp only [Option.map_some, Option.some.injEq] at h1
          have hh : ((do pure (f.offset, ← sizeOf f.type) : Sem (Nat × Nat))).run P w = .ok q w := by simp [Sem.run_bind, sizeOf, typeInfo, hi, h1]
          rw [List.mapM_cons, Sem.run_bind, hh]
          simp only [Result.andThen_ok, Sem.run_bind, ih m h2, Sem.run_pure]
  have hma : (fs.mapM (fun f => do pure (f.offset, ← sizeOf f.type) : Field → Sem (Nat × Nat))).run P w = .ok pls.toArray w := by
    rw [Array.mapM_eq_mapM_toList]
    have h2 := hm _ _ hpl
    have h3 : ∀ (s : Sem (List (Nat × Nat))) m, s.run P w = .ok m w → (List.toArray <$> s).run P w = .ok m.toArray w := by
      intro s m hs
      show (s.bind (fun a => Sem.pure a.toArray)).run P w = _
      have := Sem.run_bind (P := P) (w := w) s (fun a => (pure a.toArray : Sem (Array (Nat × Nat))))
      refine Eq.trans this ?_
      rw [hs]; simp
    exact h3 _ _ h2
  have hpa : (parts.map fun (q : Nat × Operand) => (q.1, opv L b q.2)).toList = vs := by rw [Array.toList_map]; exact hp
  have hfill := fill_L pls vs pcs zv.cells cs hc hf
  have : (Instr.build t (parts.map fun q => (q.1, opv L b q.2))).run P w = .ok (.agg cs.toArray) w := by
    unfold Instr.build
    simp only [Sem.run_bind, zeroValue, typeInfo, run_program, Result.andThen_ok, hi, Sem.run_pure, hz, run_underlying hu, hma, hpa]
    rw [show (fun i => pls.toArray[i]?) = fun i => pls[i]? by funext i; simp]
    simp [hfill]
  simp only [execOp, Sem.run_bind, this, Result.andThen_ok, Sem.run_pure]
theorem r_field {fs : Array Field} {f : Field} {m : Nat} {td : TypeDesc} {ti : TypeInfo} {cs cs' : List Value} (hu : P.underlying t = some (.struct fs)) (hf : fs[m]? = some f) (hud : P.underlying f.type = some td) (hi : P.info? f.type = some ti)
    (hx : opv L b x = .agg cs.toArray) (hcs : (cs.drop f.offset).take ti.size = cs') (hl : cs'.length = ti.size) (h1 : aggDesc td = false → ti.size = 1) (hv : cellsVal (aggDesc td) cs' = v) :
    Runs P σ PV L b ⟨some d, .field t x m, ty, ps, af, g⟩ v := fun w _ => by
  have hagg : (Go.isAgg f.type).run P w = Result.ok (aggDesc td) w := by
    unfold Go.isAgg
    rw [Sem.run_bind, run_underlying hud]
    cases td <;> rfl
  have : (Instr.field t (.agg cs.toArray) m).run P w = .ok v w := by
    unfold Instr.field
    simp only [Sem.run_bind, run_underlying hu, Result.andThen_ok, hf, asAgg, Sem.run_pure, part, hagg]
    subst hcs
    cases hd : aggDesc td with
    | true =>
      rw [hd] at hv
      subst hv
      simp [Sem.run_bind, sizeOf, typeInfo, hi, cellsVal]
    | false =>
      rw [hd] at hv
      have h1' := h1 hd
      rw [h1'] at hl hv
      have : cs[f.offset]? = some v := by
        rw [← hv]
        have hlt : f.offset < cs.length := by
          rcases Nat.lt_or_ge f.offset cs.length with h | h
          · exact h
          · rw [List.drop_eq_nil_of_le h] at hl; simp at hl
        rw [List.getElem?_eq_getElem hlt]
        simp only [cellsVal, cond_false, List.drop_eq_getElem_cons hlt, List.take_succ_cons, List.headD_cons]
      simp [this]
  simp only [execOp, hx, Sem.run_bind, this, Result.andThen_ok, Sem.run_pure]
theorem r_convert_int {k' : IntKind} {td : TypeDesc} (hu : P.underlying t = some td) (hu' : P.underlying t' = some (.int k')) (hx : opv L b x = .int k i) : Runs P σ PV L b ⟨some d, .convert t t' x, ty, ps, af, g⟩ (.int k' (k'.wrap i)) := fun w _ => by
  simp [execOp, hx, convert, run_underlying hu, run_underlying hu', Conv.intToInt]
end
end Go.Px
