/- Rows whose elements own their memory or are held fast (a flag tells which); clear; calls by views that are lent memory of one's own. -/
import Derived.Test.YtdgfgjdoahoadaaCX
namespace Go.Px
set_option linter.unusedVariables false
/-! what does not lean on the held state -/
class FreeO {α : Type} (T : OTy α) : Prop where
  free : ∀ {σ τ : FS} {h : Frag} {cs : List Value} {x : α}, T.rel σ h cs x → T.rel τ h cs x
instance {α : Type} {T : Ty α} [p : Plain T] : FreeO T.o := ⟨fun r => (p.spec _ _ _).2 ((p.spec _ _ _).1 r)⟩
theorem FreeO.rels {α : Type} {T : OTy α} [f : FreeO T] {σ τ : FS} {h : Frag} {cs : List Value} {xs : List α} (r : T.rels σ h cs xs) : T.rels τ h cs xs := by
  obtain ⟨h1, hs, h2, h3, h4⟩ := r
  exact ⟨h1, hs, fun i x hx => f.free (h2 i x hx), h3, h4⟩
theorem FreeO.row {α : Type} {T : OTy α} [f : FreeO T] {e : TypeId} {v : Value} {s : Sl α} {σ τ : FS} {h : Frag} (r : rowHolds T e v s σ h) : rowHolds T e v s τ h := by
  rcases r with r | r | ⟨q, cap, cur, hb, gg, r1, r2, r3, r4, r5, r0, r6, r7, r8, r9, r10⟩
  · exact .inl r
  · exact .inr (.inl r)
  · exact .inr (.inr ⟨q, cap, cur, hb, gg, r1, r2, r3, r4, r5, r0, r6, r7, r8, r9, f.rels r10⟩)
instance {α : Type} {T : OTy α} {e : TypeId} [f : FreeO T] : FreeO (oRow T e) := ⟨by rintro σ τ h cs x ⟨v, rfl, r⟩; exact ⟨v, rfl, f.row r⟩⟩
instance {α β : Type} {A : OTy α} {B : OTy β} [a : FreeO A] [b : FreeO B] : FreeO (oProd A B) := ⟨by
  rintro σ τ h cs x ⟨c, d, h1, h2, rfl, l1, l2, dd, p, q⟩
  exact ⟨c, d, h1, h2, rfl, l1, l2, dd, a.free p, b.free q⟩⟩
instance {α β : Type} {T : OTy α} {f : β → α} [a : FreeO T] : FreeO (T.comap f) := ⟨fun r => a.free r⟩
instance {α : Type} {T : OTy α} [a : FreeO T] : FreeO T.aggr := ⟨fun r => a.free r⟩
class FreeP (p : Priv) : Prop where
  free : ∀ {σ τ : FS} {h : Frag}, p.holds σ h → p.holds τ h
instance {a : Addr} {cs : List Value} : FreeP (.cell a cs) := ⟨fun r => r⟩
instance {α : Type} {T : OTy α} [f : FreeO T] {e : TypeId} {v : Value} {s : Sl α} : FreeP (.row T e v s) := ⟨fun r => f.row r⟩
class FreeL (A : List Priv) : Prop where
  free : ∀ {σ τ : FS} {h : Frag}, Sep σ A h → Sep τ A h
instance : FreeL [] := ⟨fun _ => .nil⟩
instance {p : Priv} {A : List Priv} [f : FreeP p] [g : FreeL A] : FreeL (p :: A) := ⟨fun r => by
  obtain ⟨h1, h2, k1, k2, l1, l2, d⟩ := r.uncons
  exact .cons (f.free k1) (g.free k2) l1 l2 d⟩
theorem FreeL.of {A : List Priv} (f : FreeL A) {σ τ : FS} {h : Frag} (r : Sep σ A h) : Sep τ A h := f.free r
/-! owned or held fast -/
theorem Frz.sizeEq {α : Type} {T : OTy α} {T' : Ty α} (f : Frz T T') : T'.size = T.size := f.size
def oEith {α : Type} (T : OTy α) (T' : Ty α) [f : Frz T T'] : OTy (α × Bool) where
  size := T.size
  agg := T.agg
  rel σ h cs x := (x.2 = true ∧ T.rel σ h cs x.1) ∨ (x.2 = false ∧ T'.rel σ cs x.1)
  len := by
    rintro σ h cs x (⟨_, r⟩ | ⟨_, r⟩)
    · exact T.len r
    · rw [T'.len r, f.size]
  mono := by
    rintro σ τ h g cs x l m (⟨e, r⟩ | ⟨e, r⟩)
    · exact .inl ⟨e, T.mono l m r⟩
    · exact .inr ⟨e, T'.mono l r⟩
  one := by
    rintro σ h cs x (⟨_, r⟩ | ⟨_, r⟩)
    · exact T.one r
    · exact T'.one r
  sz := T.sz
instance {α : Type} {T : OTy α} {T' : Ty α} [Frz T T'] [o : Opn T] : Opn (oEith T T') where
  aux := o.aux ⊕ List Value
  cells u x := match u with | .inl u => o.cells u x.1 | .inr cs => cs
  own u x := match u with | .inl u => o.own u x.1 | .inr _ => []
  facts σ u x := match u with | .inl u => x.2 = true ∧ o.facts σ u x.1 | .inr cs => x.2 = false ∧ T'.rel σ cs x.1
  spec := by
    rintro σ h cs x (⟨e, r⟩ | ⟨e, r⟩)
    · obtain ⟨u, h1, h2, h3⟩ := o.spec r
      exact ⟨.inl u, h1, ⟨e, h2⟩, h3⟩
    · exact ⟨.inr cs, rfl, ⟨e, r⟩, .nil⟩
  back := by
    rintro σ h (u | cs) x f s
    · exact .inl ⟨f.1, o.back f.2 s⟩
    · exact .inr f
def tag0 {α : Type} (xs : List α) : List (α × Bool) := xs.map fun x => (x, false)
def untag0 {α : Type} (x : α × Bool) : Option α := if x.2 then none else some x.1
def untag {α : Type} (s : Sl (α × Bool)) : Option (Sl α) := if s.xs.all (·.2) then some ⟨s.xs.map (·.1), s.nn⟩ else none
theorem untag0_hx {α : Type} {o : Option (α × Bool)} {x : α × Bool} {y : α} (h : o = some x) (k : untag0 x = some y) : o = some (y, false) := by
  obtain ⟨a, b⟩ := x
  unfold untag0 at k
  cases b <;> simp at k
  subst k; exact h
theorem source_tag {α : Type} {T : OTy α} {T' : Ty α} [f : Frz T T'] {σ : FS} {PV : List Priv} {s : Sl α} {u : Value} {A : List Priv} (hv : (tSl T').vrel σ u s) (w : World) (g : Frag) (hw : Held σ PV w) (sA : Sep σ A g) (hg : g.sub w) :
    ∃ gA news, gA.le g ∧ (oEith T T').rels σ gA news (tag0 s.xs) ∧ Source w u (tag0 s.xs).length news := by
  obtain ⟨gA, news, h1, h2, h3⟩ := source_frozen (PV := PV) (A := A) hv w g hw sA hg
  refine ⟨gA, news, h1, ?_, by unfold tag0; rw [List.length_map]; exact h3⟩
  obtain ⟨k1, hs, k2, k3, k4⟩ := h2
  refine ⟨by unfold tag0; rw [List.length_map, k1]; exact congrArg _ f.size, hs, fun i x hx => ?_, k3, k4⟩
  unfold tag0 at hx
  rw [List.getElem?_map] at hx
  obtain ⟨y, hy, rfl⟩ := Option.map_eq_some_iff.1 hx
  have := k2 i y hy
  right
  refine ⟨rfl, ?_⟩
  have hsz : (oEith T T').size = T'.o.size := f.size.symm
  rw [hsz]; exact this
section
variable {ρ : Type} {n : Nat} {w0 : Start} {σ0 σ : FS} {p : Option ρ} {L : List (Nat × Value)} {b : Nat → Value} {PV PV' : List Priv} {P : Program} {G : ρ → Act → World → Prop}
variable {H : Option ρ → List (Nat × Value) → FS → List Priv → Prop} {d : Nat} {v : Value} {t ty : TypeId} {ps : String} {af : Array Edge} {g : Option (Nat × Bool)} {x : Operand} {i : Int}
theorem J_tag_empty {α : Type} {T : OTy α} {e : TypeId} {C : List Priv} {nn : Bool} (T' : Ty α) [f : Frz T T'] (h : J n w0 σ0 p G L b σ (.row (oEith T T') e v ⟨[], nn⟩ :: C)) : J n w0 σ0 p G L b σ (.row T e v ⟨[], nn⟩ :: C) := by
  refine J_view (A := [.row T e v ⟨[], nn⟩]) (A' := [.row (oEith T T') e v ⟨[], nn⟩]) (fun g hg => .one ?_) h
  have hg : rowHolds T e v ⟨[], nn⟩ σ g := hg.one_of
  rcases hg with ⟨r1, r2⟩ | ⟨a, r1, r2⟩ | ⟨q, cap, cur, hb, gg, r1, r2, r3, r4, r5, r0, r6, r7, r8, r9, r10⟩
  · cases r2; exact .inl ⟨r1, rfl⟩
  · cases r2; exact .inr (.inl ⟨a, r1, rfl⟩)
  · refine .inr (.inr ⟨q, cap, cur, hb, gg, r1, r2, r3, r4, r5, r0, r6, r7, r8, r9, ?_⟩)
    simpa using OTy.rels_nil (T := oEith T T') (σ := σ) (h := gg)
theorem J_untag {α : Type} {T : OTy α} {T' : Ty α} [f : Frz T T'] {e : TypeId} {C : List Priv} {s : Sl (α × Bool)} {s' : Sl α} (hs : untag s = some s') (h : J n w0 σ0 p G L b σ (.row T e v s' :: C)) : J n w0 σ0 p G L b σ (.row (oEith T T') e v s :: C) := by
  refine J_view (A := [.row (oEith T T') e v s]) (A' := [.row T e v s']) (fun g hg => .one ?_) h
  have hg : rowHolds (oEith T T') e v s σ g := hg.one_of
  unfold untag at hs
  split at hs
  · rename_i hall
    cases hs
    rcases hg with ⟨r1, r2⟩ | ⟨a, r1, r2⟩ | ⟨q, cap, cur, hb, gg, r1, r2, r3, r4, r5, r0, r6, r7, r8, r9, r10⟩
    · subst r2; exact .inl ⟨r1, rfl⟩
    · subst r2; exact .inr (.inl ⟨a, r1, rfl⟩)
    · refine .inr (.inr ⟨q, cap, cur, hb, gg, by simpa using r1, r2, by simpa using r3, r4, r5, r0, r6, r7, r8, r9, ?_⟩)
      obtain ⟨k1, hs, k2, k3, k4⟩ := r10
      change (List.take (s.xs.length * T.size) cur).length = s.xs.length * T.size at k1
      refine ⟨by simpa using k1, hs, fun i x hx => ?_, k3, k4⟩
      simp only [List.getElem?_map] at hx
      obtain ⟨y, hy, rfl⟩ := Option.map_eq_some_iff.1 hx
      have hy2 : y.2 = true := by
        have := List.all_eq_true.1 hall y (List.mem_of_getElem? hy)
        simpa using this
      rcases k2 i y hy with ⟨_, r⟩ | ⟨e, _⟩
      · change T.rel σ (hs i) (List.take T.size (List.drop (i * T.size) (List.take (s.xs.length * T.size) cur))) y.1 at r
        simpa using r
      · rw [hy2] at e; cases e
  · cases hs
theorem J_take_tag {α : Type} {T : OTy α} {T' : Ty α} [f : Frz T T'] [o : Opn T] {e : TypeId} {s : Sl (α × Bool)} {q : α} {C : List Priv} (hq : gidx s i = some (q, false)) (ha : T'.agg = true)
    (h : ∀ u, T'.vrel σ u q → J n w0 σ0 p G L b σ (.hole (fun x => .elem (oEith T T') (elemAddr v (i.toNat * (oEith T T').size)) x) (fun x => .row (oEith T T') e v (s.set i x)) :: .cell (elemAddr v (i.toNat * (oEith T T').size)) u.cells.toList :: C)) :
    J n w0 σ0 p G L b σ (.row (oEith T T') e v s :: C) := by
  refine J_take (T := oEith T T') hq fun u hu => ?_
  rcases u with u | cs
  · exact absurd hu.1 (by simp)
  · have := h (.agg cs.toArray) ⟨by simpa [Value.cells] using hu.2, by rw [ha]; rfl⟩
    simpa [Value.cells, Opn.cells, Opn.own] using this
theorem op_clear_row {α : Type} {T : Ty α} [pl : Plain T] {s : Sl α} {e e' : TypeId} {ti : TypeInfo} {zv : Value} {q : α} (m : Nat) (hu : P.underlying t = some (.slice e)) (hi' : P.info? e = some ti) (hz : ti.zero = some zv) (h0 : Nat.blt 0 T.o.size = true)
    (hx : opv L b x = v) (hm : PV[m]? = some (.row T.o e' v s)) (hr : ∀ σ, T.o.rel σ Frag.none zv.cells.toList q)
    (h : H p L σ (PV.set m (.row T.o e' v ⟨List.replicate s.xs.length q, s.nn⟩))) :
    OpOK P n w0 σ0 ⟨none, .call { callee := .builtin .clear, args := #[x], argTypes := #[t] }, ty, ps, af, g⟩ p L b σ PV H := by
  intro r hp a w hinv hft K Q hK
  have hzs : zv.cells.size = T.o.size := by simpa using T.o.len (hr σ)
  have hT : 0 < T.o.size := by simpa using h0
  have key : ∃ w', (Builtin.clear_ #[t] ty #[v]).run P w = .ok (.tuple #[]) w' ∧ Inv w0 σ0 σ (PV.set m (.row T.o e' v ⟨List.replicate s.xs.length q, s.nn⟩)) w' := by
    obtain ⟨hh0, hr0, hsub⟩ := hinv.held.get hm
    have hr0 : rowHolds T.o e' v s σ hh0 := hr0
    by_cases hlen : s.xs.length = 0
    · have hnil : s.xs = [] := List.eq_nil_of_length_eq_zero hlen
      refine ⟨w, ?_, ?_⟩
      · obtain ⟨a0, c, rfl, k2, k3, k3', k4, k5⟩ := rowHolds.form hr0
        rw [hlen]
        cases a0 <;> simp [Builtin.clear_, run_underlying hu]
      · have : (⟨List.replicate s.xs.length q, s.nn⟩ : Sl α) = s := by cases s; simp at hnil; subst hnil; rfl
        rw [this]
        have hs : PV.set m (.row T.o e' v s) = PV := by
          obtain ⟨hl, he⟩ := List.getElem?_eq_some_iff.1 hm
          rw [← he, List.set_getElem_self]
        rw [hs]; exact hinv
    · have hfl := madeCells_flat zv.cells s.xs.length (by omega)
      have hcl : (Builtin.zeroCells zv.cells s.xs.length).toList = (List.replicate s.xs.length zv.cells.toList).flatten := hfl
      have hone : ∀ u ∈ (List.replicate s.xs.length zv.cells.toList).flatten, u.oneCell' = true := by
        intro u hu
        obtain ⟨l, h1, h2⟩ := List.mem_flatten.1 hu
        obtain ⟨_, rfl⟩ := List.mem_replicate.1 h1
        exact T.o.one (hr σ) u h2
      have hfn : (List.replicate s.xs.length zv.cells.toList).flatten.length = s.xs.length * T.o.size := by simp [hzs]
      rcases hr0 with ⟨rfl, rfl⟩ | ⟨aq, rfl, rfl⟩ | ⟨qb, cap, cur, hb, gg, rfl, r2, r3, r4, r5, r0, r6, r7, r8, r9, r10⟩
      · exact absurd rfl hlen
      · exact absurd rfl hlen
      have hst : ∀ h1 : Frag, rowHolds T.o e' (.slice (some ⟨qb, 0, none⟩) s.xs.length cap) s σ h1 → h1.sub w →
          ∃ w', (storeCells ⟨qb, 0, none⟩ (List.replicate s.xs.length zv.cells.toList).flatten).run P w = .ok () w' ∧ ∃ h1', rowHolds T.o e' (.slice (some ⟨qb, 0, none⟩) s.xs.length cap) ⟨List.replicate s.xs.length q, s.nn⟩ σ h1' ∧ h1'.sub w' ∧ Ext w h1 w' ∧ ∀ b i, (h1' b i).isSome → (h1 b i).isSome ∨ w.heap.size ≤ b := by
        rintro h1 (⟨c1, rfl⟩ | ⟨aq, c1, rfl⟩ | ⟨qc, cap2, cur2, hb2, g2, c1, s2, s3, s4, s5, s0, s6, s7, s8, s9, s10⟩) hsb
        · exact absurd rfl hlen
        · exact absurd rfl hlen
        cases c1
        have hfit : s.xs.length * T.o.size ≤ cur2.length := Nat.le_trans (Nat.mul_le_mul_right _ s3) s5
        have hcells : ∀ j, j < (List.replicate s.xs.length zv.cells.toList).flatten.length → ∃ u, hb2 qb (0 + j + 1) = some (.cell u) := fun j hj => ⟨_, by rw [Nat.zero_add]; exact s7 j _ (List.getElem?_eq_getElem (by rw [hfn] at hj; omega))⟩
        have hlt : qb < w.heap.size := Bit.at_lt (hsb _ _ _ (s0 _ _ _ s6))
        have hpos : 0 < s.xs.length * T.o.size := Nat.mul_pos (by omega) hT
        obtain ⟨w', j1, j2, j3⟩ := store_at (P := P) (hsb.mono s0) hlt hcells hone (by intro e; rw [e] at hfn; rw [← hfn] at hpos; exact absurd hpos (by simp))
        refine ⟨w', j1, hb2.put qb 0 (List.replicate s.xs.length zv.cells.toList).flatten, ?_, j2, j3.mono s0, fun b i hx => .inl (s0.isSome (Frag.put_dom (fun j hj => by obtain ⟨u, hu⟩ := hcells j hj; rw [hu]; rfl) hx))⟩
        refine .inr (.inr ⟨qb, cap, (List.replicate s.xs.length zv.cells.toList).flatten ++ cur2.drop (s.xs.length * T.o.size), _, Frag.none, by simp, s2, by simpa using s3, s4, ?_, .refl _, ?_, fun j u hj => ?_, Frag.none_le _, Frag.disj_none _, ?_⟩)
        · simp only [List.length_append, hfn, List.length_drop]; omega
        · rw [Frag.put_out (by omega), s6]; congr 2; simp only [List.length_append, hfn, List.length_drop]; omega
        · by_cases c1 : j < s.xs.length * T.o.size
          · rw [List.getElem?_append_left (by omega)] at hj
            have := Frag.put_in (h := hb2) (q := qb) (off := 0) hj
            rwa [Nat.zero_add] at this
          · rw [List.getElem?_append_right (by omega), hfn, List.getElem?_drop] at hj
            rw [show s.xs.length * T.o.size + (j - s.xs.length * T.o.size) = j by omega] at hj
            rw [Frag.put_out (by omega)]; exact s7 j u hj
        · simp only [List.length_replicate]
          rw [List.take_append_of_le_length (by omega), List.take_of_length_le (by omega)]
          exact OTy.rels_replicate (hr σ) _
      obtain ⟨w', j1, j2⟩ := hst hh0 (.inr (.inr ⟨qb, cap, cur, hb, gg, rfl, r2, r3, r4, r5, r0, r6, r7, r8, r9, r10⟩)) hsub
      refine ⟨w', ?_, hinv.change hm fun h1 k1 ksub => ?_⟩
      · obtain ⟨l, hl⟩ : ∃ l, s.xs.length = l + 1 := ⟨s.xs.length - 1, by omega⟩
        have : (Builtin.clear_ #[t] ty #[.slice (some ⟨qb, 0, none⟩) s.xs.length cap]).run P w = ((storeCells ⟨qb, 0, none⟩ (Builtin.zeroCells zv.cells s.xs.length).toList).run P w).andThen fun _ w => .ok (.tuple #[]) w := by
          rw [hl]
          simp [Builtin.clear_, run_underlying hu, zeroValue, typeInfo, hi', hz]
        rw [this, hcl, j1]; rfl
      · obtain ⟨w2, q1, q2⟩ := hst h1 k1 ksub
        rw [j1] at q1; cases q1; exact q2
  obtain ⟨w', hrun, hi2⟩ := key
  unfold Oper.wp
  have hrun' : (execOp a.eval ⟨none, .call { callee := .builtin .clear, args := #[x], argTypes := #[t] }, ty, ps, af, g⟩).run P w = .ok (.value (.tuple #[])) w' := by
    rw [hft.eval]; simp [execOp, resolve, invoke, builtin, hx, hrun]
  rw [hrun', Oper.upon_value]
  exact hK _ _ σ _ _ _ hp hi2 hft h
/-! a call by views that is lent memory of one's own (A), and whose results are owned -/
theorem view_row {α : Type} {T : OTy α} {T' : Ty α} [Frz T T'] {e : TypeId} {v : Value} {s : Sl α} {h : Frag} (hl : σ.le (σ.with h)) (hs : Sep σ PV h) (m : Nat) (hm : PV[m]? = some (.row T e v s)) : (tSl T').vrel (σ.with h) v s := by
  obtain ⟨h1, h2, e1, e2, _⟩ := hs.pick hm
  have e1 : rowHolds T e v s σ h1 := e1
  exact e1.fast hl fun b o v e => with_cell b o v (e2 _ _ _ e)
theorem op_call_lent {α : Type} {x : Option α} {k : α → Option ρ} {d : Nat} {f : FuncId} {fn : Func} {cl : Call} {ty : TypeId} {ps : String} {af : Array Edge} {g : Option (Nat × Bool)}
    {args : List Value} {post : FS → α → FS → List Priv → Value → Prop} {F : FS → Prop} {c : Operand} {ca : Array Value} (A C : List Priv) (hfA : FreeL A)
    (hn : Nat.blt d n = true) (hc : cl.callee = .value c) (hfv : opv L b c = .func (.func f) #[] ca) (hf : P.funcs[f]? = some fn) (hnm : (fn.name == "runtime.NumGoroutine") = false) (hb : fn.body.isNone = false)
    (ha : cl.args.toList.map (opv L b) ++ ca.toList = args)
    (hv : ∀ h, σ.le (σ.with h) → Sep σ C h → F (σ.with h))
    (hcall : ∀ y s τ, x = some y → F τ → σ.le τ → Pre s τ A → Does P f args s τ (post τ y))
    (hfree : ∀ y v τ σ' A', x = some y → F τ → σ.le τ → τ.le σ' → post τ y σ' A' v → FreeL A')
    (h : ∀ y v τ σ' A', x = some y → F τ → σ.le τ → post τ y σ' A' v → H (k y) ((d, v) :: L) σ (A' ++ C)) :
    OpOK P n w0 σ0 ⟨some d, .call cl, ty, ps, af, g⟩ (x.bind k) L b σ (A ++ C) H := by
  intro r hp a w hi hft K Q hK
  cases hx : x with
  | none => rw [hx] at hp; cases hp
  | some y =>
    rw [hx] at hp
    obtain ⟨hw, hs, hg⟩ := hi.own
    obtain ⟨h1, h2, s1, s2, e1, e2, dd⟩ := hs.split
    have g1 := hg.mono e1
    have g2 := hg.mono e2
    have hle : σ.le (σ.with h2) := fun b o v hv => by
      unfold FS.with
      split
      · rename_i x hx
        rw [g2.apart b o (by simp [hx])] at hv; cases hv
      · exact hv
    have hcase : ∀ b o v, (σ.with h2) b o = some v → σ b o = some v ∨ h2 b (o + 1) = some (.cell v) := fun b o v hv => by
      unfold FS.with at hv
      split at hv
      · rename_i x hx; cases hv; exact .inr hx
      · exact .inl hv
    have hsub : (σ.with h2).sub w := fun b o v hv => by
      rcases hcase b o v hv with q | q
      · exact hi.sub b o v q
      · obtain ⟨c, e, o', hb, ho, hc⟩ := g2.sub _ _ _ q
        obtain rfl : o = o' := by omega
        simp [World.cell?, hb, hc]
    have hF := hv h2 hle s2
    have hap : ∀ b o, (h1 b (o + 1)).isSome → (σ.with h2) b o = none := fun b o hq => by
      cases hz : (σ.with h2) b o with
      | none => rfl
      | some v =>
        rcases hcase b o v hz with q | q
        · rw [g1.apart b o hq] at q; cases q
        · rcases dd b (o + 1) with z | z
          · rw [z] at hq; cases hq
          · rw [z] at q; cases q
    have hpre : Pre ⟨w, h1⟩ (σ.with h2) A := ⟨hsub, hfA.of s1, g1.sub, hap⟩
    have hdoes := hcall y ⟨w, h1⟩ _ hx hF hle hpre
    have hrun : (execOp a.eval ⟨some d, .call cl, ty, ps, af, g⟩).run P w = .ok (.enter f args.toArray) w := by
      have ha' : cl.args.map (opv L b) ++ ca = args.toArray := by subst ha; apply Array.toList_inj.1; simp
      rw [hft.eval, ← ha']
      simp only [execOp, resolve, hc, hfv, Deferred.ofValue, Sem.run_bind, Sem.run_pure, Result.andThen_ok, invoke]
      unfold callFunc
      simp only [Sem.run_bind, run_program, Result.andThen_ok, hf, hnm, hb, Bool.false_eq_true, if_false, Sem.run_pure, Array.empty_append]
    unfold Oper.wp
    rw [hrun, Oper.upon_enter]
    refine Calls.mono hdoes ?_
    rintro e w' ⟨v, σ', A', rfl, hi', hpost⟩
    obtain ⟨g', hs', hg'⟩ := hi'.own
    have hl2 := hle.trans hi'.le
    have k2 : Inv ⟨w, h1⟩ σ σ A' w' := ⟨hl2.sub hi'.sub, .refl σ, fun _ _ _ e => .inl e, ⟨g', (hfree y v _ σ' A' hx hF hle hi'.le hpost).of hs', hg'.sub, fun q o e => by
      cases hx : σ q o with
      | none => rfl
      | some v => exact absurd (hg'.apart q o e) (by rw [hl2 q o v hx]; simp), hg'.mine⟩, hi'.ext⟩
    exact hK (k y) _ σ _ _ w' hp (hi.call hg s2 e1 e2 dd k2) (hft.put (by simpa [Nat.blt_eq] using hn) v) (h y v _ σ' A' hx hF hle hpost)
end
end Go.Px
