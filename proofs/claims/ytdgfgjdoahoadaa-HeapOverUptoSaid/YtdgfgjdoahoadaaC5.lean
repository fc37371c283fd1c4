/- Operations that make or change memory of the call's own; what becomes held fast; an element taken out of a row and put back. -/
import Derived.Test.YtdgfgjdoahoadaaC4
namespace Go.Px
set_option linter.unusedVariables false

theorem heap_push (w : World) (o : Obj) (b : Nat) (h : b < w.heap.size) : (w.alloc o).heap[b]? = w.heap[b]? := heap_alloc_old w o h
theorem heap_push_new (w : World) (o : Obj) : (w.alloc o).heap[w.heap.size]? = some o := heap_alloc_new w o
theorem frozen_alloc (w : World) (c : Array Value) (t : TypeId) (a : Addr) : (w.alloc (.cells c t (0, 0))).frozen? a = w.frozen? a := by
  by_cases h : a.block = w.heap.size
  · have h1 : (w.alloc (.cells c t (0, 0))).heap[a.block]? = some (.cells c t (0, 0)) := by rw [h]; exact heap_push_new _ _
    have h2 : w.heap[a.block]? = none := by rw [h]; simp
    simp [World.frozen?, h1, h2]
  · exact World.frozen?_alloc_old w _ a h
theorem frozen_setRow (w : World) (g : Nat) (cs : Array Value) (a : Addr) : (w.setRow g cs).frozen? a = w.frozen? a := by
  unfold World.frozen? World.setRow
  simp only [Array.getElem?_modify]
  by_cases h : g = a.block
  · rw [if_pos h]
    cases hw : w.heap[a.block]? with
    | none => simp
    | some o => cases o <;> simp
  · rw [if_neg h]
/-- the whole of a block -/
def blockFrag (q : Nat) (e : TypeId) (c : Array Value) : Frag := fun b k => if b = q then (match k with | 0 => some (.shape e c.size) | j + 1 => (c[j]?).map .cell) else none
theorem blockFrag_sub {w : World} {q : Nat} {e : TypeId} {c : Array Value} (h : w.heap[q]? = some (.cells c e (0, 0))) : (blockFrag q e c).sub w := by
  intro b k x hx
  unfold blockFrag at hx
  split at hx
  · rename_i hb; subst hb
    cases k with
    | zero => simp at hx; subst hx; exact ⟨c, h, rfl, rfl⟩
    | succ j =>
      simp only at hx
      cases hc : c[j]? with
      | none => rw [hc] at hx; cases hx
      | some v => rw [hc] at hx; cases hx; exact ⟨c, e, j, h, rfl, hc⟩
  · cases hx
theorem blockFrag_at {q : Nat} {e : TypeId} {c : Array Value} {b k : Nat} (h : (blockFrag q e c b k).isSome) : b = q ∧ (k = 0 ∨ k - 1 < c.size) := by
  unfold blockFrag at h
  split at h
  · rename_i hb
    refine ⟨hb, ?_⟩
    cases k with
    | zero => exact .inl rfl
    | succ j =>
      right
      simp only [Option.isSome_map] at h
      obtain ⟨x, hx⟩ := Option.isSome_iff_exists.1 h
      simpa using (Array.getElem?_eq_some_iff.1 hx).1
  · cases h
theorem blockFrag_shape (q : Nat) (e : TypeId) (c : Array Value) : blockFrag q e c q 0 = some (.shape e c.size) := by simp [blockFrag]
theorem blockFrag_cell {q : Nat} {e : TypeId} {c : Array Value} {j : Nat} {u : Value} (h : c.toList[j]? = some u) : blockFrag q e c q (j + 1) = some (.cell u) := by
  have : c[j]? = some u := by simpa using h
  simp [blockFrag, this]
theorem Ext_alloc (w : World) (c : Array Value) (t : TypeId) (h : Frag) : Ext w h (w.alloc (.cells c t (0, 0))) :=
  ⟨rfl, rfl, rfl, by simp, fun b => .same fun hb => heap_push _ _ _ hb, fun a => frozen_alloc w c t a⟩
/-- cells of a block are set, all within what is owned -/
theorem Ext_setRow {w : World} {q : Nat} {c c' : Array Value} {e : TypeId} {f : Nat × Nat} {h : Frag} (hq : w.heap[q]? = some (.cells c e f)) (hs : c'.size = c.size) (hc : ∀ o, h q (o + 1) = none → c'[o]? = c[o]?) : Ext w h (w.setRow q c') := by
  refine ⟨rfl, rfl, rfl, by simp [World.setRow], fun b => ?_, fun a => frozen_setRow w q c' a⟩
  by_cases hb : b = q
  · subst hb
    refine ⟨fun c1 e1 f1 h1 => ?_, fun x hx hn => ?_⟩
    · rw [hq] at h1; cases h1
      exact ⟨c', setRow_heap w b c c' e f hq, hs, hc⟩
    · rw [hq] at hx; cases hx; cases hn
  · exact .same fun _ => setRow_other w q b c' hb

section
variable {ρ : Type} {n : Nat} {w0 : Start} {σ0 σ : FS} {p : Option ρ} {G : ρ → Act → World → Prop} {L : List (Nat × Value)} {b : Nat → Value} {PV PV' : List Priv}
variable {P : Program} {ops : Array Oper} {o : Oper} {rest : List Oper}
variable {H : Option ρ → List (Nat × Value) → FS → List Priv → Prop} {B d : Nat} {v : Value} {t t' ty : TypeId} {ps : String} {af : Array Edge} {g : Option (Nat × Bool)}
variable {x y z : Operand} {k : IntKind} {i j : Int}

theorem Inv.alloc_cell {w : World} (h : Inv w0 σ0 σ PV w) (cs : List Value) (T : TypeId) : Inv w0 σ0 σ (.cell ⟨w.heap.size, 0, none⟩ cs :: PV) (w.alloc (.cells cs.toArray T (0, 0))) := by
  refine h.cons (h1 := blockFrag w.heap.size T cs.toArray) ⟨rfl, fun j u hj => ?_⟩ (blockFrag_sub (heap_push_new _ _)) (Ext_alloc _ _ _ _) fun b i hb => by rw [(blockFrag_at hb).1]; exact Nat.le_refl _
  simp only [Nat.zero_add]; exact blockFrag_cell (by simpa using hj)
/-- what is owned, held fast -/
class Frz {α : Type} (T : OTy α) (T' : outParam (Ty α)) : Prop where
  size : T'.size = T.size
  agg : T'.agg = T.agg
  spec : ∀ {σ τ : FS} {h : Frag} {cs : List Value} {x : α}, σ.le τ → (∀ b o v, h b (o + 1) = some (.cell v) → τ b o = some v) → T.rel σ h cs x → T'.rel τ cs x
instance {α : Type} {T : Ty α} : Frz T.o T := ⟨rfl, rfl, fun l _ r => T.mono l r⟩
theorem Frz.rels {α : Type} {T : OTy α} {T' : Ty α} [f : Frz T T'] {σ τ : FS} {h : Frag} {cs : List Value} {xs : List α} (l : σ.le τ) (hh : ∀ b o v, h b (o + 1) = some (.cell v) → τ b o = some v) (r : T.rels σ h cs xs) : T'.rels τ cs xs := by
  obtain ⟨h1, hs, h2, h3, h4⟩ := r
  refine Ty.rels_of (by rw [h1, f.size]) fun i x hx => ?_
  rw [f.size]
  exact f.spec l (fun b o v e => hh b o v (h4 i _ _ _ e)) (h2 i x hx)
theorem rowHolds.fast {α : Type} {T : OTy α} {T' : Ty α} [f : Frz T T'] {e : TypeId} {v : Value} {s : Sl α} {σ τ : FS} {h : Frag} (l : σ.le τ) (hh : ∀ b o v, h b (o + 1) = some (.cell v) → τ b o = some v) (r : rowHolds T e v s σ h) : (tSl T').vrel τ v s := by
  refine tSl_v.2 ?_
  rcases r with ⟨rfl, rfl⟩ | ⟨a, rfl, rfl⟩ | ⟨q, cap, cur, hb, gg, rfl, r2, r3, r4, r5, r0, r6, r7, r8, r9, r10⟩
  · exact ⟨none, 0, 0, rfl, rfl, rfl, Nat.le_refl _, Nat.zero_le _, fun _ => ⟨rfl, rfl⟩, [], rfl, fun j u hj => by simp at hj⟩
  · exact ⟨some a, 0, 0, rfl, rfl, rfl, Nat.le_refl _, Nat.zero_le _, (fun h => by cases h), [], rfl, fun j u hj => by simp at hj⟩
  · refine ⟨_, _, _, rfl, rfl, by simp [r2], r3, r4, (fun h => by cases h), cur.take (s.xs.length * T.size), f.rels l (fun b o v e => hh b o v (r8 _ _ _ e)) r10, fun j u hj => ⟨_, rfl, ?_⟩⟩
    rw [Addr.add_eq _ rfl]
    rw [List.getElem?_take] at hj
    split at hj
    · simpa [FS.cell] using hh _ _ _ (r0 _ _ _ (r7 j u hj))
    · cases hj
instance {α : Type} {T : OTy α} {T' : Ty α} {e : TypeId} [f : Frz T T'] : Frz (oRow T e) (tSl T') := ⟨rfl, rfl, by
  rintro σ τ h cs x l hh ⟨v, rfl, r⟩
  have := r.fast l hh
  obtain ⟨a, m, c, rfl, q⟩ := tSl_v.1 this
  exact ⟨a, m, c, rfl, q⟩⟩
instance {α β : Type} {A : OTy α} {B : OTy β} {A' : Ty α} {B' : Ty β} [f : Frz A A'] [k : Frz B B'] : Frz (oProd A B) (tProd A' B') := ⟨by simp [oProd, tProd, f.size, k.size], rfl, by
  rintro σ τ h cs x l hh ⟨c, d, h1, h2, rfl, l1, l2, dd, p, q⟩
  exact ⟨c, d, rfl, f.spec l (fun b o v e => hh b o v (l1 _ _ _ e)) p, k.spec l (fun b o v e => hh b o v (l2 _ _ _ e)) q⟩⟩
instance {α β : Type} {T : OTy α} {T' : Ty α} {g : β → α} [f : Frz T T'] : Frz (T.comap g) (T'.comap g) := ⟨f.size, f.agg, fun l hh r => f.spec l hh r⟩
instance {α : Type} {T : OTy α} {T' : Ty α} [f : Frz T T'] : Frz T.aggr T'.aggr := ⟨f.size, rfl, fun l hh r => f.spec l hh r⟩
theorem with_cell {σ : FS} {h : Frag} (b o : Nat) (v : Value) (e : h b (o + 1) = some (.cell v)) : (σ.with h) b o = some v := by simp [FS.with, e]
theorem J_freeze_row {α : Type} {T : OTy α} {T' : Ty α} [Frz T T'] {e : TypeId} {s : Sl α} (m : Nat) (hm : PV[m]? = some (.row T e v s)) (hl : PV.eraseIdx m = PV')
    (h : ∀ σ', σ.le σ' → (tSl T').vrel σ' v s → J n w0 σ0 p G L b σ' PV') : J n w0 σ0 p G L b σ PV := by
  intro r hp a w hi hf
  obtain ⟨h1, hh, hsub, hle, hi'⟩ := hi.freeze hm
  subst hl
  have hh : rowHolds T e v s σ h1 := hh
  exact h _ hle (hh.fast hle fun b o v e => with_cell b o v e) r hp a w hi' hf
theorem J_freeze_cell {a : Addr} {cs : List Value} (m : Nat) (hm : PV[m]? = some (.cell a cs)) (hl : PV.eraseIdx m = PV')
    (h : ∀ σ', σ.le σ' → (∀ (j : Nat) (u : Value), cs[j]? = some u → σ'.cell (a.add j) = some u) → J n w0 σ0 p G L b σ' PV') : J n w0 σ0 p G L b σ PV := by
  intro r hp ac w hi hf
  obtain ⟨h1, hh, hsub, hle, hi'⟩ := hi.freeze hm
  subst hl
  have hh : cellHolds a cs h1 := hh
  refine h _ hle (fun j u hj => ?_) r hp ac w hi' hf
  rw [Addr.add_eq _ hh.1]
  simpa [FS.cell] using with_cell (σ := σ) _ _ _ (hh.2 j u hj)
/-- a nil slice is a row of one's own -/
theorem J_nil_row {α : Type} (T : OTy α) (e : TypeId) (h : J n w0 σ0 p G L b σ (.row T e (.slice none 0 0) ⟨[], false⟩ :: PV)) : J n w0 σ0 p G L b σ PV := by
  intro r hp a w hi hf
  exact h r hp a w (hi.sub_own fun g k => .cons (h1 := Frag.none) (.inl ⟨rfl, rfl⟩) k (Frag.none_le _) (.refl _) (Frag.none_disj _)) hf

theorem op_box {cs : List Value} (hn : Nat.blt d n = true) (hx : (opv L b x).cells.toList = cs) (h : ∀ c : Addr, H p ((d, .pointer (some (c.add 0))) :: L) σ (.cell c cs :: PV)) :
    OpOK P n w0 σ0 ⟨some d, .box t x, ty, ps, af, g⟩ p L b σ PV H := by
  intro r hp a w hi hf K Q hK
  unfold Oper.wp
  have : (execOp a.eval ⟨some d, .box t x, ty, ps, af, g⟩).run P w = .ok (.value (.pointer (some ⟨w.heap.size, 0, none⟩))) (w.alloc (.cells cs.toArray t (0, 0))) := by
    subst hx; rw [hf.eval]
    simp [execOp, Instr.box, newVar, newRow, newObj, Sem.run]
  rw [this, Oper.upon_value]
  exact hK p _ σ _ _ _ hp (hi.alloc_cell cs t) (hf.put (by simpa [Nat.blt_eq] using hn) _) (h _)
theorem op_alloc {cs : List Value} {ti : TypeInfo} {zv : Value} (hn : Nat.blt d n = true) (hi' : P.info? t = some ti) (hz : ti.zero = some zv) (hx : zv.cells.toList = cs) (h : ∀ c : Addr, H p ((d, .pointer (some (c.add 0))) :: L) σ (.cell c cs :: PV)) :
    OpOK P n w0 σ0 ⟨some d, .alloc t, ty, ps, af, g⟩ p L b σ PV H := by
  intro r hp a w hi hf K Q hK
  unfold Oper.wp
  have : (execOp a.eval ⟨some d, .alloc t, ty, ps, af, g⟩).run P w = .ok (.value (.pointer (some ⟨w.heap.size, 0, none⟩))) (w.alloc (.cells cs.toArray t (0, 0))) := by
    subst hx; rw [hf.eval]
    simp [execOp, Instr.alloc, zeroValue, typeInfo, hi', hz, newVar, newRow, newObj, Sem.run]
  rw [this, Oper.upon_value]
  exact hK p _ σ _ _ _ hp (hi.alloc_cell cs t) (hf.put (by simpa [Nat.blt_eq] using hn) _) (h _)
def OneAll : List Value → Prop
  | [] => True
  | v :: r => v.oneCell' = true ∧ OneAll r
theorem OneAll.mem : ∀ {l : List Value}, OneAll l → ∀ u ∈ l, u.oneCell' = true
  | [], _, _, h => by simp at h
  | v :: r, ⟨h, k⟩, u, hu => by
    rcases List.mem_cons.1 hu with rfl | hu
    · exact h
    · exact k.mem u hu
/-- a fragment in which some cells of a block are set anew -/
def Frag.put (h : Frag) (q off : Nat) (vs : List Value) : Frag := fun b k => if b = q ∧ off < k ∧ k ≤ off + vs.length then (vs[k - 1 - off]?).map .cell else h b k
theorem Frag.put_in {h : Frag} {q off : Nat} {vs : List Value} {j : Nat} {u : Value} (hj : vs[j]? = some u) : h.put q off vs q (off + j + 1) = some (.cell u) := by
  have hl := (List.getElem?_eq_some_iff.1 hj).1
  unfold Frag.put
  rw [if_pos ⟨rfl, by omega, by omega⟩, show off + j + 1 - 1 - off = j by omega, hj]; rfl
theorem Frag.put_out {h : Frag} {q off : Nat} {vs : List Value} {b k : Nat} (hc : ¬ (b = q ∧ off < k ∧ k ≤ off + vs.length)) : h.put q off vs b k = h b k := by
  unfold Frag.put; rw [if_neg hc]
theorem Frag.put_dom {h : Frag} {q off : Nat} {vs : List Value} (hall : ∀ j, j < vs.length → (h q (off + j + 1)).isSome) {b k : Nat} (hx : (h.put q off vs b k).isSome) : (h b k).isSome := by
  by_cases hc : b = q ∧ off < k ∧ k ≤ off + vs.length
  · obtain ⟨rfl, h1, h2⟩ := hc
    have := hall (k - 1 - off) (by omega)
    rwa [show off + (k - 1 - off) + 1 = k by omega] at this
  · rwa [Frag.put_out hc] at hx
/-- cells of a block are set: what is owned then -/
theorem setRow_put {w : World} {h : Frag} {q off : Nat} {vs : List Value} {c : Array Value} {e : TypeId} (hs : h.sub w) (hb : w.heap[q]? = some (.cells c e (0, 0))) (hfit : off + vs.length ≤ c.size) (hcells : ∀ j, j < vs.length → ∃ u, h q (off + j + 1) = some (.cell u)) :
    (h.put q off vs).sub (w.setRow q (c.toList.take off ++ vs ++ c.toList.drop (off + vs.length)).toArray) ∧ Ext w h (w.setRow q (c.toList.take off ++ vs ++ c.toList.drop (off + vs.length)).toArray) := by
  have hget : ∀ o, (c.toList.take off ++ vs ++ c.toList.drop (off + vs.length)).toArray[o]? = if off ≤ o ∧ o < off + vs.length then vs[o - off]? else c[o]? := by
    intro o
    have htl : (c.toList.take off).length = off := by simp; omega
    simp only [List.getElem?_toArray]
    by_cases h1 : o < off
    · rw [if_neg (by omega), List.append_assoc, List.getElem?_append_left (by omega), List.getElem?_take_of_lt h1]; simp
    · by_cases h2 : o < off + vs.length
      · rw [if_pos ⟨by omega, h2⟩, List.append_assoc, List.getElem?_append_right (by omega), htl, List.getElem?_append_left (by omega)]
      · rw [if_neg (by omega), List.getElem?_append_right (by simp; omega), List.getElem?_drop]
        simp only [List.length_append, htl]
        rw [show off + vs.length + (o - (off + vs.length)) = o by omega]; simp
  have hsize : (c.toList.take off ++ vs ++ c.toList.drop (off + vs.length)).toArray.size = c.size := by simp; omega
  refine ⟨?_, Ext_setRow hb hsize fun o ho => ?_⟩
  · intro b k x hx
    have hnew := setRow_heap w q c (c.toList.take off ++ vs ++ c.toList.drop (off + vs.length)).toArray e (0, 0) hb
    by_cases hc : b = q ∧ off < k ∧ k ≤ off + vs.length
    · obtain ⟨rfl, h1, h2⟩ := hc
      unfold Frag.put at hx
      rw [if_pos ⟨rfl, h1, h2⟩] at hx
      have hlt2 : k - 1 - off < vs.length := by omega
      rw [List.getElem?_eq_getElem hlt2] at hx
      cases hx
      refine ⟨_, e, k - 1, hnew, by omega, ?_⟩
      rw [hget, if_pos ⟨by omega, by omega⟩, List.getElem?_eq_getElem hlt2]
    · rw [Frag.put_out hc] at hx
      have := hs b k x hx
      by_cases hbq : b = q
      · subst hbq
        cases x with
        | cell v =>
          obtain ⟨c', e', o', h1, rfl, h3⟩ := this
          rw [hb] at h1; cases h1
          refine ⟨_, e, o', hnew, rfl, ?_⟩
          rw [hget, if_neg (fun h => hc ⟨rfl, by omega, by omega⟩)]; exact h3
        | shape e' n' =>
          obtain ⟨c', h1, rfl, h3⟩ := this
          rw [hb] at h1; cases h1
          exact ⟨_, hnew, rfl, hsize.trans h3⟩
        | obj o => obtain ⟨h1, _, h3⟩ := this; rw [hb] at h1; cases h1; cases h3
      · have ho := setRow_other w q b (c.toList.take off ++ vs ++ c.toList.drop (off + vs.length)).toArray hbq
        cases x with
        | cell v => obtain ⟨c', e', o', h1, h2, h3⟩ := this; exact ⟨c', e', o', ho.trans h1, h2, h3⟩
        | shape e' n' => obtain ⟨c', h1, h2, h3⟩ := this; exact ⟨c', ho.trans h1, h2, h3⟩
        | obj o => obtain ⟨h1, h2, h3⟩ := this; exact ⟨ho.trans h1, h2, h3⟩
  · rw [hget, if_neg]
    rintro ⟨h1, h2⟩
    obtain ⟨u, hu⟩ := hcells (o - off) (by omega)
    rw [show off + (o - off) + 1 = o + 1 by omega, ho] at hu; cases hu
/-- a store of some cells at an address of one's own -/
theorem store_at {w : World} {h : Frag} {q off : Nat} {vs : List Value} (hs : h.sub w) (hlt : q < w.heap.size) (hcells : ∀ j, j < vs.length → ∃ u, h q (off + j + 1) = some (.cell u)) (hone : ∀ u ∈ vs, u.oneCell' = true) (hne : vs ≠ []) :
    ∃ w', (storeCells ⟨q, off, none⟩ vs).run P w = .ok () w' ∧ (h.put q off vs).sub w' ∧ Ext w h w' := by
  obtain ⟨u0, hu0⟩ := hcells 0 (by cases vs with | nil => exact absurd rfl hne | cons => simp)
  obtain ⟨c, e, o0, hb, _, _⟩ := hs _ _ _ hu0
  have hin : ∀ j, j < vs.length → off + j < c.size := fun j hj => by
    obtain ⟨u, hu⟩ := hcells j hj
    obtain ⟨c', e', o', hb', h2, h3⟩ := hs _ _ _ hu
    rw [hb] at hb'; cases hb'
    obtain rfl : off + j = o' := by omega
    exact (Array.getElem?_eq_some_iff.1 h3).1
  have hfit : off + 0 + vs.length ≤ c.size := by
    have hl : 0 < vs.length := by cases vs with | nil => exact absurd rfl hne | cons => simp
    have := hin (vs.length - 1) (by omega)
    omega
  have hst := run_storeCells_at (P := P) q off e vs 0 c w hb hfit hone
  simp only [Nat.add_zero] at hst hfit
  have hst2 : (storeCells ⟨q, off, none⟩ vs).run P w = .ok () (w.setRow q (c.toList.take off ++ vs ++ c.toList.drop (off + vs.length)).toArray) := hst
  exact ⟨_, hst2, setRow_put hs hb hfit hcells⟩
theorem op_store_priv {a : Addr} {off : Nat} {cs vs cs' : List Value} {ti : TypeInfo} (m : Nat) (hi' : P.info? t = some ti) (hx : opv L b x = .pointer (some (a.add off))) (hy : (opv L b y).cells.toList = vs)
    (hs : ti.size = vs.length) (h1 : OneAll vs) (hm : PV[m]? = some (.cell a cs)) (ho : Nat.ble (off + vs.length) cs.length = true) (hcs : cs.take off ++ vs ++ cs.drop (off + vs.length) = cs') (hPV : PV.set m (.cell a cs') = PV') (h0 : Nat.blt 0 vs.length = true)
    (h : H p L σ PV') : OpOK P n w0 σ0 ⟨none, .store t x y, ty, ps, af, g⟩ p L b σ PV H := by
  intro r hp ac w hi hf K Q hK
  unfold Oper.wp
  have ho' : off + vs.length ≤ cs.length := Nat.le_of_ble_eq_true ho
  have hsz : (opv L b y).cells.size = vs.length := by rw [← hy]; simp
  subst hPV
  have key : ∃ w', (storeCells (a.add off) vs).run P w = .ok () w' ∧ Inv w0 σ0 σ (PV.set m (.cell a cs')) w' := by
    obtain ⟨hh, hsep, hg⟩ := hi.own
    obtain ⟨h1', h2', e1, e2, e3, e4, e5, _⟩ := hsep.pick hm
    have e1 : cellHolds a cs h1' := e1
    have hne : vs ≠ [] := by intro e; subst e; simp at h0
    have hcells : ∀ g, cellHolds a cs g → ∀ j, j < vs.length → ∃ u, g a.block (a.off + off + j + 1) = some (.cell u) := fun g hg j hj => by
      have hlt : off + j < cs.length := by omega
      exact ⟨_, by rw [show a.off + off + j = a.off + (off + j) by omega]; exact hg.2 (off + j) _ (List.getElem?_eq_getElem hlt)⟩
    have hlt : a.block < w.heap.size := by
      obtain ⟨u, hu⟩ := hcells _ e1 0 (by cases vs with | nil => exact absurd rfl hne | cons => simp)
      exact Bit.at_lt (hg.sub _ _ _ (e2 _ _ _ hu))
    obtain ⟨w', k1, k2, k3⟩ := store_at (P := P) (hg.sub.mono e2) hlt (hcells _ e1) h1.mem hne
    rw [Addr.add_eq a e1.1]
    refine ⟨w', k1, hi.change hm fun g hg' hgs => ?_⟩
    have hg' : cellHolds a cs g := hg'
    obtain ⟨w'', j1, j2, j3⟩ := store_at (P := P) hgs hlt (hcells _ hg') h1.mem hne
    rw [k1] at j1; cases j1
    refine ⟨_, ⟨hg'.1, fun j u hj => ?_⟩, j2, j3, fun b i hx => .inl (Frag.put_dom (fun j hj => by obtain ⟨u, hu⟩ := hcells _ hg' j hj; simp [hu]) hx)⟩
    subst hcs
    have htl : (cs.take off).length = off := by simp; omega
    by_cases c1 : j < off
    · rw [List.append_assoc, List.getElem?_append_left (by omega), List.getElem?_take_of_lt c1] at hj
      rw [Frag.put_out (by omega)]; exact hg'.2 j u hj
    · by_cases c2 : j < off + vs.length
      · rw [List.append_assoc, List.getElem?_append_right (by omega), htl, List.getElem?_append_left (by omega)] at hj
        rw [show a.off + j + 1 = a.off + off + (j - off) + 1 by omega]; exact Frag.put_in hj
      · rw [List.getElem?_append_right (by simp; omega), List.getElem?_drop] at hj
        simp only [List.length_append, htl] at hj
        rw [show off + vs.length + (j - (off + vs.length)) = j by omega] at hj
        rw [Frag.put_out (by omega)]; exact hg'.2 j u hj
  obtain ⟨w', hst, hi2⟩ := key
  have : (execOp ac.eval ⟨none, .store t x y, ty, ps, af, g⟩).run P w = .ok .skip w' := by
    rw [hf.eval]
    simp only [execOp, Instr.storeAt, Instr.sureAddr, hx, storeVar, sizeOf, typeInfo, Sem.run_bind, Sem.run_pure, run_program, Result.andThen_ok, hi', hsz, hs, ne_eq, not_true, if_false, hy, hst]
  rw [this, Oper.upon_skip]
  exact hK p L σ _ _ _ hp hi2 hf h
end
end Go.Px
