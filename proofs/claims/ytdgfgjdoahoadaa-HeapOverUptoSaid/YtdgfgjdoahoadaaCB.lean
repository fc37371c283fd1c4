/- Arrays of one's own whose elements are found by an index: rows of a fixed length. -/
import Derived.Test.YtdgfgjdoahoadaaCA
namespace Go.Px
set_option linter.unusedVariables false
section
variable {ρ : Type} {n : Nat} {w0 : Start} {σ0 σ : FS} {p : Option ρ} {L : List (Nat × Value)} {b : Nat → Value} {PV PV' : List Priv} {P : Program}
variable {H : Option ρ → List (Nat × Value) → FS → List Priv → Prop} {d : Nat} {v : Value} {t t' ty : TypeId} {ps : String} {af : Array Edge} {g : Option (Nat × Bool)} {x y : Operand} {k : IntKind} {i : Int}
theorem op_alloc_arr {α : Type} {T : OTy α} {q : α} {zv : Value} {ti : TypeInfo} (m : Nat) (cs : List Value) (hn : Nat.blt d n = true) (hi' : P.info? t = some ti) (hz : ti.zero = some zv) (hm : Nat.ble m 1000000 = true)
    (hx : zv.cells.toList = (List.replicate m cs).flatten) (hr : ∀ σ, T.rel σ Frag.none cs q) (h : ∀ c : Addr, H p ((d, .pointer (some (c.add 0))) :: L) σ (.row T t (.slice (some c) m m) ⟨List.replicate m q, true⟩ :: PV)) :
    OpOK P n w0 σ0 ⟨some d, .alloc t, ty, ps, af, g⟩ p L b σ PV H := by
  intro r hp a w hi hf K Q hK
  have hcs : cs.length = T.size := T.len (hr σ)
  have hm' : m ≤ 1000000 := Nat.le_of_ble_eq_true hm
  unfold Oper.wp
  have : (execOp a.eval ⟨some d, .alloc t, ty, ps, af, g⟩).run P w = .ok (.value (.pointer (some ⟨w.heap.size, 0, none⟩))) (w.alloc (.cells zv.cells t (0, 0))) := by
    rw [hf.eval]
    simp [execOp, Instr.alloc, zeroValue, typeInfo, hi', hz, newVar, newRow, newObj, Sem.run]
  rw [this, Oper.upon_value]
  have hlen : zv.cells.toList.length = m * T.size := by rw [hx]; simp [hcs]
  refine hK p _ σ _ _ _ hp (hi.cons (p := .row T t (.slice (some ⟨w.heap.size, 0, none⟩) m m) ⟨List.replicate m q, true⟩) (h1 := blockFrag w.heap.size t zv.cells) ?_ (blockFrag_sub (heap_push_new _ _)) (Ext_alloc _ _ _ _) fun b i hb => by rw [(blockFrag_at hb).1]; exact Nat.le_refl _) (hf.put (by simpa [Nat.blt_eq] using hn) _) (h _)
  refine .inr <| .inr ⟨w.heap.size, m, zv.cells.toList, _, Frag.none, by simp, rfl, by simp, by unfold maxLen; omega, by rw [hlen]; exact Nat.le_refl _, .refl _, ?_, fun j u hj => blockFrag_cell hj, Frag.none_le _, Frag.disj_none _, ?_⟩
  · rw [blockFrag_shape]; simp
  · simp only [List.length_replicate]
    rw [List.take_of_length_le (by omega), hx]; exact OTy.rels_replicate (hr σ) m
theorem r_index_arrow {α : Type} {T : OTy α} {s : Sl α} {q : α} {e e' : TypeId} {mm : Nat} {c : Addr} {ti : TypeInfo} (m : Nat) (hu : P.underlying t = some (.array mm e)) (hi : P.info? e = some ti) (hz : ti.size = T.size)
    (hx : opv L b x = .pointer (some (c.add 0))) (hy : opv L b y = .int k i) (hp : PV[m]? = some (.row T e' (.slice (some c) mm mm) s)) (hq : gidx s i = some q) :
    Runs P σ PV L b ⟨some d, .indexAddr t x y, ty, ps, af, g⟩ (.pointer (some (elemAddr (.slice (some c) mm mm) (i.toNat * T.size)))) := fun w hw => by
  obtain ⟨hh, hr, _⟩ := hw.get hp
  obtain ⟨a, c', hv, h1, h2, _⟩ := rowHolds.form hr
  cases hv
  have hlt := gidx_lt hq
  have hi0 := hlt.1
  have hi1 : i.toNat < s.xs.length := by omega
  have hi2 : i < (s.xs.length : Int) := hlt.2
  simp [execOp, hx, hy, Instr.indexAt, asIntOf, run_underlying hu, Instr.sureAddr, sizeOf, typeInfo, hi, hz, elemAddr, Addr.add_add, hi0, hi2]
end
end Go.Px
