/- Operations that make or change memory of the call's own; what becomes held fast. -/
import Derived.Test.YtdpnogldgiomnaaB4
namespace Go.Px
set_option linter.unusedVariables false

def PlainP : List Priv → Prop
  | [] => True
  | .cell .. :: r => PlainP r
  | .row _ T _ _ _ :: r => Nonempty (Plain T) ∧ PlainP r
theorem PlainP.all : ∀ {l : List Priv}, PlainP l → ∀ p ∈ l, ∀ (σ τ : FS) B w, p.holds B σ w → p.holds B τ w
  | [], _, _, h => by simp at h
  | .cell c cs T :: r, h, p, hp => by
    rcases List.mem_cons.1 hp with rfl | hp
    · exact fun σ τ B w k => k
    · exact PlainP.all (l := r) h p hp
  | .row α T e v s :: r, ⟨⟨i⟩, h⟩, p, hp => by
    rcases List.mem_cons.1 hp with rfl | hp
    · rintro σ τ B w ⟨xs, k1, k2, k3⟩; exact ⟨xs, k1, Plain.rels k2, k3⟩
    · exact PlainP.all h p hp
theorem HeldOK.same {σ : FS} {PVr PV : List Priv} (h : SubP PVr PV) : HeldOK σ PVr σ PV := ⟨.refl σ, h.mem, fun _ _ _ _ k => k⟩
theorem HeldOK.plain {σr σ : FS} {PVr PV : List Priv} (hl : σr.le σ) (h : SubP PVr PV) (hp : PlainP PVr) : HeldOK σr PVr σ PV := ⟨hl, h.mem, fun p hm B w k => hp.all p hm σ σr B w k⟩

/-! the state -/
section
variable {w0 w : World} {σ0 σ : FS} {PV PV' : List Priv}
theorem heap_push (w : World) (o : Obj) (b : Nat) (h : b < w.heap.size) : (w.alloc o).heap[b]? = w.heap[b]? :=
  heap_alloc_old w o h
theorem heap_push_new (w : World) (o : Obj) : (w.alloc o).heap[w.heap.size]? = some o := heap_alloc_new w o
theorem frozen_alloc (w : World) (c : Array Value) (t : TypeId) (a : Addr) : (w.alloc (.cells c t (0, 0))).frozen? a = w.frozen? a := by
  by_cases h : a.block = w.heap.size
  · have h1 : (w.alloc (.cells c t (0, 0))).heap[a.block]? = some (.cells c t (0, 0)) := by rw [h]; exact heap_push_new _ _
    have h2 : w.heap[a.block]? = none := by rw [h]; simp
    simp [World.frozen?, h1, h2]
  · exact World.frozen?_alloc_old w _ a h
theorem frozen_setRow (w : World) (g : Nat) (cs : Array Value) (a : Addr) : (w.setRow g cs).frozen? a = w.frozen? a := by
  unfold World.frozen? World.setRow
  simp only [Array.getElem?_modify]
  by_cases h : g = a.block
  · rw [if_pos h]
    cases hw : w.heap[a.block]? with
    | none => simp
    | some o => cases o <;> simp
  · rw [if_neg h]
theorem Inv.alloc (h : Inv w0 σ0 σ PV w) (c : Array Value) (t : TypeId) : Inv w0 σ0 σ PV (w.alloc (.cells c t (0, 0))) := by
  refine ⟨fun b o' hb => ?_, h.le, h.fresh, fun p hp => Priv.holds_same (h.pv p hp) (.refl _) fun b hb => heap_push _ _ _ (Priv.holds_blk (h.pv p hp) hb).2, h.apart, h.nodup,
    ⟨h.ext.os, h.ext.output, h.ext.tape, Nat.le_trans h.ext.size (by simp), fun b hb => ?_, fun a => (frozen_alloc w c t a).trans (h.ext.fz a)⟩⟩
  · rw [heap_push _ _ _ (h.lt hb)]; exact h.sub b o' hb
  · rw [heap_push _ _ _ (Nat.lt_of_lt_of_le hb h.ext.size)]; exact h.ext.old b hb
theorem Inv.drewN (h : Inv w0 σ0 σ PV w) : Inv w0 σ0 σ PV w.drew := h.drew
/-- one more entry, of a block that nobody knows -/
theorem Inv.cons (h : Inv w0 σ0 σ PV w) {p : Priv} (hp : p.holds w0.heap.size σ w) (hn : ∀ b, p.blk = some b → σ b = none ∧ ∀ q ∈ PV, q.blk ≠ some b) : Inv w0 σ0 σ (p :: PV) w := by
  refine ⟨h.sub, h.le, h.fresh, ?_, ?_, ?_, h.ext⟩
  · intro q hq; rcases List.mem_cons.1 hq with rfl | hq
    · exact hp
    · exact h.pv q hq
  · intro q hq b hb; rcases List.mem_cons.1 hq with rfl | hq
    · exact (hn b hb).1
    · exact h.apart q hq b hb
  · exact List.pairwise_cons.2 ⟨fun q hq b hb => (hn b hb).2 q hq, h.nodup⟩
theorem Inv.new_block (h : Inv w0 σ0 σ PV w) : σ w.heap.size = none ∧ ∀ q ∈ PV, q.blk ≠ some w.heap.size := by
  constructor
  · cases hs : σ w.heap.size with
    | none => rfl
    | some o => have := h.lt hs; omega
  · intro q hq hb; have := (Priv.holds_blk (h.pv q hq) hb).2; omega
theorem Inv.alloc_cell (h : Inv w0 σ0 σ PV w) (cs : List Value) (T : TypeId) : Inv w0 σ0 σ (.cell w.heap.size cs T :: PV) (w.alloc (.cells cs.toArray T (0, 0))) := by
  refine (h.alloc _ _).cons ⟨heap_push_new _ _, h.ext.size⟩ ?_
  intro b hb
  simp only [Priv.blk, Option.some.injEq] at hb
  subst hb; exact h.new_block
/-- one entry's block is changed, or gives way to a new one -/
theorem Inv.change (h : Inv w0 σ0 σ PV w) {m : Nat} {p p' : Priv} {w' : World} (hm : PV[m]? = some p) (hx : w'.os = w.os ∧ w'.output = w.output ∧ w'.tape = w.tape) (hfz : ∀ a, w'.frozen? a = w.frozen? a) (hsz : w.heap.size ≤ w'.heap.size)
    (ho : ∀ b, b < w.heap.size → p.blk ≠ some b → w'.heap[b]? = w.heap[b]?) (hp : p'.holds w0.heap.size σ w') (hb : ∀ b, p'.blk = some b → p.blk = some b ∨ w.heap.size ≤ b) :
    Inv w0 σ0 σ (PV.set m p') w' := by
  have hmem := List.mem_of_getElem? hm
  have hml : m < PV.length := (List.getElem?_eq_some_iff.1 hm).1
  have hpb : ∀ b, p.blk = some b → w0.heap.size ≤ b := fun b hb => (Priv.holds_blk (h.pv p hmem) hb).1
  have hne : ∀ (k : Nat) (q : Priv), k ≠ m → PV[k]? = some q → apartP p q ∧ apartP q p := by
    intro k q hk hq
    have hpw := List.pairwise_iff_getElem.1 h.nodup
    obtain ⟨hkl, hq'⟩ := List.getElem?_eq_some_iff.1 hq
    obtain ⟨_, hp'⟩ := List.getElem?_eq_some_iff.1 hm
    rcases Nat.lt_or_gt_of_ne hk with hlt | hlt
    · have := hpw k m hkl hml hlt; rw [hq', hp'] at this
      exact ⟨fun b hb hq => this b hq hb, this⟩
    · have := hpw m k hml hkl hlt; rw [hq', hp'] at this
      exact ⟨this, fun b hb hq => this b hq hb⟩
  have hstill : ∀ (k : Nat) (q : Priv), k ≠ m → PV[k]? = some q → q.holds w0.heap.size σ w' := by
    intro k q hk hq
    refine Priv.holds_same (h.pv q (List.mem_of_getElem? hq)) (.refl _) fun b hb => ho b (Priv.holds_blk (h.pv q (List.mem_of_getElem? hq)) hb).2 ?_
    exact fun e => (hne k q hk hq).1 b e hb
  have hget : ∀ q ∈ PV.set m p', q = p' ∨ ∃ k, k ≠ m ∧ PV[k]? = some q := by
    intro q hq
    obtain ⟨k, hk⟩ := List.mem_iff_getElem?.1 hq
    rw [List.getElem?_set] at hk
    by_cases e : m = k
    · subst e; simp [hml] at hk; exact .inl hk.symm
    · simp [e] at hk; exact .inr ⟨k, fun h => e h.symm, hk⟩
  refine ⟨fun b o hb => ?_, h.le, h.fresh, ?_, ?_, ?_, ⟨hx.1.trans h.ext.os, hx.2.1.trans h.ext.output, hx.2.2.trans h.ext.tape, Nat.le_trans h.ext.size hsz, fun b hb => ?_, fun a => (hfz a).trans (h.ext.fz a)⟩⟩
  · rw [ho b (h.lt hb) (fun e => by have := h.apart p hmem b e; rw [this] at hb; cases hb)]; exact h.sub b o hb
  · intro q hq
    rcases hget q hq with rfl | ⟨k, hk, hq⟩
    · exact hp
    · exact hstill k q hk hq
  · intro q hq b hqb
    rcases hget q hq with rfl | ⟨k, hk, hq⟩
    · rcases hb b hqb with e | e
      · exact h.apart p hmem b e
      · cases hs : σ b with
        | none => rfl
        | some o => have := h.lt hs; omega
    · exact h.apart q (List.mem_of_getElem? hq) b hqb
  · rw [List.pairwise_iff_getElem]
    intro i j hi hj hij
    simp only [List.length_set] at hi hj
    rw [List.getElem_set, List.getElem_set]
    have hpw := List.pairwise_iff_getElem.1 h.nodup i j hi hj hij
    have lt_of : ∀ (k : Nat) (hk : k < PV.length) b, PV[k].blk = some b → b < w.heap.size := fun k hk b hb => (Priv.holds_blk (h.pv _ (List.getElem_mem hk)) hb).2
    by_cases e1 : m = i
    · subst e1
      rw [if_pos rfl, if_neg (by omega)]
      intro b hb' hq
      rcases hb b hb' with e | e
      · exact (hne j PV[j] (by omega) (List.getElem?_eq_getElem hj)).1 b e hq
      · have := lt_of j hj b hq; omega
    · rw [if_neg e1]
      by_cases e2 : m = j
      · subst e2
        rw [if_pos rfl]
        intro b hq hb'
        rcases hb b hb' with e | e
        · exact (hne i PV[i] (by omega) (List.getElem?_eq_getElem hi)).1 b e hq
        · have := lt_of i hi b hq; omega
      · rw [if_neg e2]; exact hpw
  · rw [ho b (Nat.lt_of_lt_of_le hb h.ext.size) (fun e => by have := hpb b e; omega)]; exact h.ext.old b hb
/-- an entry becomes held fast -/
theorem Inv.freeze (h : Inv w0 σ0 σ PV w) {m : Nat} {p : Priv} (hm : PV[m]? = some p) :
    ∃ σ' : FS, σ.le σ' ∧ (∀ b, p.blk = some b → σ' b = w.heap[b]?) ∧ Inv w0 σ0 σ' (PV.eraseIdx m) w := by
  have hmem := List.mem_of_getElem? hm
  have hsub := List.eraseIdx_sublist PV m
  have hml : m < PV.length := (List.getElem?_eq_some_iff.1 hm).1
  have hother : ∀ q ∈ PV.eraseIdx m, apartP p q := by
    intro q hq b hb hqb
    obtain ⟨k, hk, hkk⟩ := List.mem_eraseIdx_iff_getElem.1 hq
    obtain ⟨hne, hkq⟩ := hkk
    have hpw := List.pairwise_iff_getElem.1 h.nodup
    have hp' := (List.getElem?_eq_some_iff.1 hm).2
    rcases Nat.lt_or_gt_of_ne hne with hlt | hlt
    · have := hpw k m hk hml hlt; rw [hkq, hp'] at this; exact this b hqb hb
    · have := hpw m k hml hk hlt; rw [hkq, hp'] at this; exact this b hb hqb
  refine ⟨fun b => if p.blk = some b then w.heap[b]? else σ b, fun b o hb => ?_, fun b hb => by simp [hb], ?_⟩
  · have : p.blk ≠ some b := fun e => by have := h.apart p hmem b e; rw [this] at hb; cases hb
    simp [this, hb]
  · refine ⟨fun b o hb => ?_, fun b o hb => ?_, fun b o hb => ?_, fun q hq => ?_, fun q hq b hb => ?_, h.nodup.sublist hsub, h.ext⟩
    · by_cases e : p.blk = some b
      · simpa [e] using hb
      · exact h.sub b o (by simpa [e] using hb)
    · have hb' := h.le b o hb
      have : p.blk ≠ some b := fun e => by have := h.apart p hmem b e; rw [this] at hb'; cases hb'
      simp [this, hb']
    · by_cases e : p.blk = some b
      · exact .inr (Priv.holds_blk (h.pv p hmem) e).1
      · exact h.fresh b o (by simpa [e] using hb)
    · refine Priv.holds_same (h.pv q (hsub.subset hq)) (fun b o hb => ?_) fun _ _ => rfl
      have : p.blk ≠ some b := fun e => by have := h.apart p hmem b e; rw [this] at hb; cases hb
      simp [this, hb]
    · have : p.blk ≠ some b := fun e => hother q hq b e hb
      simp [this, h.apart q (hsub.subset hq) b hb]
end

section
variable {ρ : Type} {n : Nat} {w0 : World} {σ0 σ : FS} {p : Option ρ} {G : ρ → Act → World → Prop} {L : List (Nat × Value)} {b : Nat → Value} {PV PV' : List Priv}
variable {P : Program} {ops : Array Oper} {o : Oper} {rest : List Oper}
variable {H : Option ρ → List (Nat × Value) → FS → List Priv → Prop} {B d : Nat} {v : Value} {t t' ty : TypeId} {ps : String} {af : Array Edge} {g : Option (Nat × Bool)}
variable {x y z : Operand} {k : IntKind} {i j : Int}

theorem J_freeze_row {α : Type} {T : Ty α} {e : TypeId} {s : Sl α} (m : Nat) (hm : PV[m]? = some (.row α T e v s)) (hl : PV.eraseIdx m = PV')
    (h : ∀ σ', σ.le σ' → (tSl T).vrel σ' v s → J n w0 σ0 p G L b σ' PV') : J n w0 σ0 p G L b σ PV := by
  intro r hp a w hi hf
  obtain ⟨σ', hle, hblk, hi'⟩ := hi.freeze hm
  have hh := hi.pv _ (List.mem_of_getElem? hm)
  subst hl
  refine h σ' hle ?_ r hp a w hi' hf
  obtain ⟨xs, ⟨hl0, h1⟩, h2, h3⟩ := hh
  refine tSl_v.2 ?_
  rcases h1 with ⟨rfl, h1⟩ | ⟨q, cap, cur, rfl, k1, k2, k3, k4, k5, k6⟩
  · refine ⟨none, 0, 0, rfl, h1.symm, ?_, Nat.le_refl _, Nat.zero_le _, fun _ => ⟨rfl, rfl⟩, xs, T.rels_mono hle h2, ?_⟩
    · have := h3.1 rfl; simp [this]
    · intro j u hj
      have hx0 : xs = [] := List.eq_nil_of_length_eq_zero (by rw [hl0, h1]; simp)
      rw [hx0] at hj; simp at hj
  · refine ⟨_, _, _, rfl, rfl, ?_, k3, k4, (fun h => by cases h), xs, T.rels_mono hle h2, ?_⟩
    · cases hn : s.nn with
      | true => rfl
      | false => have := h3.2 hn; cases this
    · intro j u hj
      refine ⟨_, rfl, ?_⟩
      have hb := hblk q rfl
      rw [k2] at hb
      unfold FS.cell Addr.add
      rw [← k6] at hj
      have hj' : cur.toList[j]? = some u := by
        rw [List.getElem?_take] at hj
        split at hj
        · exact hj
        · cases hj
      by_cases h0 : j = 0
      · subst h0; simpa [hb] using hj'
      · simpa [h0, hb] using hj'
theorem J_freeze_cell {c : Nat} {cs : List Value} {T : TypeId} (m : Nat) (hm : PV[m]? = some (.cell c cs T)) (hl : PV.eraseIdx m = PV')
    (h : ∀ σ', σ.le σ' → (∀ (j : Nat) (u : Value), cs[j]? = some u → σ'.cell ((⟨c, 0, none⟩ : Addr).add j) = some u) → J n w0 σ0 p G L b σ' PV') : J n w0 σ0 p G L b σ PV := by
  intro r hp a w hi hf
  obtain ⟨σ', hle, hblk, hi'⟩ := hi.freeze hm
  have hh := hi.pv _ (List.mem_of_getElem? hm)
  subst hl
  refine h σ' hle ?_ r hp a w hi' hf
  intro j u hj
  have hb := hblk c rfl
  rw [hh.1] at hb
  unfold FS.cell Addr.add
  by_cases h0 : j = 0
  · subst h0; simpa [hb] using hj
  · simpa [h0, hb] using hj
/-- a nil slice is a row of one's own -/
theorem J_nil_row {α : Type} (T : Ty α) (e : TypeId) (h : J n w0 σ0 p G L b σ (.row α T e (.slice none 0 0) ⟨[], false⟩ :: PV)) : J n w0 σ0 p G L b σ PV := by
  intro r hp a w hi hf
  refine h r hp a w (hi.cons ⟨[], World.ownsRow_nil w _ e T.size, rfl, by simp⟩ ?_) hf
  intro b hb; simp [Priv.blk, Value.ownBlock] at hb

theorem op_box {cs : List Value} (hn : Nat.blt d n = true) (hx : (opv L b x).cells.toList = cs) (h : ∀ c, H p ((d, .pointer (some ⟨c, 0, none⟩)) :: L) σ (.cell c cs t :: PV)) :
    OpOK P n w0 σ0 ⟨some d, .box t x, ty, ps, af, g⟩ p L b σ PV H := by
  intro r hp a w hi hf K Q hK
  unfold Oper.wp
  have : (execOp a.eval ⟨some d, .box t x, ty, ps, af, g⟩).run P w = .ok (.value (.pointer (some ⟨w.heap.size, 0, none⟩))) (w.alloc (.cells cs.toArray t (0, 0))) := by
    subst hx; rw [hf.eval]
    simp [execOp, Instr.box, newVar, newRow, newObj, Sem.run]
  rw [this, Oper.upon_value]
  exact hK p _ σ _ _ _ hp (hi.alloc_cell cs t) (hf.put (by simpa [Nat.blt_eq] using hn) _) (h _)
theorem op_alloc {cs : List Value} {ti : TypeInfo} {zv : Value} (hn : Nat.blt d n = true) (hi' : P.info? t = some ti) (hz : ti.zero = some zv) (hx : zv.cells.toList = cs) (h : ∀ c, H p ((d, .pointer (some ⟨c, 0, none⟩)) :: L) σ (.cell c cs t :: PV)) :
    OpOK P n w0 σ0 ⟨some d, .alloc t, ty, ps, af, g⟩ p L b σ PV H := by
  intro r hp a w hi hf K Q hK
  unfold Oper.wp
  have : (execOp a.eval ⟨some d, .alloc t, ty, ps, af, g⟩).run P w = .ok (.value (.pointer (some ⟨w.heap.size, 0, none⟩))) (w.alloc (.cells cs.toArray t (0, 0))) := by
    subst hx; rw [hf.eval]
    simp [execOp, Instr.alloc, zeroValue, typeInfo, hi', hz, newVar, newRow, newObj, Sem.run]
  rw [this, Oper.upon_value]
  exact hK p _ σ _ _ _ hp (hi.alloc_cell cs t) (hf.put (by simpa [Nat.blt_eq] using hn) _) (h _)
def OneAll : List Value → Prop
  | [] => True
  | v :: r => v.oneCell' = true ∧ OneAll r
theorem OneAll.mem : ∀ {l : List Value}, OneAll l → ∀ u ∈ l, u.oneCell' = true
  | [], _, _, h => by simp at h
  | v :: r, ⟨h, k⟩, u, hu => by
    rcases List.mem_cons.1 hu with rfl | hu
    · exact h
    · exact k.mem u hu
theorem op_store_priv {c off : Nat} {cs vs cs' : List Value} {T : TypeId} {ti : TypeInfo} (m : Nat) (hi' : P.info? t = some ti) (hx : opv L b x = .pointer (some ⟨c, off, none⟩)) (hy : (opv L b y).cells.toList = vs)
    (hs : ti.size = vs.length) (h1 : OneAll vs) (hm : PV[m]? = some (.cell c cs T)) (ho : Nat.ble (off + vs.length) cs.length = true) (hcs : cs.take off ++ vs ++ cs.drop (off + vs.length) = cs') (hPV : PV.set m (.cell c cs' T) = PV')
    (h : H p L σ PV') : OpOK P n w0 σ0 ⟨none, .store t x y, ty, ps, af, g⟩ p L b σ PV H := by
  intro r hp a w hi hf K Q hK
  unfold Oper.wp
  have hh := hi.pv _ (List.mem_of_getElem? hm)
  have hst := run_storeCells_at (P := P) c off T vs 0 cs.toArray w hh.1 (by simpa using ho) h1.mem
  have hnew : (cs.take (off + 0) ++ vs ++ cs.drop (off + 0 + vs.length)).toArray = cs'.toArray := by simpa using hcs
  rw [show (cs.toArray.toList) = cs by simp, hnew] at hst
  have : (execOp a.eval ⟨none, .store t x y, ty, ps, af, g⟩).run P w = .ok .skip (w.setRow c cs'.toArray) := by
    rw [hf.eval]
    have hsz : (opv L b y).cells.size = vs.length := by rw [← hy]; simp
    simp only [execOp, Instr.storeAt, Instr.sureAddr, hx, storeVar, sizeOf, typeInfo, Sem.run_bind, Sem.run_pure, run_program, Result.andThen_ok, hi', hsz, hs, ne_eq, not_true, if_false, hy, hst]
  rw [this, Oper.upon_skip]
  subst hPV
  refine hK p L σ _ _ _ hp (hi.change hm ⟨rfl, rfl, rfl⟩ (frozen_setRow w c _) (by simp [World.setRow]) ?_ (p' := .cell c cs' T) ⟨setRow_heap w c cs.toArray cs'.toArray T (0,0) hh.1, hh.2⟩ fun b hb => .inl hb) hf h
  intro b' hb hne
  exact setRow_other w c b' _ (fun e => hne (by rw [e]; rfl))
/-- a call of append on a row of one's own, of cells that stand somewhere -/
theorem inv_append {α : Type} {T : Ty α} {s : Sl α} {e : TypeId} {m : Nat} {w w' : World} {v' : Value} {s' : Sl α} {news : List Value} {q : Nat} {ts : List α} (hi : Inv w0 σ0 σ PV w) (hm : PV[m]? = some (.row α T e v s))
    (hown : w'.ownsRow w0.heap.size e T.size v' (s.xs.length + q) news) (hg : w.grownBy w' v.ownBlock) (hr : T.rels σ news (s.xs ++ ts)) (hq : ts.length = q) (hs : s' = ⟨s.xs ++ ts, s.nn || !ts.isEmpty⟩)
    (hnil : v' = .slice none 0 0 ↔ v = .slice none 0 0 ∧ q = 0) (hb : ∀ b, v'.ownBlock = some b → v.ownBlock = some b ∨ w.heap.size ≤ b) (hfz : ∀ a, w'.frozen? a = w.frozen? a) :
    Inv w0 σ0 σ (PV.set m (.row α T e v' s')) w' := by
  have hh := hi.pv _ (List.mem_of_getElem? hm)
  refine hi.change hm ⟨hg.os, hg.output, hg.tape⟩ hfz hg.size (fun b hb hne => hg.block b hb (fun e => hne e.symm)) ?_ hb
  subst hs
  refine ⟨news, by simpa [hq] using hown, hr, ?_⟩
  obtain ⟨_, _, _, h3⟩ := hh
  rw [hnil, h3]
  subst hq
  cases hn : s.nn <;> cases ts <;> simp
end
end Go.Px
