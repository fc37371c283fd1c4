/- Slices of the call's own: make, literals, append, stores; slices of slices; strings. -/
import Derived.Test.YtdpnogldgiomnaaB5
namespace Go.Px
set_option linter.unusedVariables false

section
variable {ρ : Type} {n : Nat} {w0 w : World} {σ0 σ : FS} {p : Option ρ} {G : ρ → Act → World → Prop} {L : List (Nat × Value)} {b : Nat → Value} {PV PV' : List Priv}
variable {P : Program} {ops : Array Oper} {o : Oper} {rest : List Oper}
variable {H : Option ρ → List (Nat × Value) → FS → List Priv → Prop} {B d : Nat} {v : Value} {t t' ty : TypeId} {ps : String} {af : Array Edge} {g : Option (Nat × Bool)}
variable {x y z : Operand} {k : IntKind} {i j : Int}

theorem rels_replicate {α : Type} {T : Ty α} {c : List Value} {q : α} (h : T.rel σ c q) : ∀ m, T.rels σ ((List.replicate m c).flatten) (List.replicate m q)
  | 0 => rfl
  | m + 1 => ⟨c, _, rfl, h, rels_replicate h m⟩
theorem madeCells_flat (z : Array Value) (m : Nat) (hz : 0 < z.size) : (madeCells z (m * z.size)).toList = (List.replicate m z.toList).flatten := by
  apply List.ext_getElem?
  intro q
  have hl : (List.replicate m z.toList).flatten.length = m * z.size := by simp
  by_cases hq : q < m * z.size
  · have h1 : (madeCells z (m * z.size)).toList[q]? = some (z[q % z.size]!) := by
      simp [madeCells, hq]
    rw [h1]
    clear h1 hl
    induction m generalizing q with
    | zero => simp at hq
    | succ m ih =>
      simp only [List.replicate_succ, List.flatten_cons]
      by_cases h : q < z.size
      · rw [List.getElem?_append_left (by simpa using h), Nat.mod_eq_of_lt h]
        simp [h]
      · rw [List.getElem?_append_right (by simpa using h)]
        simp only [Array.length_toList]
        rw [← ih (q - z.size) (by rw [Nat.add_mul] at hq; omega)]
        congr 2
        conv => lhs; rw [show q = (q - z.size) + z.size by omega]
        rw [Nat.add_mod_right]
  · rw [List.getElem?_eq_none (by simp [size_madeCells]; omega), List.getElem?_eq_none (by rw [hl]; omega)]

theorem gmake_some {α : Type} {bytes : Nat} {i : Int} {q : α} {s : Sl α} (h : gmake bytes i q = some s) : 0 ≤ i ∧ bytes * i.toNat ≤ 140737488355328 ∧ i ≤ 140737488355328 ∧ s = ⟨List.replicate i.toNat q, true⟩ := by
  unfold gmake at h
  split at h
  · cases h; simp_all
  · cases h
theorem op_make {α : Type} {T : Ty α} {e : TypeId} {q : α} {zv : Value} {ti : TypeInfo} {k' : IntKind} {kk : Sl α → Option ρ} (hn : Nat.blt d n = true) (hu : P.underlying t = some (.slice e)) (hi' : P.info? e = some ti) (hz : ti.zero = some zv) (hsz : ti.size = T.size)
    (h0 : Nat.blt 0 T.size = true) (hx : opv L b x = .int k i) (hy : opv L b y = .int k' i) (hr : ∀ σ, T.rel σ zv.cells.toList q)
    (h : ∀ s v, gmake ti.bytes i q = some s → H (kk s) ((d, v) :: L) σ (.row α T e v s :: PV)) :
    OpOK P n w0 σ0 ⟨some d, .makeSlice t x y, ty, ps, af, g⟩ ((gmake ti.bytes i q).bind kk) L b σ PV H := by
  intro r hp a w hi hf K Q hK
  cases hm : gmake ti.bytes i q with
  | none => rw [hm] at hp; cases hp
  | some s =>
    rw [hm] at hp
    obtain ⟨h1, h2, h3, rfl⟩ := gmake_some hm
    obtain ⟨m, rfl⟩ : ∃ m : Nat, i = (m : Int) := ⟨i.toNat, by omega⟩
    simp only [Int.toNat_natCast] at h2 hm hp
    obtain ⟨w', hrun, hown, hg⟩ := run_make_full (P := P) w w0.heap.size t e ti zv T.size hu hi' hz hsz k k' m (by omega) (by unfold maxLen; omega) hi.ext.size
    have hfz : ∀ a, w'.frozen? a = w.frozen? a := by
      have h2 := run_make (P := P) w t e ti zv hu hi' hz k k' (m : Int) (m : Int) (by omega) (by omega) (Int.ofNat_le.2 (Nat.le_trans h2 (by decide) : ti.bytes * m ≤ 281474976710656)) (by omega)
      rw [hrun] at h2; cases h2; exact frozen_alloc w _ _
    have hzs : zv.cells.size = T.size := by simpa using T.len (hr σ)
    have hT : 0 < T.size := by simpa using h0
    have hblk : Priv.blk (.row α T e (.slice (some ⟨w.heap.size, 0, none⟩) m m) ⟨List.replicate m q, true⟩) = some w.heap.size := rfl
    have hbase : Inv w0 σ0 σ PV w' := by
      have hb : ∀ b, b < w.heap.size → w'.heap[b]? = w.heap[b]? := fun b hb => hg.block b hb (by simp)
      exact ⟨fun b o hb' => by rw [hb b (hi.lt hb')]; exact hi.sub b o hb', hi.le, hi.fresh, fun p hp => Priv.holds_same (hi.pv p hp) (.refl _) fun b hb' => hb b (Priv.holds_blk (hi.pv p hp) hb').2, hi.apart, hi.nodup,
        ⟨hg.os.trans hi.ext.os, hg.output.trans hi.ext.output, hg.tape.trans hi.ext.tape, Nat.le_trans hi.ext.size hg.size, fun b hb' => (hb b (Nat.lt_of_lt_of_le hb' hi.ext.size)).trans (hi.ext.old b hb'), fun a => (hfz a).trans (hi.ext.fz a)⟩⟩
    have hnew := hi.new_block
    unfold Oper.wp
    have hrun' : (execOp a.eval ⟨some d, .makeSlice t x y, ty, ps, af, g⟩).run P w = .ok (.value (.slice (some ⟨w.heap.size, 0, none⟩) m m)) w' := by
      rw [hf.eval]; simp [execOp, hx, hy, hrun]
    rw [hrun', Oper.upon_value]
    refine hK _ _ σ _ _ _ hp (hbase.cons (p := .row α T e (.slice (some ⟨w.heap.size, 0, none⟩) m m) ⟨List.replicate m q, true⟩) ⟨_, by simpa using hown, ?_, by simp⟩ ?_) (hf.put (by simpa [Nat.blt_eq] using hn) _) (h _ _ (by rw [hm]))
    · rw [← hzs, madeCells_flat _ _ (by omega)]
      exact rels_replicate (hr σ) m
    · intro b hb
      rw [hblk] at hb; cases hb; exact hnew

/-! slice literals -/
def RelsV {α : Type} (T : Ty α) (σ : FS) : List Value → List α → Prop
  | [], [] => True
  | v :: vs, x :: xs => T.vrel σ v x ∧ RelsV T σ vs xs
  | _, _ => False
def flatV (vs : List Value) : List Value := (vs.map fun v => v.cells.toList).flatten
theorem RelsV.rels {α : Type} {T : Ty α} : ∀ {vs : List Value} {xs : List α}, RelsV T σ vs xs → T.rels σ (flatV vs) xs
  | [], [], _ => rfl
  | v :: vs, x :: xs, ⟨h, k⟩ => ⟨_, _, rfl, h.1, RelsV.rels k⟩
theorem RelsV.len {α : Type} {T : Ty α} : ∀ {vs : List Value} {xs : List α}, RelsV T σ vs xs → vs.length = xs.length
  | [], [], _ => rfl
  | v :: vs, x :: xs, ⟨h, k⟩ => by simp [RelsV.len k]
theorem RelsV.size {α : Type} {T : Ty α} : ∀ {vs : List Value} {xs : List α}, RelsV T σ vs xs → ∀ v ∈ vs, v.cells.size = T.size
  | [], [], _, _, h => by simp at h
  | v :: vs, x :: xs, ⟨h, k⟩, u, hu => by
    rcases List.mem_cons.1 hu with rfl | hu
    · simpa using T.len h.1
    · exact RelsV.size k u hu
def enumV : Nat → List Value → List (Nat × Value)
  | _, [] => []
  | m, v :: r => (m, v) :: enumV (m + 1) r
theorem foldl_set (c : List Value) : ∀ (cs : Array Value) (off k : Nat), off + k + c.length ≤ cs.size →
    ((c.zipIdx k).foldl (fun a (q : Value × Nat) => a.setIfInBounds (off + q.2) q.1) cs).toList = cs.toList.take (off + k) ++ c ++ cs.toList.drop (off + k + c.length) := by
  induction c with
  | nil => intro cs off k h; simp
  | cons u c ih =>
    intro cs off k h
    simp only [List.length_cons] at h
    simp only [List.zipIdx_cons, List.foldl_cons]
    rw [ih _ off (k + 1) (by simp; omega)]
    have h2 : off + k < cs.toList.length := by simp; omega
    simp only [Array.toList_setIfInBounds, List.length_cons]
    rw [show off + (k + 1) = off + k + 1 by omega, List.take_succ_eq_append_getElem (by simp; omega)]
    rw [List.take_set_of_le (by omega), List.drop_set_of_lt (by omega)]
    simp [show off + k + 1 + c.length = off + k + (c.length + 1) by omega]
theorem fill_all (size : Nat) : ∀ (vs : List Value) (m : Nat) (cs : Array Value), (∀ v ∈ vs, v.cells.size = size) → (m + vs.length) * size ≤ cs.size →
    ∃ r : Array Value, Instr.fill (fun i => some (i * size, size)) cs (enumV m vs) = some r ∧ r.toList = cs.toList.take (m * size) ++ flatV vs ++ cs.toList.drop ((m + vs.length) * size)
  | [], m, cs, _, _ => ⟨cs, rfl, by simp [flatV]⟩
  | v :: vs, m, cs, h, hs => by
    have hv := h v (by simp)
    have hvs : (m + (vs.length + 1)) * size = m * size + size + vs.length * size := by simp only [Nat.add_mul, Nat.one_mul]; omega
    simp only [List.length_cons] at hs
    have hfit : m * size + v.cells.size ≤ cs.size := by rw [hv]; omega
    have hfold := foldl_set v.cells.toList cs (m * size) 0 (by simp; omega)
    have hmz : (m + 1) * size = m * size + size := by rw [Nat.add_mul]; simp
    have hcells : v.cells.toList.length = size := by simp [hv]
    obtain ⟨r, hr, hrl⟩ := fill_all size vs (m + 1) ((v.cells.toList.zipIdx 0).foldl (fun a (q : Value × Nat) => a.setIfInBounds (m * size + q.2) q.1) cs) (fun u hu => h u (by simp [hu])) (by
      have hsz : ((v.cells.toList.zipIdx 0).foldl (fun a (q : Value × Nat) => a.setIfInBounds (m * size + q.2) q.1) cs).size = cs.size := by
        rw [← Array.length_toList, hfold]; simp; omega
      rw [hsz, Nat.add_mul, hmz]; omega)
    refine ⟨r, ?_, ?_⟩
    · have e0 : (v.cells.zipIdx.foldl (fun cs (x : Value × Nat) => cs.setIfInBounds (m * size + x.2) x.1) cs) = (v.cells.toList.zipIdx 0).foldl (fun a (q : Value × Nat) => a.setIfInBounds (m * size + q.2) q.1) cs := by
        rw [← Array.foldl_toList]; simp
      simp only [enumV, Instr.fill]
      rw [if_neg (by simp [hv]; omega)]
      rw [← hr]
      exact congrArg (fun q => Instr.fill _ q _) e0
    · rw [hrl, hfold, hmz]
      simp only [Nat.add_zero, hcells]
      have h1 : (cs.toList.take (m * size) ++ v.cells.toList).length = m * size + size := by simp [hv]; omega
      have h2 : (cs.toList.take (m * size) ++ v.cells.toList ++ cs.toList.drop (m * size + size)).take (m * size + size) = cs.toList.take (m * size) ++ v.cells.toList := by rw [← h1, List.take_left]
      have h3 : (cs.toList.take (m * size) ++ v.cells.toList ++ cs.toList.drop (m * size + size)).drop ((m + 1 + vs.length) * size) = cs.toList.drop ((m + (v :: vs).length) * size) := by
        rw [show (m + 1 + vs.length) * size = (m * size + size) + vs.length * size by rw [Nat.add_mul, hmz], ← List.drop_drop]
        rw [show (cs.toList.take (m * size) ++ v.cells.toList ++ cs.toList.drop (m * size + size)).drop (m * size + size) = cs.toList.drop (m * size + size) by rw [← h1, List.drop_left]]
        rw [List.drop_drop]; congr 1; simp only [List.length_cons]; omega
      rw [h2, h3]
      simp [flatV, List.append_assoc]
theorem op_buildSlice {α : Type} {T : Ty α} {e : TypeId} {m : Nat} {parts : Array (Nat × Operand)} {vs : List Value} {xs : List α} {ti : TypeInfo} {zv : Value} (hn : Nat.blt d n = true) (hu : P.underlying t = some (.slice e)) (hi' : P.info? e = some ti)
    (hz : ti.zero = some zv) (hsz : ti.size = T.size) (h24 : Nat.ble (m * T.size) 16777216 = true) (h0 : Nat.blt 0 T.size = true) (hp : (parts.toList.map fun q => (q.1, opv L b q.2)) = enumV 0 vs) (hm : vs.length = m) (hr : RelsV T σ vs xs)
    (h : ∀ v, H p ((d, v) :: L) σ (.row α T e v ⟨xs, true⟩ :: PV)) : OpOK P n w0 σ0 ⟨some d, .buildSlice t m parts, ty, ps, af, g⟩ p L b σ PV H := by
  intro r hpr a w hi hf K Q hK
  have hT : 0 < T.size := by simpa using h0
  have hml : m = xs.length := by rw [← hm]; exact hr.len
  have h24' : m * T.size ≤ 16777216 := by simpa using h24
  unfold Oper.wp
  have hrun' : (execOp a.eval ⟨some d, .buildSlice t m parts, ty, ps, af, g⟩).run P w = .ok (.value (.slice (some ⟨w.heap.size, 0, none⟩) m m)) (w.alloc (.cells (flatV vs).toArray e (0, 0))) := by
    rw [hf.eval]
    have hpl : (parts.map fun (q : Nat × Operand) => (q.1, opv L b q.2)).toList = enumV 0 vs := by rw [Array.toList_map]; exact hp
    have hfl : (flatV vs).length = m * T.size := by have := T.rels_len hr.rels; rw [this, hml]
    have key : ∀ zero : Array Value, Instr.fill (fun i => some (i * T.size, T.size)) ((Array.range (m * T.size)).map (zero[· % zero.size]!)) (parts.map fun (q : Nat × Operand) => (q.1, opv L b q.2)).toList = some (flatV vs).toArray := by
      intro zero
      obtain ⟨r, hr1, hr2⟩ := fill_all T.size vs 0 ((Array.range (m * T.size)).map (zero[· % zero.size]!)) hr.size (by simp [← hm])
      have hr3 : r = (flatV vs).toArray := by
        apply Array.toList_inj.1
        rw [hr2, List.drop_eq_nil_of_le (by simp [← hm])]
        simp
      rw [hpl, hr1, hr3]
    have hb : (Instr.buildSlice t m (parts.map fun q => (q.1, opv L b q.2))).run P w = .ok (.slice (some ⟨w.heap.size, 0, none⟩) m m) (w.alloc (.cells (flatV vs).toArray e (0, 0))) := by
      unfold Instr.buildSlice
      simp only [Sem.run_bind, run_underlying hu, Result.andThen_ok, sizeOf, typeInfo, run_program, hi', Sem.run_pure, hsz]
      rw [if_neg (by omega)]
      by_cases h00 : m * T.size = 0
      · rw [if_pos h00]
        simp only [Sem.run_bind, Sem.run_pure, Result.andThen_ok, key]
        simp [newRow, newObj, Sem.run]
      · rw [if_neg h00]
        simp only [Sem.run_bind, Sem.run_pure, Result.andThen_ok, zeroValue, typeInfo, run_program, hi', hz, key]
        simp [newRow, newObj, Sem.run]
    simp only [execOp, Sem.run_bind, hb, Result.andThen_ok, Sem.run_pure]
  rw [hrun', Oper.upon_value]
  have hal := hi.alloc (flatV vs).toArray e
  refine hK p _ σ _ _ _ hpr (hal.cons (p := .row α T e (.slice (some ⟨w.heap.size, 0, none⟩) m m) ⟨xs, true⟩) ⟨flatV vs, ?_, hr.rels, by simp⟩ ?_) (hf.put (by simpa [Nat.blt_eq] using hn) _) (h _)
  · have hsz2 : (flatV vs).length = m * T.size := by rw [T.rels_len hr.rels, hml]
    refine ⟨by rw [hsz2, hml], .inr ⟨_, m, (flatV vs).toArray, by rw [hml], hi.ext.size, heap_push_new _ _, by rw [hml]; exact Nat.le_refl _, ?_, by simp [hsz2], ?_⟩⟩
    · have : m ≤ m * T.size := Nat.le_mul_of_pos_right m hT
      unfold maxLen; omega
    · simp only [← hml, ← hsz2, List.take_length]
  · intro b hb
    have : b = w.heap.size := by simpa [Priv.blk, Value.ownBlock] using hb.symm
    subst this
    exact hi.new_block

/-! append -/
theorem gapp_some {α : Type} {bytes : Nat} {s s' : Sl α} {ts : List α} (h : gapp bytes s ts = some s') : (s.xs.length + ts.length) * bytes ≤ 140737488355328 ∧ s.xs.length + ts.length ≤ 140737488355328 ∧ s' = ⟨s.xs ++ ts, s.nn || !ts.isEmpty⟩ := by
  unfold gapp at h
  split at h
  · cases h; simp_all
  · cases h
/-- what is appended: cells that stand at an address -/
def Source (w : World) (u : Value) (m : Nat) (news : List Value) : Prop :=
  (u = .slice none 0 0 ∧ m = 0 ∧ news = []) ∨ ∃ a c, u = .slice (some a) m c ∧ ∀ (j : Nat) (q : Value), news[j]? = some q → w.cell? (a.add j) = some q
theorem run_append_any {α : Type} {T : Ty α} {e : TypeId} {s : Sl α} {ti : TypeInfo} {zv u : Value} {ts : List α} {news : List Value} {m : Nat} (hu : P.underlying t = some (.slice e)) (hi' : P.info? e = some ti)
    (hz : ti.zero = some zv) (hzs : zv.cells.size = T.size) (hsz : ti.size = T.size) (h0 : 0 < T.size) (hi : Inv w0 σ0 σ PV w) (hm : PV[m]? = some (.row α T e v s)) (hr : T.rels σ news ts) (hs : Source w u ts.length news)
    (hb : (s.xs.length + ts.length) * ti.bytes ≤ 140737488355328) (hb2 : s.xs.length + ts.length ≤ 140737488355328) :
    ∃ v' w', (Builtin.append_ #[t, t] ty #[v, u]).run P w = .ok v' w' ∧ Inv w0 σ0 σ (PV.set m (.row α T e v' ⟨s.xs ++ ts, s.nn || !ts.isEmpty⟩)) w' := by
  have hh := hi.pv _ (List.mem_of_getElem? hm)
  obtain ⟨xs, hown, hrx, hnil⟩ := hh
  rcases hs with ⟨rfl, hl0, rfl⟩ | ⟨ad, c, rfl, hcells⟩
  · have hts : ts = [] := List.eq_nil_of_length_eq_zero hl0
    subst hts
    refine ⟨v, w, run_append_owned_none (P := P) w _ t ty e ti T.size hu hi' v _ xs hown, ?_⟩
    have hset : PV.set m (.row α T e v s) = PV := by
      apply List.ext_getElem?
      intro q
      rw [List.getElem?_set]
      split
      · rename_i e; subst e
        obtain ⟨hl, he⟩ := List.getElem?_eq_some_iff.1 hm
        simp [hl, he]
      · rfl
    simp only [List.append_nil, List.isEmpty_nil, Bool.not_true, Bool.or_false]
    rw [show (⟨s.xs, s.nn⟩ : Sl α) = s by cases s; rfl, hset]; exact hi
  · have hl : news.length = ts.length * T.size := T.rels_len hr
    obtain ⟨v', w', hrun, hown', hg, hn'⟩ := run_append_own (P := P) w w0.heap.size t ty e ti zv T.size ti.bytes hu hi' hz hsz rfl hzs h0 v s.xs.length xs hown ad ts.length c news hl hcells (T.rels_one hr) (by unfold maxLen; omega) hb hi.ext.size
    have hblk : (∀ b, v'.ownBlock = some b → v.ownBlock = some b ∨ w.heap.size ≤ b) ∧ ∀ a, w'.frozen? a = w.frozen? a := by
      rcases hown.2 with ⟨rfl, hx0⟩ | ⟨q, cap, cur, rfl, k1, k2, k3, k4, k5, k6⟩
      · have hown2 : w.ownsRow w.heap.size e T.size (.slice none 0 0) s.xs.length xs := ⟨hown.1, .inl ⟨rfl, hx0⟩⟩
        obtain ⟨v2, w2, hrun2, hown2', _⟩ := run_append_own (P := P) w w.heap.size t ty e ti zv T.size ti.bytes hu hi' hz hsz rfl hzs h0 (.slice none 0 0) s.xs.length xs hown2 ad ts.length c news hl hcells (T.rels_one hr) (by unfold maxLen; omega) hb (Nat.le_refl _)
        rw [hrun] at hrun2; cases hrun2
        refine ⟨fun b hb => .inr (hown2'.lt b hb).1, ?_⟩
        by_cases hm0 : ts.length = 0
        · have hn0 : news = [] := List.eq_nil_of_length_eq_zero (by rw [hl, hm0]; simp)
          have : (Builtin.append_ #[t, t] ty #[.slice none 0 0, .slice (some ad) ts.length c]).run P w = .ok (.slice none 0 0) w := by
            simp [Builtin.append_, run_underlying hu, sizeOf, typeInfo, hi', Builtin.lenOf, Builtin.firstCells, loadCells, loadCellsFrom, hm0]
          rw [hrun] at this; cases this; exact fun _ => rfl
        · have hr3 := run_append_nil (P := P) w t ty e ti zv hu hi' hz ad ts.length c news (by rw [hsz]; exact hl) hcells (by omega) (by omega) (by have : ts.length * ti.bytes ≤ (s.xs.length + ts.length) * ti.bytes := Nat.mul_le_mul_right _ (by omega); omega)
          rw [hrun] at hr3; cases hr3; exact frozen_alloc _ _ _
      · by_cases hroom : s.xs.length + ts.length ≤ cap
        · have hfit : s.xs.length * ti.size + news.length ≤ cur.size := by rw [hl, k5, hsz, ← Nat.add_mul]; exact Nat.mul_le_mul_right _ hroom
          have hr2 := run_append_room (P := P) w t ty e ti hu hi' q s.xs.length cap cur k2 ad ts.length c news (by rw [hsz]; exact hl) hcells (T.rels_one hr) hroom hfit
          rw [hrun] at hr2; cases hr2
          exact ⟨fun b hb => .inl hb, frozen_setRow w q _⟩
        · have holds : ∀ j u, xs[j]? = some u → w.cell? ((⟨q, 0, none⟩ : Addr).add j) = some u := hown.cells (g := q) rfl
          have hr2 := run_append_grow (P := P) w t ty e ti zv hu hi' hz ⟨q, 0, none⟩ s.xs.length cap xs (by rw [hsz]; exact hown.1) holds ad ts.length c news (by rw [hsz]; exact hl) hcells (by omega) (by omega) (growslice_fits (by omega) hb)
          rw [hrun] at hr2; cases hr2
          refine ⟨fun b hb => ?_, frozen_alloc _ _ _⟩
          simp only [Value.ownBlock, Option.some.injEq] at hb
          subst hb; right; simp
    exact ⟨v', w', hrun, inv_append hi hm hown' hg (T.rels_append hrx hr) rfl rfl hn' hblk.1 hblk.2⟩
/-- append onto a row of one's own -/
theorem op_append {α : Type} {T : Ty α} {e : TypeId} {s : Sl α} {ti : TypeInfo} {zv : Value} {ts : List α} {u : Value} {kk : Sl α → Option ρ} (m : Nat) (hn : Nat.blt d n = true) (hu : P.underlying t = some (.slice e)) (hi' : P.info? e = some ti)
    (hz : ti.zero = some zv) (hzs : zv.cells.size = T.size) (hsz : ti.size = T.size) (h0 : Nat.blt 0 T.size = true) (hx : opv L b x = v) (hy : opv L b y = u) (hm : PV[m]? = some (.row α T e v s))
    (hs : ∀ w, Inv w0 σ0 σ PV w → ∃ news, T.rels σ news ts ∧ Source w u ts.length news)
    (h : ∀ s' v', gapp ti.bytes s ts = some s' → H (kk s') ((d, v') :: L) σ (PV.set m (.row α T e v' s'))) :
    OpOK P n w0 σ0 ⟨some d, .call { callee := .builtin .append, args := #[x, y], argTypes := #[t, t] }, ty, ps, af, g⟩ ((gapp ti.bytes s ts).bind kk) L b σ PV H := by
  intro r hp a w hi hf K Q hK
  cases hg : gapp ti.bytes s ts with
  | none => rw [hg] at hp; cases hp
  | some s' =>
    rw [hg] at hp
    obtain ⟨h1, h2, rfl⟩ := gapp_some hg
    obtain ⟨news, hr, hsrc⟩ := hs w hi
    obtain ⟨v', w', hrun, hi2⟩ := run_append_any (P := P) (ty := ty) hu hi' hz hzs hsz (by simpa using h0) hi hm hr hsrc h1 h2
    unfold Oper.wp
    have hrun' : (execOp a.eval ⟨some d, .call { callee := .builtin .append, args := #[x, y], argTypes := #[t, t] }, ty, ps, af, g⟩).run P w = .ok (.value v') w' := by
      rw [hf.eval]; simp [execOp, resolve, invoke, builtin, hx, hy, hrun]
    rw [hrun', Oper.upon_value]
    exact hK _ _ σ _ _ _ hp hi2 (hf.put (by simpa [Nat.blt_eq] using hn) _) (h _ _ hg)
theorem source_frozen {α : Type} {T : Ty α} {s : Sl α} {u : Value} (hv : (tSl T).vrel σ u s) (w : World) (hi : Inv w0 σ0 σ PV w) : ∃ news, T.rels σ news s.xs ∧ Source w u s.xs.length news := by
  obtain ⟨a, m, c, rfl, h1, h2, h3, h4, h5, cells, h6, h7⟩ := tSl_v.1 hv
  refine ⟨cells, h6, ?_⟩
  cases a with
  | none =>
    obtain ⟨rfl, rfl⟩ := h5 rfl
    refine .inl ⟨rfl, h1.symm, ?_⟩
    have := T.rels_len h6
    rw [← h1] at this
    exact List.eq_nil_of_length_eq_zero (by simpa using this)
  | some a =>
    refine .inr ⟨a, c, by rw [h1], fun j q hq => ?_⟩
    obtain ⟨ad, e, hc⟩ := h7 j q hq
    cases e; exact hi.sub.cell hc
theorem source_row {α : Type} {T : Ty α} {s : Sl α} {u : Value} {e : TypeId} (m : Nat) (hm : PV[m]? = some (.row α T e u s)) (w : World) (hi : Inv w0 σ0 σ PV w) : ∃ news, T.rels σ news s.xs ∧ Source w u s.xs.length news := by
  obtain ⟨xs, hown, hrx, hnil⟩ := hi.pv _ (List.mem_of_getElem? hm)
  refine ⟨xs, hrx, ?_⟩
  rcases hown.2 with ⟨rfl, hx0⟩ | ⟨q, cap, cur, rfl, k⟩
  · refine .inl ⟨rfl, hx0, List.eq_nil_of_length_eq_zero ?_⟩
    rw [hown.1, hx0]; simp
  · exact .inr ⟨_, cap, rfl, hown.cells (g := q) rfl⟩
theorem source_nil {α : Type} {T : Ty α} (w : World) (hi : Inv w0 σ0 σ PV w) : ∃ news, T.rels σ news ([] : List α) ∧ Source w (.slice none 0 0) ([] : List α).length news := ⟨[], rfl, .inl ⟨rfl, rfl, rfl⟩⟩

/-! a store into an element of a row -/
theorem gset_some {α : Type} {s s' : Sl α} {i : Int} {q : α} (h : gset s i q = some s') : 0 ≤ i ∧ i < s.xs.length ∧ s' = ⟨s.xs.set i.toNat q, s.nn⟩ := by
  unfold gset at h
  split at h
  · cases h; simp_all
  · cases h
theorem op_store_row {α : Type} {T : Ty α} {e : TypeId} {s : Sl α} {ti : TypeInfo} {q : α} {u : Value} {kk : Sl α → Option ρ} (m : Nat) (hi' : P.info? t = some ti) (hx : opv L b x = .pointer (some (elemAddr v (i.toNat * T.size)))) (hy : opv L b y = u)
    (hs : ti.size = T.size) (hr : T.vrel σ u q) (hm : PV[m]? = some (.row α T e v s))
    (h : ∀ s', gset s i q = some s' → H (kk s') L σ (PV.set m (.row α T e v s'))) : OpOK P n w0 σ0 ⟨none, .store t x y, ty, ps, af, g⟩ ((gset s i q).bind kk) L b σ PV H := by
  intro r hp a w hi hf K Q hK
  cases hg : gset s i q with
  | none => rw [hg] at hp; cases hp
  | some s' =>
    rw [hg] at hp
    obtain ⟨h1, h2, rfl⟩ := gset_some hg
    obtain ⟨xs, hown, hrx, hnil⟩ := hi.pv _ (List.mem_of_getElem? hm)
    obtain ⟨hlen, hcase⟩ := hown
    rcases hcase with ⟨_, hx0⟩ | ⟨gb, cap, cur, rfl, k1, k2, k3, k4, k5, k6⟩
    · omega
    have hul : u.cells.toList.length = T.size := T.len hr.1
    have hbound : (i.toNat + 1) * T.size ≤ s.xs.length * T.size := Nat.mul_le_mul_right _ (by omega)
    have hcap : s.xs.length * T.size ≤ cap * T.size := Nat.mul_le_mul_right _ k3
    have hmul : (i.toNat + 1) * T.size = i.toNat * T.size + T.size := by rw [Nat.add_mul]; simp
    have hst := run_storeCells_at (P := P) gb (i.toNat * T.size) e u.cells.toList 0 cur w k2 (by rw [hul]; omega) (T.one hr.1)
    have hun : (execOp a.eval ⟨none, .store t x y, ty, ps, af, g⟩).run P w = .ok .skip (w.setRow gb (cur.toList.take (i.toNat * T.size) ++ u.cells.toList ++ cur.toList.drop (i.toNat * T.size + T.size)).toArray) := by
      rw [hf.eval]
      have hsz : u.cells.size = T.size := by simpa using hul
      have he : elemAddr (.slice (some ⟨gb, 0, none⟩) s.xs.length cap) (i.toNat * T.size) = ⟨gb, i.toNat * T.size, none⟩ := by
        show (⟨gb, 0, none⟩ : Addr).add _ = _
        unfold Addr.add; split <;> simp_all
      rw [he] at hx
      rw [hul] at hst
      simp only [execOp, Instr.storeAt, Instr.sureAddr, hx, hy, storeVar, sizeOf, typeInfo, Sem.run_bind, Sem.run_pure, run_program, Result.andThen_ok, hi', hsz, hs, ne_eq, not_true, if_false, hst, Nat.add_zero]
    unfold Oper.wp
    rw [hun, Oper.upon_skip]
    refine hK _ _ σ _ _ _ hp (hi.change hm ⟨rfl, rfl, rfl⟩ (frozen_setRow w gb _) (by simp [World.setRow]) ?_ (p' := .row α T e _ ⟨s.xs.set i.toNat q, s.nn⟩) ⟨_, ⟨?_, .inr ⟨gb, cap, _, by simp, k1, setRow_heap w gb cur _ e (0, 0) k2, by simpa using k3, k4, ?_, rfl⟩⟩, ?_, by simpa using hnil⟩ fun b hb => .inl hb) hf (h _ hg)
    · intro b' hb hne
      exact setRow_other w gb b' _ (fun e => hne (by rw [e]; rfl))
    · simp only [List.length_set, List.length_take, List.length_append, List.length_drop, Array.length_toList]
      simp only [Array.length_toList] at hul
      omega
    · simp only [List.size_toArray, List.length_append, List.length_take, List.length_drop, Array.length_toList]
      simp only [Array.length_toList] at hul
      omega
    · have hset := T.rels_set i.toNat hrx hr.1 (by omega)
      have hcl : cur.toList.length = cap * T.size := by simp [k5]
      simp only [List.length_set]
      rw [← k6] at hset
      rw [List.take_take, Nat.min_eq_left (by omega), hmul, List.drop_take] at hset
      have hAC : (cur.toList.take (i.toNat * T.size) ++ u.cells.toList).length = i.toNat * T.size + T.size := by
        rw [List.length_append, List.length_take, hul, hcl, Nat.min_eq_left (by omega)]
      rw [List.take_append, List.take_of_length_le (by rw [hAC]; omega), hAC]
      exact hset

/-! slices of slices that are held fast -/
theorem gslice_some {α : Type} {s s' : Sl α} {lo hi : Int} (h : gslice s lo hi = some s') : 0 ≤ lo ∧ lo ≤ hi ∧ hi ≤ s.xs.length ∧ s' = ⟨(s.xs.take hi.toNat).drop lo.toNat, s.nn⟩ := by
  unfold gslice at h
  split at h
  · cases h; simp_all
  · cases h
def optInt (L : List (Nat × Value)) (b : Nat → Value) (x : Option Operand) (dflt i : Int) : Prop :=
  match x with
  | none => i = dflt
  | some x => ∃ k, opv L b x = .int k i
theorem run_sliceBounds_opt {w : World} {isS : Bool} {m c : Nat} {lo hi : Option Operand} {i j : Int} (hl : optInt L b lo 0 i) (hh : optInt L b hi (m : Int) j) (h0 : 0 ≤ i) (h1 : i ≤ j) (h2 : j ≤ c) :
    (Instr.sliceBounds isS m c (lo.map (opv L b)) (hi.map (opv L b)) none).run P w = .ok (i.toNat, j.toNat, c) w := by
  unfold Instr.sliceBounds
  cases hi with
  | none =>
    simp only [optInt] at hh; subst hh
    cases lo with
    | none => simp only [optInt] at hl; subst hl; simp
    | some lo =>
      obtain ⟨kk, hl⟩ := hl
      have hb := fun code => run_sliceBound (P := P) w kk i m code h0 h1
      simp [hl, hb]
  | some hi =>
    obtain ⟨kh, hh⟩ := hh
    have hc := fun code => run_sliceBound (P := P) w kh j c code (by omega) h2
    cases lo with
    | none => simp only [optInt] at hl; subst hl; simp [hh, hc]
    | some lo =>
      obtain ⟨kk, hl⟩ := hl
      have hb := fun code => run_sliceBound (P := P) w kk i j.toNat code h0 (by omega)
      simp [hl, hh, hb, hc]
theorem l_slice_frozen {α : Type} {T : Ty α} {s s' : Sl α} {e : TypeId} {ti : TypeInfo} {lo hi : Option Operand} {i j : Int} (hu : P.underlying t = some (.slice e)) (hi' : P.info? e = some ti) (hz : ti.size = T.size)
    (hx : opv L b x = v) (hv : (tSl T).vrel σ v s) (hl : optInt L b lo 0 i) (hh : optInt L b hi s.len j) (hs : gslice s i j = some s') :
    Reads P B σ PV L b ⟨some d, .slice t x lo hi none, ty, ps, af, g⟩ (fun u => (tSl T).vrel σ u s') := by
  obtain ⟨h1, h2, h3, rfl⟩ := gslice_some hs
  obtain ⟨a, m, c, rfl, k1, k2, k3, k4, k5, cells, k6, k7⟩ := tSl_v.1 hv
  refine ⟨.slice (if (c : Int) = i then a else a.map (·.add (i.toNat * T.size))) (j - i).toNat (c - i.toNat), ?_, fun w _ => ?_⟩
  · refine tSl_v.2 ⟨_, _, _, rfl, ?_, ?_, ?_, ?_, ?_, (cells.take (j.toNat * T.size)).drop (i.toNat * T.size), ?_, ?_⟩
    · simp only [List.length_drop, List.length_take]; omega
    · rw [← k2]; split <;> simp
    · omega
    · omega
    · intro hnone
      have : a = none := by split at hnone <;> simpa using hnone
      obtain ⟨rfl, rfl⟩ := k5 this
      omega
    · exact T.rels_drop _ (T.rels_take _ k6)
    · intro q u hq
      rw [List.getElem?_drop] at hq
      have hlt : i.toNat * T.size + q < j.toNat * T.size := by
        have := (List.getElem?_eq_some_iff.1 hq).1
        simp only [List.length_take] at this; omega
      rw [List.getElem?_take_of_lt hlt] at hq
      obtain ⟨ad, rfl, hc⟩ := k7 _ _ hq
      have hne : ¬ (c : Int) = i := by
        intro e
        have : i.toNat = j.toNat := by omega
        rw [this] at hlt; omega
      refine ⟨ad.add (i.toNat * T.size), by simp [hne], ?_⟩
      rw [Addr.add_add]; exact hc
  · have hb := run_sliceBounds_opt (P := P) (w := w) (isS := true) (m := m) (c := c) hl (by rw [k1]; exact hh) h1 h2 (by omega)
    have hs2 : (Instr.sliceAt t (.slice a m c) (lo.map (opv L b)) (hi.map (opv L b)) none).run P w = .ok (.slice (if (c : Int) = i then a else a.map (·.add (i.toNat * T.size))) (j - i).toNat (c - i.toNat)) w := by
      unfold Instr.sliceAt Instr.slice
      simp only [Sem.run_bind, run_underlying hu, Result.andThen_ok]
      simp only [Sem.run_bind, Result.andThen_ok, hb, sizeOf, typeInfo, run_program, hi', Sem.run_pure, hz]
      rw [show j.toNat - i.toNat = (j - i).toNat by omega]
      by_cases hci : (c : Int) = i
      · rw [if_pos hci, if_pos (by omega)]
      · rw [if_neg hci, if_neg (by omega)]
    simp only [execOp, hx, Sem.run_bind, hs2, Result.andThen_ok, Sem.run_pure, Option.map_none]

theorem nil_vrel {α : Type} {T : Ty α} : (tSl T).vrel σ (.slice none 0 0) ⟨[], false⟩ :=
  tSl_v.2 ⟨none, 0, 0, rfl, rfl, rfl, Nat.le_refl _, Nat.zero_le _, fun _ => ⟨rfl, rfl⟩, [], rfl, fun j u h => by simp at h⟩
theorem sl_one {α : Type} {T : Ty α} {s : Sl α} (h : (tSl T).vrel σ v s) : v.oneCell' = true := by
  obtain ⟨a, m, c, rfl, _⟩ := tSl_v.1 h; simp [Value.oneCell']
theorem sl_cells {α : Type} {T : Ty α} {s : Sl α} (h : (tSl T).vrel σ v s) : v.cells.toList = [v] := by
  obtain ⟨a, m, c, rfl, _⟩ := tSl_v.1 h; rfl
theorem leaf_open {α : Type} {T : Ty α} (ha : T.agg = false) {cs : List Value} {q : α} (h : T.rel σ cs q) : ∃ v, cs = [v] ∧ T.vrel σ v q := by
  have hl := T.len h
  rw [T.sz ha] at hl
  match cs, hl with
  | [u], _ => exact ⟨u, rfl, vrel_one ha h (oneCell_notAgg (T.one h u (by simp)))⟩
theorem leaf_close {α : Type} {T : Ty α} (ha : T.agg = false) {q : α} (h : T.vrel σ v q) : T.rel σ [v] q := by
  have h1 := h.1
  have h2 := h.2
  rw [ha] at h2
  cases v <;> simp_all [Value.cells, isAggV]

/-! strings -/
theorem gsidx_some {s : ByteArray} {i c : Int} (h : gsidx s i = some c) : 0 ≤ i ∧ ∃ u : UInt8, s.data.toList[i.toNat]? = some u ∧ c = u.toNat := by
  unfold gsidx at h
  split at h
  · rename_i h0
    cases hu : s.data.toList[i.toNat]? with
    | none => rw [hu] at h; cases h
    | some u => rw [hu] at h; simp at h; exact ⟨h0, u, rfl, h.symm⟩
  · cases h
theorem r_index_string {s : ByteArray} {c : Int} (hu : P.underlying t = some .string) (hx : opv L b x = .string s) (hy : opv L b y = .int k i) (hc : gsidx s i = some c) :
    Runs P B σ PV L b ⟨some d, .index t x y, ty, ps, af, g⟩ (.int .u8 c) := fun w _ => by
  obtain ⟨h0, u, h1, rfl⟩ := gsidx_some hc
  have hu' : (s[i.toNat]? : Option UInt8) = some u := by
    rw [← h1]
    obtain ⟨hl, _⟩ := List.getElem?_eq_some_iff.1 h1
    have hl2 : i.toNat < s.size := by simpa using hl
    rw [getElem?_pos s i.toNat hl2, List.getElem?_eq_getElem hl]
    rfl
  simp [execOp, hx, hy, Instr.index, asIntOf, run_underlying hu, h0, hu']
theorem beq_bytes (s u : ByteArray) : (s.toList == u.toList) = decide (s = u) := by
  rw [ByteArray.toList_eq, ByteArray.toList_eq]
  by_cases h : s = u
  · subst h; simp
  · have hd : ¬ s.data = u.data := fun e => h (by cases s; cases u; simp at e; simp [e])
    simp [h, hd]
theorem r_seql {s u : ByteArray} (hx : opv L b x = .string s) (hy : opv L b y = .string u) : Runs P B σ PV L b ⟨some d, .binOp .eql t x y t', ty, ps, af, g⟩ (.bool (decide (s = u))) := fun w _ => by
  simp [execOp, hx, hy, eqGuard, binOp, Op.stringOp, ← beq_bytes]
theorem r_sneq {s u : ByteArray} (hx : opv L b x = .string s) (hy : opv L b y = .string u) : Runs P B σ PV L b ⟨some d, .binOp .neq t x y t', ty, ps, af, g⟩ (.bool (decide (s ≠ u))) := fun w _ => by
  have : (decide (s ≠ u)) = !decide (s = u) := by by_cases h : s = u <;> simp [h]
  rw [this, ← beq_bytes]
  simp [execOp, hx, hy, eqGuard, binOp, Op.stringOp]
theorem gsslice_some {s s' : ByteArray} {lo hi : Int} (h : gsslice s lo hi = some s') : 0 ≤ lo ∧ lo ≤ hi ∧ hi ≤ s.size ∧ s' = s.extract lo.toNat hi.toNat := by
  unfold gsslice at h
  split at h
  · cases h; simp_all
  · cases h
theorem r_slice_string {s s' : ByteArray} {lo hi : Option Operand} {i j : Int} (hu : P.underlying t = some .string)
    (hx : opv L b x = .string s) (hl : optInt L b lo 0 i) (hh : optInt L b hi s.size j) (hs : gsslice s i j = some s') :
    Runs P B σ PV L b ⟨some d, .slice t x lo hi none, ty, ps, af, g⟩ (.string s') := fun w _ => by
  obtain ⟨h1, h2, h3, rfl⟩ := gsslice_some hs
  have hb := run_sliceBounds_opt (P := P) (w := w) (isS := false) (m := s.size) (c := s.size) hl hh h1 h2 h3
  have hs2 : (Instr.sliceAt t (.string s) (lo.map (opv L b)) (hi.map (opv L b)) none).run P w = .ok (.string (s.extract i.toNat j.toNat)) w := by
    unfold Instr.sliceAt Instr.slice
    simp only [Sem.run_bind, run_underlying hu, Result.andThen_ok]
    simp [Result.andThen_ok, hb]
  simp only [execOp, hx, Sem.run_bind, hs2, Result.andThen_ok, Sem.run_pure, Option.map_none]
end
end Go.Px
