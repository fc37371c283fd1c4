/- Structs by value; choosing entries; the rest. -/
import Derived.Test.YtdpnogldgiomnaaB6
namespace Go.Px
set_option linter.unusedVariables false

section
variable {ρ : Type} {n : Nat} {w0 w : World} {σ0 σ : FS} {p : Option ρ} {G : ρ → Act → World → Prop} {L : List (Nat × Value)} {b : Nat → Value} {PV PV' : List Priv}
variable {P : Program} {ops : Array Oper} {o : Oper} {rest : List Oper}
variable {H : Option ρ → List (Nat × Value) → FS → List Priv → Prop} {B d : Nat} {v : Value} {t t' ty : TypeId} {ps : String} {af : Array Edge} {g : Option (Nat × Bool)}
variable {x y z : Operand} {k : IntKind} {i j : Int}

/-- some of the entries, in another order -/
theorem J_select (idx : List Nat) (hn : idx.Nodup) (hg : idx.map (fun i => PV[i]?) = PV'.map some) (h : J n w0 σ0 p G L b σ PV') : J n w0 σ0 p G L b σ PV := by
  intro r hp a w hi hf
  have hget : ∀ (k : Nat) (q : Priv), PV'[k]? = some q → ∃ m, idx[k]? = some m ∧ PV[m]? = some q := by
    intro k q hq
    have := congrArg (fun l => l[k]?) hg
    simp only [List.getElem?_map, hq, Option.map_some] at this
    cases hk : idx[k]? with
    | none => rw [hk] at this; simp at this
    | some m => rw [hk] at this; exact ⟨m, rfl, by simpa using this⟩
  have hmem : ∀ q ∈ PV', q ∈ PV := by
    intro q hq
    obtain ⟨k, hk⟩ := List.mem_iff_getElem?.1 hq
    obtain ⟨m, _, hm⟩ := hget k q hk
    exact List.mem_of_getElem? hm
  refine h r hp a w ⟨hi.sub, hi.le, hi.fresh, fun q hq => hi.pv q (hmem q hq), fun q hq => hi.apart q (hmem q hq), ?_, hi.ext⟩ hf
  rw [List.pairwise_iff_getElem]
  intro i j hi' hj hij
  obtain ⟨m, hm, hm'⟩ := hget i PV'[i] (List.getElem?_eq_getElem hi')
  obtain ⟨q, hq, hq'⟩ := hget j PV'[j] (List.getElem?_eq_getElem hj)
  have hne : m ≠ q := by
    intro e
    subst e
    obtain ⟨h1, h2⟩ := List.getElem?_eq_some_iff.1 hm
    obtain ⟨h3, h4⟩ := List.getElem?_eq_some_iff.1 hq
    have := (List.nodup_iff_pairwise_ne.1 hn)
    have := List.pairwise_iff_getElem.1 this i j h1 h3 hij
    exact this (h2.trans h4.symm)
  obtain ⟨h5, h6⟩ := List.getElem?_eq_some_iff.1 hm'
  obtain ⟨h7, h8⟩ := List.getElem?_eq_some_iff.1 hq'
  have hpw := List.pairwise_iff_getElem.1 hi.nodup
  rw [← h6, ← h8]
  rcases Nat.lt_or_gt_of_ne hne with hlt | hlt
  · exact hpw m q h5 h7 hlt
  · have := hpw q m h7 h5 hlt
    exact fun b h1 h2 => this b h2 h1

/-- a load of what is held fast -/
theorem r_load_fast {c off : Nat} {cs cs' : List Value} {td : TypeDesc} {ti : TypeInfo} (hu : P.underlying t = some td) (hi : P.info? t = some ti)
    (hx : opv L b x = .pointer (some ⟨c, off, none⟩)) (hcell : ∀ (j : Nat) (u : Value), cs[j]? = some u → σ.cell ((⟨c, 0, none⟩ : Addr).add j) = some u) (hcs : (cs.drop off).take ti.size = cs') (hl : cs'.length = ti.size) (h1 : aggDesc td = false → ti.size = 1)
    (hv : cellsVal (aggDesc td) cs' = v) : Runs P B σ PV L b ⟨some d, .load t x, ty, ps, af, g⟩ v := fun w hw => by
  subst hv
  have := run_loadVar_cells (P := P) (w := w) ⟨c, off, none⟩ cs' hu hi hl.symm (fun h => by rw [hl]; exact h1 h) (fun j u hj => by
    subst hcs
    have hj' : j < ti.size := by
      have := (List.getElem?_eq_some_iff.1 hj).1
      rw [hl] at this; exact this
    rw [List.getElem?_take_of_lt hj', List.getElem?_drop] at hj
    rw [show (⟨c, off, none⟩ : Addr) = (⟨c, 0, none⟩ : Addr).add off by unfold Addr.add; split <;> simp_all, Addr.add_add]
    exact hw.1.cell (hcell _ _ hj))
  simp [execOp, hx, Instr.loadAt, Instr.sureAddr, this]
def fieldsOf (d : TypeDesc) : Array Field :=
  match d with
  | .struct fs => fs
  | _ => #[]
def fillL (pls : List (Nat × Nat)) : List Value → List (Nat × List Value) → Option (List Value)
  | cs, [] => some cs
  | cs, (i, c) :: r => match pls[i]? with
    | none => none
    | some (off, size) => bif Nat.beq c.length size && Nat.ble (off + c.length) cs.length then fillL pls (cs.take off ++ c ++ cs.drop (off + c.length)) r else none
def PCells : List (Nat × Value) → List (Nat × List Value) → Prop
  | [], [] => True
  | (i, v) :: r, (j, c) :: s => i = j ∧ v.cells.toList = c ∧ PCells r s
  | _, _ => False
theorem fill_L (pls : List (Nat × Nat)) : ∀ (ps : List (Nat × Value)) (pcs : List (Nat × List Value)) (cs : Array Value) (r : List Value), PCells ps pcs → fillL pls cs.toList pcs = some r →
    Instr.fill (fun i => pls[i]?) cs ps = some r.toArray
  | [], [], cs, r, _, h => by simp [fillL] at h; simp [Instr.fill, ← h]
  | (i, v) :: ps, (j, c) :: pcs, cs, r, ⟨e1, e2, e3⟩, h => by
    subst e1; subst e2
    simp only [fillL] at h
    simp only [Instr.fill]
    cases hp : pls[i]? with
    | none => rw [hp] at h; cases h
    | some q =>
      obtain ⟨off, size⟩ := q
      rw [hp] at h
      simp only at h ⊢
      cases hc : (Nat.beq v.cells.toList.length size && Nat.ble (off + v.cells.toList.length) cs.toList.length) with
      | false => rw [hc] at h; cases h
      | true =>
        rw [hc] at h
        simp only [Bool.and_eq_true] at hc
        have h1 : v.cells.toList.length = size := Nat.eq_of_beq_eq_true hc.1
        have h2 : off + v.cells.toList.length ≤ cs.toList.length := Nat.le_of_ble_eq_true hc.2
        have hfold := foldl_set v.cells.toList cs off 0 (by simp at h1 h2 ⊢; omega)
        rw [if_neg (by simp at h1 h2; simp [h1]; omega)]
        have e0 : (v.cells.zipIdx.foldl (fun cs (x : Value × Nat) => cs.setIfInBounds (off + x.2) x.1) cs) = (cs.toList.take off ++ v.cells.toList ++ cs.toList.drop (off + v.cells.toList.length)).toArray := by
          apply Array.toList_inj.1
          rw [← Array.foldl_toList]
          simpa using hfold
        rw [show (v.cells.zipIdx.foldl (fun cs x => match x with | (c, j) => cs.setIfInBounds (off + j) c) cs) = (v.cells.zipIdx.foldl (fun cs (x : Value × Nat) => cs.setIfInBounds (off + x.2) x.1) cs) from rfl, e0]
        exact fill_L pls ps pcs _ r e3 (by simpa using h)
theorem r_build {fs : Array Field} {ti : TypeInfo} {zv : Value} {parts : Array (Nat × Operand)} {vs : List (Nat × Value)} {pcs : List (Nat × List Value)} {pls : List (Nat × Nat)} {cs : List Value} (hu : P.underlying t = some (.struct fs)) (hi : P.info? t = some ti) (hz : ti.zero = some zv)
    (hpl : fs.toList.map (fun f => (P.info? f.type).map fun i => (f.offset, i.size)) = pls.map some) (hp : (parts.toList.map fun q => (q.1, opv L b q.2)) = vs) (hc : PCells vs pcs) (hf : fillL pls zv.cells.toList pcs = some cs) :
    Runs P B σ PV L b ⟨some d, .build t parts, ty, ps, af, g⟩ (.agg cs.toArray) := fun w _ => by
  have hm : ∀ (l : List Field) (m : List (Nat × Nat)), l.map (fun f => (P.info? f.type).map fun i => (f.offset, i.size)) = m.map some →
      (l.mapM (fun f => do pure (f.offset, ← sizeOf f.type) : Field → Sem (Nat × Nat))).run P w = .ok m w := by
    intro l
    induction l with
    | nil => intro m h; cases m with
      | nil => simp
      | cons => simp at h
    | cons f l ih =>
      intro m h
      cases m with
      | nil => simp at h
      | cons q m =>
        simp only [List.map_cons, List.cons.injEq] at h
        obtain ⟨h1, h2⟩ := h
        cases hi : P.info? f.type with
        | none => rw [hi] at h1; simp at h1
        | some ti =>
          rw [hi] at h1
          simp only [Option.map_some, Option.some.injEq] at h1
          have hh : ((do pure (f.offset, ← sizeOf f.type) : Sem (Nat × Nat))).run P w = .ok q w := by simp [Sem.run_bind, sizeOf, typeInfo, hi, h1]
          rw [List.mapM_cons, Sem.run_bind, hh]
          simp only [Result.andThen_ok, Sem.run_bind, ih m h2, Sem.run_pure]
  have hma : (fs.mapM (fun f => do pure (f.offset, ← sizeOf f.type) : Field → Sem (Nat × Nat))).run P w = .ok pls.toArray w := by
    rw [Array.mapM_eq_mapM_toList]
    have h2 := hm _ _ hpl
    have h3 : ∀ (s : Sem (List (Nat × Nat))) m, s.run P w = .ok m w → (List.toArray <$> s).run P w = .ok m.toArray w := by
      intro s m hs
      show (s.bind (fun a => Sem.pure a.toArray)).run P w = _
      have := Sem.run_bind (P := P) (w := w) s (fun a => (pure a.toArray : Sem (Array (Nat × Nat))))
      refine Eq.trans this ?_
      rw [hs]; simp
    exact h3 _ _ h2
  have hpa : (parts.map fun (q : Nat × Operand) => (q.1, opv L b q.2)).toList = vs := by rw [Array.toList_map]; exact hp
  have hfill := fill_L pls vs pcs zv.cells cs hc hf
  have : (Instr.build t (parts.map fun q => (q.1, opv L b q.2))).run P w = .ok (.agg cs.toArray) w := by
    unfold Instr.build
    simp only [Sem.run_bind, zeroValue, typeInfo, run_program, Result.andThen_ok, hi, Sem.run_pure, hz, run_underlying hu, hma, hpa]
    rw [show (fun i => pls.toArray[i]?) = fun i => pls[i]? by funext i; simp]
    simp [hfill]
  simp only [execOp, Sem.run_bind, this, Result.andThen_ok, Sem.run_pure]
theorem r_field {fs : Array Field} {f : Field} {m : Nat} {td : TypeDesc} {ti : TypeInfo} {cs cs' : List Value} (hu : P.underlying t = some (.struct fs)) (hf : fs[m]? = some f) (hud : P.underlying f.type = some td) (hi : P.info? f.type = some ti)
    (hx : opv L b x = .agg cs.toArray) (hcs : (cs.drop f.offset).take ti.size = cs') (hl : cs'.length = ti.size) (h1 : aggDesc td = false → ti.size = 1) (hv : cellsVal (aggDesc td) cs' = v) :
    Runs P B σ PV L b ⟨some d, .field t x m, ty, ps, af, g⟩ v := fun w _ => by
  have hagg : (Go.isAgg f.type).run P w = Result.ok (aggDesc td) w := by
    unfold Go.isAgg
    rw [Sem.run_bind, run_underlying hud]
    cases td <;> rfl
  have : (Instr.field t (.agg cs.toArray) m).run P w = .ok v w := by
    unfold Instr.field
    simp only [Sem.run_bind, run_underlying hu, Result.andThen_ok, hf, asAgg, Sem.run_pure, part, hagg]
    subst hcs
    cases hd : aggDesc td with
    | true =>
      rw [hd] at hv
      subst hv
      simp [Sem.run_bind, sizeOf, typeInfo, hi, cellsVal]
    | false =>
      rw [hd] at hv
      have h1' := h1 hd
      rw [h1'] at hl hv
      have : cs[f.offset]? = some v := by
        rw [← hv]
        have hlt : f.offset < cs.length := by
          rcases Nat.lt_or_ge f.offset cs.length with h | h
          · exact h
          · rw [List.drop_eq_nil_of_le h] at hl; simp at hl
        rw [List.getElem?_eq_getElem hlt]
        simp only [cellsVal, cond_false, List.drop_eq_getElem_cons hlt, List.take_succ_cons, List.headD_cons]
      simp [this]
  simp only [execOp, hx, Sem.run_bind, this, Result.andThen_ok, Sem.run_pure]
theorem r_convert_int {k' : IntKind} {td : TypeDesc} (hu : P.underlying t = some td) (hu' : P.underlying t' = some (.int k')) (hx : opv L b x = .int k i) : Runs P B σ PV L b ⟨some d, .convert t t' x, ty, ps, af, g⟩ (.int k' (k'.wrap i)) := fun w _ => by
  simp [execOp, hx, convert, run_underlying hu, run_underlying hu', Conv.intToInt]
end
end Go.Px
namespace Go.Px
/-- a call that is lent rows of the caller's own: behind it they are as they were -/
theorem Inv.lend {w0 w w' : World} {σ0 σ τ σ' : FS} {PV PV' : List Priv} (h : Inv w0 σ0 σ PV w) (k : Inv w τ σ' PV' w') (hp : PlainP PV') : Inv w0 σ0 σ (PV' ++ PV) w' := by
  have hold : ∀ p ∈ PV, ∀ b, p.blk = some b → b < w.heap.size := fun p hp b hb => (Priv.holds_blk (h.pv p hp) hb).2
  refine ⟨fun b o hb => by rw [k.ext.old b (h.lt hb)]; exact h.sub b o hb, h.le, h.fresh, fun p hm => ?_, fun p hm b hb => ?_, ?_, h.ext.trans k.ext⟩
  · rcases List.mem_append.1 hm with hm | hm
    · have h1 := hp.all p hm σ' σ _ _ (k.pv p hm)
      cases p with
      | cell b cs T => exact ⟨h1.1, Nat.le_trans h.ext.size h1.2⟩
      | row α T e v s => obtain ⟨xs, h1, h2, h3⟩ := h1; exact ⟨xs, ownsRow_mono h1 h.ext.size, h2, h3⟩
    · exact Priv.holds_same (h.pv p hm) (.refl _) fun b hb => k.ext.old b (hold p hm b hb)
  · rcases List.mem_append.1 hm with hm | hm
    · cases hs : σ b with
      | none => rfl
      | some o => have h1 := h.lt hs; have h2 := (Priv.holds_blk (k.pv p hm) hb).1; omega
    · exact h.apart p hm b hb
  · refine List.pairwise_append.2 ⟨k.nodup, h.nodup, ?_⟩
    intro p hp q hq b hb hq'
    have h1 := (Priv.holds_blk (k.pv p hp) hb).1
    have h2 := hold q hq b hq'
    omega
def snap (w : World) : FS := fun b => w.heap[b]?
theorem snap_row {w0 w : World} {σ0 σ : FS} {PV : List Priv} (hi : Inv w0 σ0 σ PV w) {α : Type} {T : Ty α} {e : TypeId} {v : Value} {s : Sl α} {m : Nat} (hm : PV[m]? = some (.row α T e v s)) : (tSl T).vrel (snap w) v s := by
  obtain ⟨σ', hle, hblk, hi'⟩ := hi.freeze hm
  have hh := hi.pv _ (List.mem_of_getElem? hm)
  obtain ⟨xs, ⟨hl0, h1⟩, h2, h3⟩ := hh
  have hsn : σ.le (snap w) := fun b o hb => hi.sub b o hb
  refine tSl_v.2 ?_
  rcases h1 with ⟨rfl, h1⟩ | ⟨q, cap, cur, rfl, k1, k2, k3, k4, k5, k6⟩
  · refine ⟨none, 0, 0, rfl, h1.symm, ?_, Nat.le_refl _, Nat.zero_le _, fun _ => ⟨rfl, rfl⟩, xs, T.rels_mono hsn h2, ?_⟩
    · have := h3.1 rfl; simp [this]
    · intro j u hj
      have hx0 : xs = [] := List.eq_nil_of_length_eq_zero (by rw [hl0, h1]; simp)
      rw [hx0] at hj; simp at hj
  · refine ⟨_, _, _, rfl, rfl, ?_, k3, k4, (fun h => by cases h), xs, T.rels_mono hsn h2, ?_⟩
    · cases hn : s.nn with
      | true => rfl
      | false => have := h3.2 hn; cases this
    · intro j u hj
      refine ⟨_, rfl, ?_⟩
      have hb : snap w q = _ := k2
      unfold FS.cell Addr.add
      rw [← k6] at hj
      have hj' : cur.toList[j]? = some u := by
        rw [List.getElem?_take] at hj
        split at hj
        · exact hj
        · cases hj
      by_cases h0 : j = 0
      · subst h0; simpa [hb] using hj'
      · simpa [h0, hb] using hj'
def RowsAt (PV : List Priv) (τ : FS) : Prop := ∀ (m : Nat) (α : Type) (T : Ty α) (e : TypeId) (v : Value) (s : Sl α), PV[m]? = some (.row α T e v s) → (tSl T).vrel τ v s
theorem op_call_lend {ρ α : Type} {n : Nat} {w0 : World} {σ0 σ : FS} {P : Program} {L : List (Nat × Value)} {b : Nat → Value} {PV : List Priv} {x : Option α} {k : α → Option ρ} {H : Option ρ → List (Nat × Value) → FS → List Priv → Prop} {d : Nat} {f : FuncId} {fn : Func} {cl : Call} {ty : TypeId} {ps : String} {af : Array Edge} {g : Option (Nat × Bool)}
    {args : List Value} {post : α → FS → List Priv → Value → Prop} {c : Operand} {ca : Array Value}
    (hn : Nat.blt d n = true) (hc : cl.callee = .value c) (hfv : opv L b c = .func (.func f) #[] ca) (hf : P.funcs[f]? = some fn) (hnm : (fn.name == "runtime.NumGoroutine") = false) (hb : fn.body.isNone = false)
    (ha : cl.args.toList.map (opv L b) ++ ca.toList = args)
    (hcall : ∀ y w τ, x = some y → σ.le τ → τ.sub w → RowsAt PV τ → Does P f args w τ (post y))
    (hpl : ∀ y σ' PV' v, post y σ' PV' v → PlainP PV')
    (h : ∀ y v σ' PV', x = some y → post y σ' PV' v → H (k y) ((d, v) :: L) σ (PV' ++ PV)) :
    OpOK P n w0 σ0 ⟨some d, .call cl, ty, ps, af, g⟩ (x.bind k) L b σ PV H := by
  intro r hp a w hi hft K Q hK
  cases hx : x with
  | none => rw [hx] at hp; cases hp
  | some y =>
    rw [hx] at hp
    have hdoes := hcall y w (snap w) hx (fun b o hb => hi.sub b o hb) (fun b o hb => hb) (fun m α T e v s hm => snap_row hi hm)
    have hrun : (execOp a.eval ⟨some d, .call cl, ty, ps, af, g⟩).run P w = .ok (.enter f args.toArray) w := by
      have ha' : cl.args.map (opv L b) ++ ca = args.toArray := by subst ha; apply Array.toList_inj.1; simp
      rw [hft.eval, ← ha']
      simp only [execOp, resolve, hc, hfv, Deferred.ofValue, Sem.run_bind, Sem.run_pure, Result.andThen_ok, invoke]
      unfold callFunc
      simp only [Sem.run_bind, run_program, Result.andThen_ok, hf, hnm, hb, Bool.false_eq_true, if_false, Sem.run_pure, Array.empty_append]
    unfold Oper.wp
    rw [hrun, Oper.upon_enter]
    refine Calls.mono hdoes ?_
    rintro e w' ⟨v, σ', PV', rfl, hi', hpost⟩
    exact hK (k y) _ σ _ _ w' hp (hi.lend hi' (hpl y σ' PV' v hpost)) (hft.put (by simpa [Nat.blt_eq] using hn) v) (h y v σ' PV' hx hpost)

/-! results that lie in cells -/
section
variable {ρ : Type} {n : Nat} {w0 w : World} {σ0 σ : FS} {L : List (Nat × Value)} {b : Nat → Value} {PV PV' : List Priv} {P : Program}
/-- what a result variable holds at the end -/
def rvSem (tmps : Array Value) : ResultVar → Sem Value
  | .tmp t => pure (tmps.getD t undef)
  | .cell a t => do loadVar t (← asAddr (tmps.getD a undef))
def RV (P : Program) (B : Nat) (σ : FS) (PV : List Priv) (L : List (Nat × Value)) (b : Nat → Value) (rv : ResultVar) (v : Value) : Prop :=
  ∀ (w : World) (tmps : Array Value), Held B σ PV w → (∀ i, tmps.getD i undef = look L b i) → (rvSem tmps rv).run P w = .ok v w
theorem rv_tmp {B t : Nat} : RV P B σ PV L b (.tmp t) (look L b t) := fun w tmps _ h => by
  simp [rvSem, h]
theorem rv_cell {B t : Nat} {T : TypeId} {td : TypeDesc} {ti : TypeInfo} {c : Nat} {cs : List Value} {v : Value} (m : Nat) (hu : P.underlying T = some td) (hi : P.info? T = some ti)
    (hx : look L b t = .pointer (some ⟨c, 0, none⟩)) (hp : PV[m]? = some (.cell c cs T)) (hl : cs.length = ti.size) (h1 : aggDesc td = false → ti.size = 1) (hv : cellsVal (aggDesc td) cs = v) : RV P B σ PV L b (.cell t T) v := fun w tmps hw h => by
  have hh := (hw.2 _ (List.mem_of_getElem? hp)).1
  subst hv
  have := run_loadVar_cells (P := P) (w := w) ⟨c, 0, none⟩ cs hu hi hl.symm (fun h => by rw [hl]; exact h1 h) (fun j u hj => by
    rw [cell_add hh]; simpa using hj)
  show (do loadVar T (← asAddr (tmps.getD t undef)) : Sem Value).run P w = _
  rw [h t, hx]
  simpa [asAddr] using this
theorem inv_select (idx : List Nat) (hn : idx.Nodup) (hg : idx.map (fun i => PV[i]?) = PV'.map some) (hi : Inv w0 σ0 σ PV w) : Inv w0 σ0 σ PV' w := by
  have := J_select (ρ := Unit) (n := 0) (w0 := w0) (σ0 := σ0) (σ := σ) (p := some ()) (G := fun _ _ w => Inv w0 σ0 σ PV' w) (L := []) (b := fun _ => undef) idx hn hg (fun _ _ _ _ h _ => h)
  exact this () rfl ⟨#[], []⟩ w hi ⟨rfl, rfl, fun i => by simp [look]⟩
theorem results_rv1 {fn : Func} {r1 : ResultVar} {v1 : Value} {tmps : Array Value} (h : fn.results = #[r1]) (h1 : (rvSem tmps r1).run P w = .ok v1 w) : (results fn tmps).run P w = .ok v1 w := by
  have e : results fn tmps = (do let v ← rvSem tmps r1; pure v) := by
    cases r1 <;> simp [results, h, rvSem]
  rw [e]; simp [h1]
theorem results_rv2 {fn : Func} {r1 r2 : ResultVar} {v1 v2 : Value} {tmps : Array Value} (h : fn.results = #[r1, r2]) (h1 : (rvSem tmps r1).run P w = .ok v1 w) (h2 : (rvSem tmps r2).run P w = .ok v2 w) :
    (results fn tmps).run P w = .ok (.tuple #[v1, v2]) w := by
  have e : results fn tmps = (do let v ← rvSem tmps r1; let u ← rvSem tmps r2; pure (.tuple #[v, u])) := by
    cases r1 <;> cases r2 <;> simp [results, h, rvSem]
  rw [e]; simp [h1, h2]
theorem J_returnV1 {fn : Func} {post : ρ → FS → List Priv → Value → Prop} {r : ρ} {r1 : ResultVar} {v1 : Value} (hres : fn.results = #[r1]) (h1 : RV P w0.heap.size σ PV L b r1 v1)
    (idx : List Nat) (hn : idx.Nodup) (hg : idx.map (fun i => PV[i]?) = PV'.map some) (h : post r σ PV' v1) :
    J n w0 σ0 (some r) (fun r a w => retPost P fn w0 σ0 post r .ret a w) L b σ PV := by
  intro r' hp a w hi hf
  cases hp
  refine bodyPost_ret (results_rv1 hres (h1 w a.tmps ⟨hi.sub, hi.pv⟩ hf.get)) hf.defers ⟨_, σ, PV', rfl, ?_, h⟩
  exact (inv_select idx hn hg hi)
theorem J_returnV2 {fn : Func} {post : ρ → FS → List Priv → Value → Prop} {r : ρ} {r1 r2 : ResultVar} {v1 v2 : Value} (hres : fn.results = #[r1, r2]) (h1 : RV P w0.heap.size σ PV L b r1 v1) (h2 : RV P w0.heap.size σ PV L b r2 v2)
    (idx : List Nat) (hn : idx.Nodup) (hg : idx.map (fun i => PV[i]?) = PV'.map some) (h : post r σ PV' (.tuple #[v1, v2])) :
    J n w0 σ0 (some r) (fun r a w => retPost P fn w0 σ0 post r .ret a w) L b σ PV := by
  intro r' hp a w hi hf
  cases hp
  refine bodyPost_ret (results_rv2 hres (h1 w a.tmps ⟨hi.sub, hi.pv⟩ hf.get) (h2 w a.tmps ⟨hi.sub, hi.pv⟩ hf.get)) hf.defers ⟨_, σ, PV', rfl, ?_, h⟩
  exact (inv_select idx hn hg hi)
end
end Go.Px
