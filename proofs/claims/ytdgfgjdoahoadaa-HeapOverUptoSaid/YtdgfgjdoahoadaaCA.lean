/- Pointers to elements; fields of elements; nil pointers; structs compared; slices of rows of one's own. -/
import Derived.Test.YtdgfgjdoahoadaaC7
import Derived.Laws.StructEq
import Derived.Laws.Pointers
namespace Go.Px
set_option linter.unusedVariables false

def OFieldAt {α β : Type} (T : OTy α) (off : Nat) (Tf : Ty β) (proj : α → β) : Prop := ∀ σ h cs x, T.rel σ h cs x → Tf.rel σ ((cs.drop off).take Tf.size) (proj x)
theorem OFieldAt.of {α β : Type} {T : Ty α} {Tf : Ty β} {off : Nat} {proj : α → β} (f : FieldAt T off Tf proj) : OFieldAt T.o off Tf proj := fun σ h cs x r => f σ cs x r
theorem OFieldAt.self {α : Type} {T : OTy α} {T' : Ty α} [f : Fixd T T'] : OFieldAt T 0 T' id := fun σ h cs x r => by
  have := T'.len (f.down r)
  simp only [List.drop_zero, id]; rw [← this, List.take_length]; exact f.down r
theorem OFieldAt.fst {α β γ : Type} {A : OTy α} {B : OTy β} {Tf : Ty γ} {off : Nat} {proj : α → γ} (f : OFieldAt A off Tf proj) (hl : off + Tf.size ≤ A.size) : OFieldAt (oProd A B) off Tf (fun x => proj x.1) := by
  rintro σ h cs x ⟨c, d, h1, h2, rfl, _, _, _, p, q⟩
  have := A.len p
  rw [List.drop_append_of_le_length (by omega), List.take_append_of_le_length (by simp; omega)]
  exact f σ h1 c x.1 p
theorem OFieldAt.snd {α β γ : Type} {A : OTy α} {B : OTy β} {Tf : Ty γ} {off : Nat} {proj : β → γ} (f : OFieldAt B off Tf proj) : OFieldAt (oProd A B) (A.size + off) Tf (fun x => proj x.2) := by
  rintro σ h cs x ⟨c, d, h1, h2, rfl, _, _, _, p, q⟩
  have := A.len p
  rw [← this, ← List.drop_drop, List.drop_left]
  exact f σ h2 d x.2 q
theorem OFieldAt.comap {α β γ : Type} {T : OTy α} {Tf : Ty γ} {off : Nat} {proj : α → γ} {g : β → α} (f : OFieldAt T off Tf proj) : OFieldAt (T.comap g) off Tf (fun x => proj (g x)) := fun σ h cs x r => f σ h cs (g x) r
theorem OFieldAt.comp {α β γ : Type} {T : OTy α} {T1 : Ty β} {T2 : Ty γ} {o1 o2 : Nat} {f : α → β} {g : β → γ} (h : OFieldAt T o1 T1 f) (k : FieldAt T1 o2 T2 g) (hl : o2 + T2.size ≤ T1.size) :
    OFieldAt T (o1 + o2) T2 (fun x => g (f x)) := fun σ hh cs x r => by
  have := k σ _ _ (h σ hh cs x r)
  rw [List.drop_take, List.take_take, List.drop_drop] at this
  rwa [Nat.min_eq_left (by omega)] at this
def peOpt (v : Value) (sz : Nat) : Option Int → Value
  | none => .pointer none
  | some i => .pointer (some (elemAddr v (i.toNat * sz + 0)))

section
variable {ρ : Type} {n : Nat} {w0 : Start} {w : World} {σ0 σ : FS} {p : Option ρ} {G : ρ → Act → World → Prop} {L : List (Nat × Value)} {b : Nat → Value} {PV PV' : List Priv}
variable {P : Program} {ops : Array Oper} {o : Oper} {rest : List Oper}
variable {H : Option ρ → List (Nat × Value) → FS → List Priv → Prop} {d : Nat} {v : Value} {t t' ty : TypeId} {ps : String} {af : Array Edge} {g : Option (Nat × Bool)}
variable {x y z : Operand} {k : IntKind} {i j : Int}

theorem HeldOK.view {σr : FS} {PVr : List Priv} (hS : HeldOK σr PVr σ PV) (hv : ∀ h, Sep σ PV' h → Sep σ PV h) : HeldOK σr PVr σ PV' := ⟨hS.le, fun h k => hS.all h (hv h k)⟩
theorem row_elem_cells {α β : Type} {T : OTy α} {Tf : Ty β} {proj : α → β} {s : Sl α} {q : α} {off : Nat} {e : TypeId} {h : Frag} (hr : rowHolds T e v s σ h) (hs : h.sub w) (hq : gidx s i = some q) (hf : OFieldAt T off Tf proj) (hoff : off + Tf.size ≤ T.size) :
    ∃ cs, Tf.rel σ cs (proj q) ∧ ∀ (j : Nat) (u : Value), cs[j]? = some u → w.cell? ((elemAddr v (i.toNat * T.size + off)).add j) = some u := by
  have hlt := gidx_lt hq
  rcases hr with ⟨_, rfl⟩ | ⟨_, _, rfl⟩ | ⟨gb, cap, cur, hb, gg, rfl, r2, r3, r4, r5, r0, r6, r7, r8, r9, r10⟩
  · simp at hlt; omega
  · simp at hlt; omega
  obtain ⟨k1, hs', k2, k3, k4⟩ := r10
  have hel := k2 i.toNat q (gidx_some.1 hq).2
  have hfl := hf σ _ _ _ hel
  have hlen := Tf.len hfl
  refine ⟨_, hfl, fun j u hj => ?_⟩
  have hj' : j < Tf.size := by
    have := (List.getElem?_eq_some_iff.1 hj).1
    rw [hlen] at this; exact this
  rw [List.getElem?_take_of_lt hj', List.getElem?_drop, List.getElem?_take_of_lt (by omega), List.getElem?_drop] at hj
  have hbb : i.toNat * T.size + (off + j) < s.xs.length * T.size := by
    have : (i.toNat + 1) * T.size ≤ s.xs.length * T.size := Nat.mul_le_mul_right _ (by omega)
    rw [Nat.add_mul] at this; omega
  rw [List.getElem?_take_of_lt hbb] at hj
  simp only [elemAddr, Addr.add_add]
  rw [show i.toNat * T.size + off + j = i.toNat * T.size + (off + j) by omega]
  rw [Addr.add_eq _ rfl]
  simpa using hs.cell (r0 _ _ _ (r7 _ _ hj))
/-- a plain part of an element, whatever else the element owns -/
theorem l_elem_orow {α β : Type} {T : OTy α} {Tf : Ty β} {proj : α → β} {s : Sl α} {q : α} {off : Nat} {e : TypeId} {td : TypeDesc} {ti : TypeInfo} (mm : Nat) (hu : P.underlying t = some td) (hi : P.info? t = some ti) (hz : ti.size = Tf.size)
    (hag : Tf.agg = aggDesc td) (hx : opv L b x = .pointer (some (elemAddr v (i.toNat * T.size + off)))) (hp : PV[mm]? = some (.row T e v s)) (hq : gidx s i = some q) (hf : OFieldAt T off Tf proj) (hoff : off + Tf.size ≤ T.size)
    [pl : Plain Tf] :
    Reads P σ PV L b ⟨some d, .load t x, ty, ps, af, g⟩ (fun u => Tf.vrel σ u (proj q)) := by
  obtain ⟨cs0, hcs0⟩ : ∃ cs, Tf.rel σ cs (proj q) := ⟨_, (pl.spec σ _ _).2 rfl⟩
  refine ⟨_, vrel_of_rel hcs0, fun w hw => ?_⟩
  obtain ⟨hh, hr, hsub⟩ := hw.get hp
  obtain ⟨cs, h1, h2⟩ := row_elem_cells (w := w) hr hsub hq hf hoff
  obtain rfl : cs = cs0 := ((pl.spec σ _ _).1 h1).trans ((pl.spec σ _ _).1 hcs0).symm
  have hl0 := Tf.len hcs0
  have := run_loadVar_cells (P := P) (w := w) _ cs hu hi (by rw [hl0, hz]) (fun h => by rw [hl0]; exact Tf.sz (by rw [hag, h])) h2
  rw [← hag] at this
  simp [execOp, hx, Instr.loadAt, Instr.sureAddr, this]
/-- a part of an element that is held fast -/
theorem op_elem_row {α β : Type} {T : OTy α} {Tf : Ty β} {proj : α → β} {s : Sl α} {q : α} {off : Nat} {e : TypeId} {td : TypeDesc} {ti : TypeInfo} (mm : Nat) (hn : Nat.blt d n = true) (hu : P.underlying t = some td) (hi : P.info? t = some ti) (hz : ti.size = Tf.size)
    (hag : Tf.agg = aggDesc td) (hx : opv L b x = .pointer (some (elemAddr v (i.toNat * T.size + off)))) (hp : PV[mm]? = some (.row T e v s)) (hq : gidx s i = some q) (hf : OFieldAt T off Tf proj) (hoff : off + Tf.size ≤ T.size)
    (h : ∀ u, Tf.vrel σ u (proj q) → H p ((d, u) :: L) σ PV) : OpOK P n w0 σ0 ⟨some d, .load t x, ty, ps, af, g⟩ p L b σ PV H := by
  intro r hpr a w hinv hft K Q hK
  obtain ⟨hh, hr, hsub⟩ := hinv.held.get hp
  obtain ⟨cs, h1, h2⟩ := row_elem_cells (w := w) hr hsub hq hf hoff
  have hl0 := Tf.len h1
  have := run_loadVar_cells (P := P) (w := w) _ cs hu hi (by rw [hl0, hz]) (fun h => by rw [hl0]; exact Tf.sz (by rw [hag, h])) h2
  rw [← hag] at this
  unfold Oper.wp
  have hrun : (execOp a.eval ⟨some d, .load t x, ty, ps, af, g⟩).run P w = .ok (.value (cellsVal Tf.agg cs)) w := by
    rw [hft.eval]; simp [execOp, hx, Instr.loadAt, Instr.sureAddr, this]
  rw [hrun, Oper.upon_value]
  exact hK p _ σ PV _ w hpr hinv (hft.put (by simpa [Nat.blt_eq] using hn) _) (h _ (vrel_of_rel h1))
/-- what is known of a row's header -/
theorem J_row_one {α : Type} {T : OTy α} {e : TypeId} {s : Sl α} (m : Nat) (hm : PV[m]? = some (.row T e v s)) (h : v.oneCell' = true → J n w0 σ0 p G L b σ PV) : J n w0 σ0 p G L b σ PV := by
  intro r hp a w hi hf
  obtain ⟨hh, hr, _⟩ := hi.held.get hm
  obtain ⟨q, c, rfl, _⟩ := rowHolds.form hr
  exact h rfl r hp a w hi hf
theorem one_cells (h : v.oneCell' = true) : v.cells.toList = [v] := by cases v <;> simp_all [Value.oneCell', Value.cells]
theorem r_nilCheck {a : Addr} (hx : opv L b x = .pointer (some a)) : Runs P σ PV L b ⟨some d, .nilCheck x, ty, ps, af, g⟩ (.pointer (some a)) := fun w _ => by
  simp [execOp, hx]
theorem r_nilCheck_opt {sz : Nat} {oi : Option Int} (hx : opv L b x = peOpt v sz oi) (ho : oi = some i) : Runs P σ PV L b ⟨some d, .nilCheck x, ty, ps, af, g⟩ (.pointer (some (elemAddr v (i.toNat * sz + 0)))) := fun w _ => by
  subst ho
  simp [execOp, hx, peOpt]
theorem run_eqptr_nil {w : World} {e : TypeId} {a : Option Addr} (hu : P.underlying t = some (.pointer e)) : (Op.equal t (.pointer a) (.pointer none)).run P w = .ok (a.isNone) w := by
  have key : ∀ d, (Op.equalIn (d + 1) t (.pointer a) (.pointer none)).run P w = .ok (a.isNone) w := fun d => by
    cases a <;> simp [Op.equalIn, run_underlying hu]
  exact key 9999
theorem r_eqnil_ptr {e : TypeId} {a : Option Addr} (hu : P.underlying t = some (.pointer e)) (hx : opv L b x = .pointer a) (hy : opv L b y = .pointer none) {r : Bool} (hr : a.isNone = r) : Runs P σ PV L b ⟨some d, .binOp .eql t x y t', ty, ps, af, g⟩ (.bool r) := fun w _ => by
  subst hr
  simp [execOp, hx, hy, eqGuard, binOp, run_eqptr_nil hu]
theorem r_nenil_ptr {e : TypeId} {a : Option Addr} (hu : P.underlying t = some (.pointer e)) (hx : opv L b x = .pointer a) (hy : opv L b y = .pointer none) {r : Bool} (hr : (!a.isNone) = r) : Runs P σ PV L b ⟨some d, .binOp .neq t x y t', ty, ps, af, g⟩ (.bool r) := fun w _ => by
  subst hr
  simp [execOp, hx, hy, eqGuard, binOp, run_eqptr_nil hu]
theorem peOpt_form (v : Value) (sz : Nat) (oi : Option Int) : peOpt v sz oi = .pointer (oi.map fun i => elemAddr v (i.toNat * sz + 0)) := by cases oi <;> rfl
/-- a prefix of a row of one's own -/
theorem op_slice_row {α : Type} {T : OTy α} {s : Sl α} {e e' : TypeId} {ti : TypeInfo} {lo hi : Option Operand} {kk : Sl α → Option ρ} (m : Nat) (hn : Nat.blt d n = true) (hu : P.underlying t = some (.slice e)) (hi' : P.info? e = some ti) (hz : ti.size = T.size)
    (hx : opv L b x = v) (hm : PV[m]? = some (.row T e' v s)) (hl : optInt L b lo 0 0) (hh : optInt L b hi s.len j)
    (h : ∀ s' v', gslice s 0 j = some s' → H (kk s') ((d, v') :: L) σ (PV.set m (.row T e' v' s'))) :
    OpOK P n w0 σ0 ⟨some d, .slice t x lo hi none, ty, ps, af, g⟩ ((gslice s 0 j).bind kk) L b σ PV H := by
  intro r hp a w hinv hft K Q hK
  cases hg : gslice s 0 j with
  | none => rw [hg] at hp; cases hp
  | some s' =>
    rw [hg] at hp
    obtain ⟨h1, h2, h3, rfl⟩ := gslice_some hg
    obtain ⟨hh0, hr, hsub⟩ := hinv.held.get hm
    obtain ⟨a0, c, rfl, k2, k3, k3', k4, k5⟩ := rowHolds.form hr
    have hb := run_sliceBounds_opt (P := P) (w := w) (isS := true) (m := s.xs.length) (c := c) hl hh (by omega) h2 (by omega)
    have hs2 : (Instr.sliceAt t (.slice a0 s.xs.length c) (lo.map (opv L b)) (hi.map (opv L b)) none).run P w = .ok (.slice a0 j.toNat c) w := by
      unfold Instr.sliceAt Instr.slice
      simp only [Sem.run_bind, run_underlying hu, Result.andThen_ok]
      simp only [Sem.run_bind, Result.andThen_ok, hb, sizeOf, typeInfo, run_program, hi', Sem.run_pure, hz]
      cases a0 with
      | none => have := k3' rfl; subst this; simp
      | some a0 => by_cases hc0 : c = 0
                   · subst hc0; simp
                   · rw [if_neg (by simp; omega)]; simp [Addr.add]
    have hrun : (execOp a.eval ⟨some d, .slice t x lo hi none, ty, ps, af, g⟩).run P w = .ok (.value (.slice a0 j.toNat c)) w := by
      rw [hft.eval]; simp only [execOp, hx, Sem.run_bind, hs2, Result.andThen_ok, Sem.run_pure, Option.map_none]
    unfold Oper.wp
    rw [hrun, Oper.upon_value]
    refine hK _ _ σ _ _ w hp (hinv.change hm (p' := .row T e' (.slice a0 j.toNat c) ⟨(s.xs.take j.toNat).drop (0 : Int).toNat, s.nn⟩) fun g1 hg1 hs1 => ⟨g1, ?_, hs1, .refl w g1, fun b i hx => .inl hx⟩) (hft.put (by simpa [Nat.blt_eq] using hn) _) (h _ _ hg)
    have hg1 : rowHolds T e' (.slice a0 s.xs.length c) s σ g1 := hg1
    have hj : j.toNat ≤ s.xs.length := by omega
    have hlen : (s.xs.take j.toNat).length = j.toNat := by simp; omega
    rcases hg1 with ⟨q1, rfl⟩ | ⟨aq, q1, rfl⟩ | ⟨gb, cap, cur, hb', gg, q1, r2, r3, r4, r5, r0, r6, r7, r8, r9, r10⟩
    · obtain ⟨rfl, -, rfl⟩ : a0 = none ∧ _ ∧ c = 0 := by injection q1 with a1 a2 a3; exact ⟨a1, a2, a3⟩
      have : j.toNat = 0 := by simpa using hj
      exact .inl ⟨by rw [this], by simp⟩
    · obtain ⟨rfl, -, rfl⟩ : a0 = some aq ∧ _ ∧ c = 0 := by injection q1 with a1 a2 a3; exact ⟨a1, a2, a3⟩
      have : j.toNat = 0 := by simpa using hj
      exact .inr (.inl ⟨aq, by rw [this], by simp⟩)
    · obtain ⟨rfl, -, rfl⟩ : a0 = some ⟨gb, 0, none⟩ ∧ _ ∧ c = cap := by injection q1 with a1 a2 a3; exact ⟨a1, a2, a3⟩
      refine .inr (.inr ⟨gb, c, cur, hb', gg, by simp [hlen], r2, by simp [hlen]; omega, r4, r5, r0, r6, r7, r8, r9, ?_⟩)
      have := OTy.rels_take j.toNat r10
      simp only [Int.toNat_zero, List.drop_zero, hlen]
      rwa [List.take_take, Nat.min_eq_left (Nat.mul_le_mul_right _ hj)] at this

/-! structs compared -/
def EqAtD (P : Program) (t : TypeId) (d : Nat) (x y : Value) (r : Bool) : Prop := ∀ m w, (Op.equalIn (m + d) t x y).run P w = .ok r w
theorem EqAtD.int (hu : P.underlying t = some (.int k)) : EqAtD P t 1 (.int k i) (.int k j) (decide (i = j)) := fun m w => by
  have : (i == j) = decide (i = j) := by by_cases h : i = j <;> simp [h]
  simp [Op.equalIn, run_underlying hu, this]
theorem EqAtD.bool {e q : Bool} (hu : P.underlying t = some .bool) : EqAtD P t 1 (.bool e) (.bool q) (decide (e = q)) := fun m w => by
  have : (e == q) = decide (e = q) := by cases e <;> cases q <;> rfl
  simp [Op.equalIn, run_underlying hu, this]
theorem EqAtD.str {s u : ByteArray} (hu : P.underlying t = some .string) : EqAtD P t 1 (.string s) (.string u) (decide (s = u)) := fun m w => by
  have : (s == u) = decide (s = u) := by
    show ByteArray.beq s u = _
    cases s with | mk s => cases u with | mk u =>
    by_cases h : s = u
    · subst h; simp [ByteArray.beq]
    · simp [h, ByteArray.beq]
  simp [Op.equalIn, run_underlying hu, this]
/-- the fields of two structs, one after another -/
def EqFs (P : Program) (xs ys : Array Value) (d : Nat) : List Field → Bool → Prop
  | [], r => r = true
  | f :: fs, r => ∃ u v r1 r2, (∀ w, (part f.type xs f.offset).run P w = .ok u w) ∧ (∀ w, (part f.type ys f.offset).run P w = .ok v w) ∧ f.name ≠ "_" ∧ EqAtD P f.type d u v r1 ∧ EqFs P xs ys d fs r2 ∧ r = (r1 && r2)
theorem EqFs.run {xs ys : Array Value} {d : Nat} : ∀ {fs : List Field} {r : Bool}, EqFs P xs ys d fs r → ∀ m w, (Op.eqFields (m + d) xs ys fs).run P w = .ok r w
  | [], r, h, m, w => by rw [show r = true from h]; simp [Op.eqFields]
  | f :: fs, r, ⟨u, v, r1, r2, h1, h2, h3, h4, h5, h6⟩, m, w => by
    subst h6
    have := EqFs.run h5 m w
    cases r1 <;> simp [Op.eqFields, h3, h1 w, h2 w, h4 m w, this]
theorem EqAtD.struct {fs : Array Field} {xs ys : Array Value} {d : Nat} {r : Bool} (hu : P.underlying t = some (.struct fs)) (hp : P.stoodInHeld t = false) (h : EqFs P xs ys d fs.toList r) : EqAtD P t (d + 1) (.agg xs) (.agg ys) r := fun m w => by
  have hf : P.fieldsOf t = fs := by simp [Program.fieldsOf, hu]
  rw [show m + (d + 1) = (m + d) + 1 by omega, run_equalIn_struct w (m + d) t xs ys (by rw [hf]; exact hu) hp, hf]
  exact h.run m w
theorem EqAtD.mono {d d' : Nat} {u : Value} {r : Bool} (h : EqAtD P t d v u r) (hd : d ≤ d') : EqAtD P t d' v u r := fun m w => by
  have := h (m + (d' - d)) w
  rwa [show m + (d' - d) + d = m + d' by omega] at this
theorem part_run {td : TypeDesc} {ti : TypeInfo} {cs cs' : List Value} {off : Nat} (hud : P.underlying t = some td) (hi : P.info? t = some ti)
    (hcs : (cs.drop off).take ti.size = cs') (hl : cs'.length = ti.size) (h1 : aggDesc td = false → ti.size = 1) (hv : cellsVal (aggDesc td) cs' = v) : ∀ w, (part t cs.toArray off).run P w = .ok v w := fun w => by
  have hagg : (Go.isAgg t).run P w = Result.ok (aggDesc td) w := by
    unfold Go.isAgg
    rw [Sem.run_bind, run_underlying hud]
    cases td <;> rfl
  simp only [part, Sem.run_bind, hagg, Result.andThen_ok]
  subst hcs
  cases hd : aggDesc td with
  | true =>
    rw [hd] at hv
    subst hv
    simp [Sem.run_bind, sizeOf, typeInfo, hi, cellsVal]
  | false =>
    rw [hd] at hv
    have h1' := h1 hd
    rw [h1'] at hl hv
    have : cs[off]? = some v := by
      rw [← hv]
      have hlt : off < cs.length := by
        rcases Nat.lt_or_ge off cs.length with h | h
        · exact h
        · rw [List.drop_eq_nil_of_le h] at hl; simp at hl
      rw [List.getElem?_eq_getElem hlt]
      simp only [cellsVal, cond_false, List.drop_eq_getElem_cons hlt, List.take_succ_cons, List.headD_cons]
    simp [this]
theorem r_eql_struct {xs ys : Array Value} {dd : Nat} {r : Bool} (hg : P.eqGuardType P.depth t = false) (hx : opv L b x = .agg xs) (hy : opv L b y = .agg ys) (hd : dd ≤ 10000) (h : EqAtD P t dd (.agg xs) (.agg ys) r) : Runs P σ PV L b ⟨some d, .binOp .eql t x y t', ty, ps, af, g⟩ (.bool r) := fun w _ => by
  have := h (10000 - dd) w
  rw [show 10000 - dd + dd = 10000 by omega] at this
  have h2 : (Op.equal t (.agg xs) (.agg ys)).run P w = .ok r w := this
  simp [execOp, hx, hy, eqGuard, hg, binOp, h2]
theorem r_neq_struct {xs ys : Array Value} {dd : Nat} {r : Bool} (hg : P.eqGuardType P.depth t = false) (hx : opv L b x = .agg xs) (hy : opv L b y = .agg ys) (hd : dd ≤ 10000) (h : EqAtD P t dd (.agg xs) (.agg ys) r) : Runs P σ PV L b ⟨some d, .binOp .neq t x y t', ty, ps, af, g⟩ (.bool !r) := fun w _ => by
  have := h (10000 - dd) w
  rw [show 10000 - dd + dd = 10000 by omega] at this
  have h2 : (Op.equal t (.agg xs) (.agg ys)).run P w = .ok r w := this
  simp [execOp, hx, hy, eqGuard, hg, binOp, h2]
end
end Go.Px
namespace Go.Px
section
variable {ρ : Type} {n : Nat} {w0 : Start} {σ0 σ : FS} {p : Option ρ} {L : List (Nat × Value)} {b : Nat → Value} {PV : List Priv} {P : Program} {Q : ρ → Exit → Act → World → Prop}
theorem J_cond_t {c : Operand} {x y : Code} (hc : opv L b c = .bool true) (h : J n w0 σ0 p (fun r a w => x.wp P (Q r) a w) L b σ PV) : J n w0 σ0 p (fun r a w => (Code.cond c x y).wp P (Q r) a w) L b σ PV :=
  J_cond_any (e := true) hc (fun _ => h) (fun h => by cases h)
theorem J_cond_f {c : Operand} {x y : Code} (hc : opv L b c = .bool false) (h : J n w0 σ0 p (fun r a w => y.wp P (Q r) a w) L b σ PV) : J n w0 σ0 p (fun r a w => (Code.cond c x y).wp P (Q r) a w) L b σ PV :=
  J_cond_any (e := false) hc (fun h => by cases h) (fun _ => h)
end
/-- an element that was taken out, seen as in its row again -/
theorem take_back {α : Type} {T : OTy α} [o : Opn T] {e : TypeId} {v : Value} {s : Sl α} {i : Int} {q : α} {σ : FS} {h : Frag} {C : List Priv} {a : Addr} (u : o.aux) (hf : o.facts σ u q) (hq : gidx s i = some q)
    (k : Sep σ (.hole (fun x => .elem T a x) (fun x => .row T e v (s.set i x)) :: .cell a (o.cells u q) :: (o.own u q ++ C)) h) : Sep σ (.row T e v s :: C) h := by
  obtain ⟨h1, h2, s1, s2, l1, l2, d⟩ := Sep.split (A := .hole (fun x => .elem T a x) (fun x => .row T e v (s.set i x)) :: .cell a (o.cells u q) :: o.own u q) k
  obtain ⟨g1, g2, m1, m2, n1, n2, dd⟩ := s1.uncons
  obtain ⟨c1, c2, k1, k2, p1, p2, d2⟩ := m2.uncons
  have := m1 σ g2 q h1 (.refl _) dd ⟨_, c1, c2, p1, p2, d2, k1, o.back hf k2⟩ n1 n2
  simp only [Sl.set_same hq] at this
  exact .cons this s2 l1 l2 d
end Go.Px
namespace Go.Px
theorem source_copy {α : Type} {T : OTy α} {T' : Ty α} [f : Fixd T T'] {σ : FS} {PV : List Priv} {s : Sl α} {u : Value} {e : TypeId} {A : List Priv} (m : Nat) (hm : PV[m]? = some (.row T e u s)) (w : World) (g : Frag) (hw : Held σ PV w) (sA : Sep σ A g) (hg : g.sub w) : ∃ gA news, gA.le g ∧ T.rels σ gA news s.xs ∧ Source w u s.xs.length news := by
  obtain ⟨h, hr, hs⟩ := hw.get hm
  obtain ⟨gA, news, _, k2, k3⟩ := rowHolds.source hr hs
  exact ⟨Frag.none, news, Frag.none_le _, Fixd.rels.2 (Fixd.rels.1 k2), k3⟩
theorem source_fixed {α : Type} {T : OTy α} {T' : Ty α} [f : Fixd T T'] {σ : FS} {PV : List Priv} {s : Sl α} {u : Value} {A : List Priv} (hv : (tSl T').vrel σ u s) (w : World) (g : Frag) (hw : Held σ PV w) (sA : Sep σ A g) (hg : g.sub w) : ∃ gA news, gA.le g ∧ T.rels σ gA news s.xs ∧ Source w u s.xs.length news := by
  obtain ⟨gA, news, k1, k2, k3⟩ := source_frozen hv w g hw sA hg
  exact ⟨gA, news, k1, Fixd.rels.2 (Ty.rels_o.1 k2), k3⟩
theorem free_row {α : Type} {T : Ty α} [Plain T] {e : TypeId} {v : Value} {s : Sl α} (σ τ : FS) (h : Frag) (r : (Priv.row T.o e v s).holds σ h) : (Priv.row T.o e v s).holds τ h := by
  rcases r with r | r | ⟨q, cap, cur, hb, gg, r1, r2, r3, r4, r5, r0, r6, r7, r8, r9, r10⟩
  · exact .inl r
  · exact .inr (.inl r)
  · exact .inr (.inr ⟨q, cap, cur, hb, gg, r1, r2, r3, r4, r5, r0, r6, r7, r8, r9, Ty.rels_o.2 (Plain.rels (Ty.rels_o.1 r10))⟩)
end Go.Px
namespace Go.Px
/-! results, in temporaries or in cells -/
section
variable {ρ : Type} {n : Nat} {w0 : Start} {w : World} {σ0 σ : FS} {L : List (Nat × Value)} {b : Nat → Value} {PV PV' : List Priv} {P : Program}
/-- what a result variable holds at the end -/
def rvSem (tmps : Array Value) : ResultVar → Sem Value
  | .tmp t => pure (tmps.getD t undef)
  | .cell a t => do loadVar t (← asAddr (tmps.getD a undef))
def RV (P : Program) (σ : FS) (PV : List Priv) (L : List (Nat × Value)) (b : Nat → Value) (rv : ResultVar) (v : Value) : Prop :=
  ∀ (w : World) (tmps : Array Value), Held σ PV w → (∀ i, tmps.getD i undef = look L b i) → (rvSem tmps rv).run P w = .ok v w
theorem rv_tmp {t : Nat} : RV P σ PV L b (.tmp t) (look L b t) := fun w tmps _ h => by
  simp [rvSem, h]
theorem rv_cell {t : Nat} {T : TypeId} {td : TypeDesc} {ti : TypeInfo} {c : Addr} {cs : List Value} {v : Value} (m : Nat) (hu : P.underlying T = some td) (hi : P.info? T = some ti)
    (hx : look L b t = .pointer (some (c.add 0))) (hp : PV[m]? = some (.cell c cs)) (hl : cs.length = ti.size) (h1 : aggDesc td = false → ti.size = 1) (hv : cellsVal (aggDesc td) cs = v) : RV P σ PV L b (.cell t T) v := fun w tmps hw h => by
  obtain ⟨hh, hr, hs⟩ := hw.get hp
  have hr : cellHolds c cs hh := hr
  subst hv
  have := run_loadVar_cells (P := P) (w := w) (c.add 0) cs hu hi hl.symm (fun h => by rw [hl]; exact h1 h) (fun j u hj => by
    rw [Addr.add_add]; simpa using hr.cell hs hj)
  show (do loadVar T (← asAddr (tmps.getD t undef)) : Sem Value).run P w = _
  rw [h t, hx]
  simpa [asAddr] using this
/-- several result variables -/
def RVs (P : Program) (σ : FS) (PV : List Priv) (L : List (Nat × Value)) (b : Nat → Value) : List ResultVar → List Value → Prop
  | [], [] => True
  | r :: rs, v :: vs => RV P σ PV L b r v ∧ RVs P σ PV L b rs vs
  | _, _ => False
theorem results_rv1 {fn : Func} {r1 : ResultVar} {v1 : Value} {tmps : Array Value} (h : fn.results = #[r1]) (h1 : (rvSem tmps r1).run P w = .ok v1 w) : (results fn tmps).run P w = .ok v1 w := by
  have e : results fn tmps = (do let v ← rvSem tmps r1; pure v) := by
    cases r1 <;> simp [results, h, rvSem]
  rw [e]; simp [h1]
theorem results_rv2 {fn : Func} {r1 r2 : ResultVar} {v1 v2 : Value} {tmps : Array Value} (h : fn.results = #[r1, r2]) (h1 : (rvSem tmps r1).run P w = .ok v1 w) (h2 : (rvSem tmps r2).run P w = .ok v2 w) :
    (results fn tmps).run P w = .ok (.tuple #[v1, v2]) w := by
  have e : results fn tmps = (do let v ← rvSem tmps r1; let u ← rvSem tmps r2; pure (.tuple #[v, u])) := by
    cases r1 <;> cases r2 <;> simp [results, h, rvSem]
  rw [e]; simp [h1, h2]
theorem results_rv3 {fn : Func} {r1 r2 r3 : ResultVar} {v1 v2 v3 : Value} {tmps : Array Value} (h : fn.results = #[r1, r2, r3]) (h1 : (rvSem tmps r1).run P w = .ok v1 w) (h2 : (rvSem tmps r2).run P w = .ok v2 w) (h3 : (rvSem tmps r3).run P w = .ok v3 w) :
    (results fn tmps).run P w = .ok (.tuple #[v1, v2, v3]) w := by
  have e : results fn tmps = (do let v ← rvSem tmps r1; let u ← rvSem tmps r2; let z ← rvSem tmps r3; pure (.tuple #[v, u, z])) := by
    cases r1 <;> cases r2 <;> cases r3 <;> simp [results, h, rvSem]
  rw [e]; simp [h1, h2, h3]
theorem results_rv4 {fn : Func} {r1 r2 r3 r4 : ResultVar} {v1 v2 v3 v4 : Value} {tmps : Array Value} (h : fn.results = #[r1, r2, r3, r4]) (h1 : (rvSem tmps r1).run P w = .ok v1 w) (h2 : (rvSem tmps r2).run P w = .ok v2 w) (h3 : (rvSem tmps r3).run P w = .ok v3 w) (h4 : (rvSem tmps r4).run P w = .ok v4 w) :
    (results fn tmps).run P w = .ok (.tuple #[v1, v2, v3, v4]) w := by
  have e : results fn tmps = (do let v ← rvSem tmps r1; let u ← rvSem tmps r2; let z ← rvSem tmps r3; let y ← rvSem tmps r4; pure (.tuple #[v, u, z, y])) := by
    cases r1 <;> cases r2 <;> cases r3 <;> cases r4 <;> simp [results, h, rvSem]
  rw [e]; simp [h1, h2, h3, h4]
theorem results_rv0 {fn : Func} {tmps : Array Value} (h : fn.results = #[]) : (results fn tmps).run P w = .ok (.tuple #[]) w := by
  simp [results, h]
variable {fn : Func} {post : ρ → FS → List Priv → Value → Prop} {r : ρ}
theorem J_returnV0 (hres : fn.results = #[]) (idx : List Nat) (hn : idx.Nodup) (hg : idx.map (fun i => PV[i]?) = PV'.map some) (h : post r σ PV' (.tuple #[])) :
    J n w0 σ0 (some r) (fun r a w => retPost P fn w0 σ0 post r .ret a w) L b σ PV := by
  intro r' hp a w hi hf
  cases hp
  exact bodyPost_ret (results_rv0 hres) hf.defers ⟨_, σ, PV', rfl, hi.sub_own fun g k => k.select idx hn hg, h⟩
theorem J_returnV1 {r1 : ResultVar} {v1 : Value} (hres : fn.results = #[r1]) (h1 : RV P σ PV L b r1 v1)
    (idx : List Nat) (hn : idx.Nodup) (hg : idx.map (fun i => PV[i]?) = PV'.map some) (h : post r σ PV' v1) :
    J n w0 σ0 (some r) (fun r a w => retPost P fn w0 σ0 post r .ret a w) L b σ PV := by
  intro r' hp a w hi hf
  cases hp
  exact bodyPost_ret (results_rv1 hres (h1 w a.tmps hi.held hf.get)) hf.defers ⟨_, σ, PV', rfl, hi.sub_own fun g k => k.select idx hn hg, h⟩
theorem J_returnV2 {r1 r2 : ResultVar} {v1 v2 : Value} (hres : fn.results = #[r1, r2]) (h1 : RV P σ PV L b r1 v1) (h2 : RV P σ PV L b r2 v2)
    (idx : List Nat) (hn : idx.Nodup) (hg : idx.map (fun i => PV[i]?) = PV'.map some) (h : post r σ PV' (.tuple #[v1, v2])) :
    J n w0 σ0 (some r) (fun r a w => retPost P fn w0 σ0 post r .ret a w) L b σ PV := by
  intro r' hp a w hi hf
  cases hp
  exact bodyPost_ret (results_rv2 hres (h1 w a.tmps hi.held hf.get) (h2 w a.tmps hi.held hf.get)) hf.defers ⟨_, σ, PV', rfl, hi.sub_own fun g k => k.select idx hn hg, h⟩
theorem J_returnV3 {r1 r2 r3 : ResultVar} {v1 v2 v3 : Value} (hres : fn.results = #[r1, r2, r3]) (h1 : RV P σ PV L b r1 v1) (h2 : RV P σ PV L b r2 v2) (h3 : RV P σ PV L b r3 v3)
    (idx : List Nat) (hn : idx.Nodup) (hg : idx.map (fun i => PV[i]?) = PV'.map some) (h : post r σ PV' (.tuple #[v1, v2, v3])) :
    J n w0 σ0 (some r) (fun r a w => retPost P fn w0 σ0 post r .ret a w) L b σ PV := by
  intro r' hp a w hi hf
  cases hp
  exact bodyPost_ret (results_rv3 hres (h1 w a.tmps hi.held hf.get) (h2 w a.tmps hi.held hf.get) (h3 w a.tmps hi.held hf.get)) hf.defers ⟨_, σ, PV', rfl, hi.sub_own fun g k => k.select idx hn hg, h⟩
theorem J_returnV4 {r1 r2 r3 r4 : ResultVar} {v1 v2 v3 v4 : Value} (hres : fn.results = #[r1, r2, r3, r4]) (h1 : RV P σ PV L b r1 v1) (h2 : RV P σ PV L b r2 v2) (h3 : RV P σ PV L b r3 v3) (h4 : RV P σ PV L b r4 v4)
    (idx : List Nat) (hn : idx.Nodup) (hg : idx.map (fun i => PV[i]?) = PV'.map some) (h : post r σ PV' (.tuple #[v1, v2, v3, v4])) :
    J n w0 σ0 (some r) (fun r a w => retPost P fn w0 σ0 post r .ret a w) L b σ PV := by
  intro r' hp a w hi hf
  cases hp
  exact bodyPost_ret (results_rv4 hres (h1 w a.tmps hi.held hf.get) (h2 w a.tmps hi.held hf.get) (h3 w a.tmps hi.held hf.get) (h4 w a.tmps hi.held hf.get)) hf.defers ⟨_, σ, PV', rfl, hi.sub_own fun g k => k.select idx hn hg, h⟩
end
end Go.Px
namespace Go.Px
/-- an operation whose outcome is known ahead -/
theorem op_known {ρ α : Type} {P : Program} {n : Nat} {w0 : Start} {σ0 σ : FS} {o : Oper} {p : Option ρ} {L : List (Nat × Value)} {b : Nat → Value} {PV : List Priv} {H : Option ρ → List (Nat × Value) → FS → List Priv → Prop} {x : Option α} {y : α} (hx : x = some y)
    (h : OpOK P n w0 σ0 o (x.bind fun _ => p) L b σ PV H) : OpOK P n w0 σ0 o p L b σ PV H := by
  subst hx; exact h
end Go.Px
