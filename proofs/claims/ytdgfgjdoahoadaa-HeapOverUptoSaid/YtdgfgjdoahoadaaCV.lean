/- Lending: a call that only looks at rows of one's own, through views that hold for the time of the call. -/
import Derived.Test.YtdgfgjdoahoadaaCB
namespace Go.Px
set_option linter.unusedVariables false
section
variable {ρ : Type} {n : Nat} {w0 : Start} {σ0 σ : FS} {p : Option ρ} {L : List (Nat × Value)} {b : Nat → Value} {PV PV' : List Priv} {P : Program}
/-- behind a call to which nothing was handed all stands as before -/
theorem Inv.past {w w' : World} {τ σ' : FS} {A' : List Priv} (hi : Inv w0 σ0 σ PV w) (hle : σ.le τ) (k : Inv ⟨w, Frag.none⟩ τ σ' A' w') : Inv w0 σ0 σ PV w' := by
  obtain ⟨h, hs, hg⟩ := hi.own
  have k2 : Inv ⟨w, Frag.none⟩ σ σ [] w' := ⟨(hle.trans k.le).sub k.sub, .refl σ, fun _ _ _ e => .inl e, ⟨Frag.none, Sep.nil, fun _ _ _ (e : (none : Option Bit) = some _) => (by cases e), fun _ _ (e : (none : Option Bit).isSome = true) => by simp at e, fun _ _ (e : (none : Option Bit).isSome = true) => by simp at e⟩, k.ext⟩
  exact hi.call (A' := []) (C := PV) (h1 := Frag.none) (h2 := h) hg hs (Frag.none_le _) (.refl _) (Frag.none_disj _) k2
theorem op_call_view {α : Type} {x : Option α} {k : α → Option ρ} {H : Option ρ → List (Nat × Value) → FS → List Priv → Prop} {d : Nat} {f : FuncId} {fn : Func} {cl : Call} {ty : TypeId} {ps : String} {af : Array Edge} {g : Option (Nat × Bool)}
    {args : List Value} {post : FS → α → FS → List Priv → Value → Prop} {F : FS → Prop} {c : Operand} {ca : Array Value}
    (hn : Nat.blt d n = true) (hc : cl.callee = .value c) (hfv : opv L b c = .func (.func f) #[] ca) (hf : P.funcs[f]? = some fn) (hnm : (fn.name == "runtime.NumGoroutine") = false) (hb : fn.body.isNone = false)
    (ha : cl.args.toList.map (opv L b) ++ ca.toList = args)
    (hv : ∀ w, Inv w0 σ0 σ PV w → ∃ τ, σ.le τ ∧ τ.sub w ∧ F τ)
    (hcall : ∀ y s τ, x = some y → F τ → σ.le τ → Pre s τ [] → Does P f args s τ (post τ y))
    (h : ∀ y v τ σ' A', x = some y → F τ → σ.le τ → post τ y σ' A' v → H (k y) ((d, v) :: L) σ PV) :
    OpOK P n w0 σ0 ⟨some d, .call cl, ty, ps, af, g⟩ (x.bind k) L b σ PV H := by
  intro r hp a w hi hft K Q hK
  cases hx : x with
  | none => rw [hx] at hp; cases hp
  | some y =>
    rw [hx] at hp
    obtain ⟨τ, hle, hsub, hF⟩ := hv w hi
    have hdoes := hcall y ⟨w, Frag.none⟩ τ hx hF hle (Pre.empty hsub)
    have hrun : (execOp a.eval ⟨some d, .call cl, ty, ps, af, g⟩).run P w = .ok (.enter f args.toArray) w := by
      have ha' : cl.args.map (opv L b) ++ ca = args.toArray := by subst ha; apply Array.toList_inj.1; simp
      rw [hft.eval, ← ha']
      simp only [execOp, resolve, hc, hfv, Deferred.ofValue, Sem.run_bind, Sem.run_pure, Result.andThen_ok, invoke]
      unfold callFunc
      simp only [Sem.run_bind, run_program, Result.andThen_ok, hf, hnm, hb, Bool.false_eq_true, if_false, Sem.run_pure, Array.empty_append]
    unfold Oper.wp
    rw [hrun, Oper.upon_enter]
    refine Calls.mono hdoes ?_
    rintro e w' ⟨v, σ', A', rfl, hi', hpost⟩
    exact hK (k y) _ σ _ _ w' hp (hi.past hle hi') (hft.put (by simpa [Nat.blt_eq] using hn) v) (h y v τ σ' A' hx hF hle hpost)
/-- rows of one's own, seen as if they were held fast: one after the other -/
theorem view_cons {α : Type} {T : OTy α} {T' : Ty α} [Frz T T'] {e : TypeId} {v : Value} {s : Sl α} {F : FS → Prop} (m : Nat) (hm : PV[m]? = some (.row T e v s)) (hl : PV.eraseIdx m = PV')
    (k : ∀ τ, σ.le τ → (tSl T').vrel τ v s → ∀ w, Inv w0 σ0 τ PV' w → ∃ τ', τ.le τ' ∧ τ'.sub w ∧ F τ') : ∀ w, Inv w0 σ0 σ PV w → ∃ τ', σ.le τ' ∧ τ'.sub w ∧ F τ' := fun w hi => by
  obtain ⟨h1, hh, hsub, hle, hi'⟩ := hi.freeze hm
  subst hl
  have hh : rowHolds T e v s σ h1 := hh
  obtain ⟨τ', q1, q2, q3⟩ := k _ hle (hh.fast hle fun b o v e => with_cell b o v e) w hi'
  exact ⟨τ', hle.trans q1, q2, q3⟩
theorem view_nil {F : FS → Prop} (h : F σ) : ∀ w, Inv w0 σ0 σ PV w → ∃ τ', σ.le τ' ∧ τ'.sub w ∧ F τ' := fun w hi => ⟨σ, .refl σ, hi.sub, h⟩
/-- what a slice of a slice is, as a value -/
def sliceV (v : Value) (i j : Int) (size : Nat) : Value :=
  match v with
  | .slice a _ c => .slice (if (c : Int) = i then a else a.map (·.add (i.toNat * size))) (j - i).toNat (c - i.toNat)
  | v => v
theorem vrel_slice {α : Type} {τ : FS} {T : Ty α} {s s' : Sl α} {v : Value} {i j : Int} {z : Nat} (hz : z = T.size) (hv : (tSl T).vrel τ v s) (hs : gslice s i j = some s') : (tSl T).vrel τ (sliceV v i j z) s' := by
  subst hz
  obtain ⟨h1, h2, h3, rfl⟩ := gslice_some hs
  obtain ⟨a, m, c, rfl, k1, k2, k3, k4, k5, cells, k6, k7⟩ := tSl_v.1 hv
  refine tSl_v.2 ⟨_, _, _, rfl, ?_, ?_, ?_, ?_, ?_, (cells.take (j.toNat * T.size)).drop (i.toNat * T.size), ?_, ?_⟩
  · simp only [List.length_drop, List.length_take]; omega
  · rw [← k2]; split <;> simp
  · omega
  · omega
  · intro hnone
    have : a = none := by split at hnone <;> simpa using hnone
    obtain ⟨rfl, rfl⟩ := k5 this
    omega
  · exact T.rels_drop _ (T.rels_take _ k6)
  · intro q u hq
    rw [List.getElem?_drop] at hq
    have hlt : i.toNat * T.size + q < j.toNat * T.size := by
      have := (List.getElem?_eq_some_iff.1 hq).1
      simp only [List.length_take] at this; omega
    rw [List.getElem?_take_of_lt hlt] at hq
    obtain ⟨ad, rfl, hc⟩ := k7 _ _ hq
    have hne : ¬ (c : Int) = i := by
      intro e
      have : i.toNat = j.toNat := by omega
      rw [this] at hlt; omega
    refine ⟨ad.add (i.toNat * T.size), by simp [hne], ?_⟩
    rw [Addr.add_add]; exact hc
theorem r_slice_view {α : Type} {T : OTy α} {s s' : Sl α} {v : Value} {e e' t ty : TypeId} {ti : TypeInfo} {x : Operand} {d : Nat} {ps : String} {af : Array Edge} {g : Option (Nat × Bool)} {lo hi : Option Operand} {i j : Int} (m : Nat) (hu : P.underlying t = some (.slice e)) (hi' : P.info? e = some ti) (hz : ti.size = T.size)
    (hx : opv L b x = v) (hm : PV[m]? = some (.row T e' v s)) (hl : optInt L b lo 0 i) (hh : optInt L b hi s.len j) (hs : gslice s i j = some s') :
    Runs P σ PV L b ⟨some d, .slice t x lo hi none, ty, ps, af, g⟩ (sliceV v i j T.size) := fun w hw => by
  obtain ⟨h1, h2, h3, rfl⟩ := gslice_some hs
  obtain ⟨hh0, hr, _⟩ := hw.get hm
  obtain ⟨a, c, rfl, k2, k3, k3', k4, k5⟩ := rowHolds.form hr
  have hb := run_sliceBounds_opt (P := P) (w := w) (isS := true) (m := s.xs.length) (c := c) hl hh h1 h2 (by omega)
  have hs2 : (Instr.sliceAt t (.slice a s.xs.length c) (lo.map (opv L b)) (hi.map (opv L b)) none).run P w = .ok (.slice (if (c : Int) = i then a else a.map (·.add (i.toNat * T.size))) (j - i).toNat (c - i.toNat)) w := by
    unfold Instr.sliceAt Instr.slice
    simp only [Sem.run_bind, run_underlying hu, Result.andThen_ok]
    simp only [Sem.run_bind, Result.andThen_ok, hb, sizeOf, typeInfo, run_program, hi', Sem.run_pure, hz]
    rw [show j.toNat - i.toNat = (j - i).toNat by omega]
    by_cases hci : (c : Int) = i
    · rw [if_pos hci, if_pos (by omega)]
    · rw [if_neg hci, if_neg (by omega)]
  simp only [execOp, hx, Sem.run_bind, hs2, Result.andThen_ok, Sem.run_pure, Option.map_none, sliceV]
end
end Go.Px
