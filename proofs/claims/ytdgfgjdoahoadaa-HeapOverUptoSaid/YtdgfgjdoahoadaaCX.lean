/- A call by views whose results are owned. -/
import Derived.Test.YtdgfgjdoahoadaaCW
namespace Go.Px
set_option linter.unusedVariables false
section
variable {ρ : Type} {n : Nat} {w0 : Start} {σ0 σ : FS} {p : Option ρ} {L : List (Nat × Value)} {b : Nat → Value} {PV PV' : List Priv} {P : Program}
theorem Inv.past_own {w w' : World} {τ σ' : FS} {A' : List Priv} (hi : Inv w0 σ0 σ PV w) (hle : σ.le τ) (k : Inv ⟨w, Frag.none⟩ τ σ' A' w') (hf : ∀ h, Sep σ' A' h → Sep σ A' h) : Inv w0 σ0 σ (A' ++ PV) w' := by
  obtain ⟨h, hs, hg⟩ := hi.own
  obtain ⟨h', hs', hg'⟩ := k.own
  have hl2 := hle.trans k.le
  have k2 : Inv ⟨w, Frag.none⟩ σ σ A' w' := ⟨hl2.sub k.sub, .refl σ, fun _ _ _ e => .inl e, ⟨h', hf h' hs', hg'.sub, fun q o e => by
    cases hx : σ q o with
    | none => rfl
    | some v => exact absurd (hg'.apart q o e) (by rw [hl2 q o v hx]; simp), hg'.mine⟩, k.ext⟩
  exact hi.call (A' := A') (C := PV) (h1 := Frag.none) (h2 := h) hg hs (Frag.none_le _) (.refl _) (Frag.none_disj _) k2
theorem op_call_vown {α : Type} {x : Option α} {k : α → Option ρ} {H : Option ρ → List (Nat × Value) → FS → List Priv → Prop} {d : Nat} {f : FuncId} {fn : Func} {cl : Call} {ty : TypeId} {ps : String} {af : Array Edge} {g : Option (Nat × Bool)}
    {args : List Value} {post : FS → α → FS → List Priv → Value → Prop} {F : FS → Prop} {c : Operand} {ca : Array Value}
    (hn : Nat.blt d n = true) (hc : cl.callee = .value c) (hfv : opv L b c = .func (.func f) #[] ca) (hf : P.funcs[f]? = some fn) (hnm : (fn.name == "runtime.NumGoroutine") = false) (hb : fn.body.isNone = false)
    (ha : cl.args.toList.map (opv L b) ++ ca.toList = args)
    (hv : ∀ w, Inv w0 σ0 σ PV w → ∃ τ, σ.le τ ∧ τ.sub w ∧ F τ)
    (hcall : ∀ y s τ, x = some y → F τ → σ.le τ → Pre s τ [] → Does P f args s τ (post τ y))
    (hfree : ∀ y v τ σ' A', x = some y → F τ → σ.le τ → τ.le σ' → post τ y σ' A' v → ∀ h, Sep σ' A' h → Sep σ A' h)
    (h : ∀ y v τ σ' A', x = some y → F τ → σ.le τ → post τ y σ' A' v → H (k y) ((d, v) :: L) σ (A' ++ PV)) :
    OpOK P n w0 σ0 ⟨some d, .call cl, ty, ps, af, g⟩ (x.bind k) L b σ PV H := by
  intro r hp a w hi hft K Q hK
  cases hx : x with
  | none => rw [hx] at hp; cases hp
  | some y =>
    rw [hx] at hp
    obtain ⟨τ, hle, hsub, hF⟩ := hv w hi
    have hdoes := hcall y ⟨w, Frag.none⟩ τ hx hF hle (Pre.empty hsub)
    have hrun : (execOp a.eval ⟨some d, .call cl, ty, ps, af, g⟩).run P w = .ok (.enter f args.toArray) w := by
      have ha' : cl.args.map (opv L b) ++ ca = args.toArray := by subst ha; apply Array.toList_inj.1; simp
      rw [hft.eval, ← ha']
      simp only [execOp, resolve, hc, hfv, Deferred.ofValue, Sem.run_bind, Sem.run_pure, Result.andThen_ok, invoke]
      unfold callFunc
      simp only [Sem.run_bind, run_program, Result.andThen_ok, hf, hnm, hb, Bool.false_eq_true, if_false, Sem.run_pure, Array.empty_append]
    unfold Oper.wp
    rw [hrun, Oper.upon_enter]
    refine Calls.mono hdoes ?_
    rintro e w' ⟨v, σ', A', rfl, hi', hpost⟩
    exact hK (k y) _ σ _ _ w' hp (hi.past_own hle hi' (hfree y v τ σ' A' hx hF hle hi'.le hpost)) (hft.put (by simpa [Nat.blt_eq] using hn) v) (h y v τ σ' A' hx hF hle hpost)
end
end Go.Px
