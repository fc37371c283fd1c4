/- Full slice expressions: a row of one's own, clipped (s[:len(s):len(s)]). -/
import Derived.Test.YtdgfgjdoahoadaaCV
namespace Go.Px
set_option linter.unusedVariables false
section
variable {ρ : Type} {n : Nat} {w0 : Start} {σ0 σ : FS} {p : Option ρ} {L : List (Nat × Value)} {b : Nat → Value} {PV PV' : List Priv} {P : Program}
variable {H : Option ρ → List (Nat × Value) → FS → List Priv → Prop} {d : Nat} {v : Value} {t ty : TypeId} {ps : String} {af : Array Edge} {g : Option (Nat × Bool)} {x : Operand}
theorem op_clip_row {α : Type} {T : OTy α} {s : Sl α} {e e' : TypeId} {ti : TypeInfo} {hi mx : Operand} {k k' : IntKind} (m : Nat) (hn : Nat.blt d n = true) (hu : P.underlying t = some (.slice e)) (hi' : P.info? e = some ti) (hz : ti.size = T.size)
    (hx : opv L b x = v) (hm : PV[m]? = some (.row T e' v s)) (hh : opv L b hi = .int k s.len) (hc : opv L b mx = .int k' s.len)
    (h : ∀ v', H p ((d, v') :: L) σ (PV.set m (.row T e' v' s))) :
    OpOK P n w0 σ0 ⟨some d, .slice t x none (some hi) (some mx), ty, ps, af, g⟩ p L b σ PV H := by
  intro r hp a w hinv hft K Q hK
  obtain ⟨hh0, hr, hsub⟩ := hinv.held.get hm
  obtain ⟨a0, c, rfl, k2, k3, k3', k4, k5⟩ := rowHolds.form hr
  have hb1 := fun code => run_sliceBound (P := P) w k' s.len c code (by show _; unfold Sl.len; omega) (by show _; unfold Sl.len; omega)
  have hb2 := fun code => run_sliceBound (P := P) w k s.len s.xs.length code (by show _; unfold Sl.len; omega) (by show _; unfold Sl.len; omega)
  have ht : s.len.toNat = s.xs.length := by show _; unfold Sl.len; omega
  have hs2 : (Instr.sliceAt t (.slice a0 s.xs.length c) none (some (.int k s.len)) (some (.int k' s.len))).run P w = .ok (.slice a0 s.xs.length s.xs.length) w := by
    unfold Instr.sliceAt Instr.slice Instr.sliceBounds
    simp only [Sem.run_bind, run_underlying hu, Result.andThen_ok]
    simp only [Sem.run_bind, Result.andThen_ok, hb1, ht, hb2, sizeOf, typeInfo, run_program, hi', Sem.run_pure, hz]
    cases a0 with
    | none => simp
    | some a0 => by_cases h0 : s.xs.length = 0
                 · simp [h0]
                 · rw [if_neg (by omega)]; simp [Addr.add]
  have hrun : (execOp a.eval ⟨some d, .slice t x none (some hi) (some mx), ty, ps, af, g⟩).run P w = .ok (.value (.slice a0 s.xs.length s.xs.length)) w := by
    rw [hft.eval]; simp only [execOp, hx, hh, hc, Sem.run_bind, hs2, Result.andThen_ok, Sem.run_pure, Option.map_none, Option.map_some]
  unfold Oper.wp
  rw [hrun, Oper.upon_value]
  refine hK _ _ σ _ _ w hp (hinv.change hm (p' := .row T e' (.slice a0 s.xs.length s.xs.length) s) fun g1 hg1 hs1 => ⟨g1, ?_, hs1, .refl w g1, fun b i hx => .inl hx⟩) (hft.put (by simpa [Nat.blt_eq] using hn) _) (h _)
  have hg1 : rowHolds T e' (.slice a0 s.xs.length c) s σ g1 := hg1
  rcases hg1 with ⟨q1, rfl⟩ | ⟨aq, q1, rfl⟩ | ⟨gb, cap, cur, hb', gg, q1, r2, r3, r4, r5, r0, r6, r7, r8, r9, r10⟩
  · cases q1; exact .inl ⟨rfl, rfl⟩
  · cases q1; exact .inr (.inl ⟨aq, rfl, rfl⟩)
  · cases q1
    refine .inr (.inr ⟨gb, s.xs.length, cur, hb', gg, rfl, r2, Nat.le_refl _, by omega, ?_, r0, r6, r7, r8, r9, r10⟩)
    exact Nat.le_trans (Nat.mul_le_mul_right _ r3) r5
end
end Go.Px
