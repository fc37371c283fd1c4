/- CertProves, plainly. -/
import Derived.Test.YtpeglggahhlabaaP05C
import Derived.Test.YtpeglggahhlabaaP05D
namespace Go.Px
set_option linter.unusedVariables false

theorem circ_of {n : Nat} {fs : List Leq} {c : List Int} (hf : Fit n fs) (h : Circle fs c) (hl : c.length ≤ n) : Circ fs c := by
  have hn := hf.n2
  refine ⟨h.ne, by omega, fun i hi => ?_, fun i hi => ?_, h.neg⟩
  · have h1 := h.lt i hi
    obtain ⟨_, _, c1, c2, _⟩ := hf.at (i := (At c i).toNat) (by omega)
    have e : gC fs (At c i) = fc fs (At c i).toNat := rfl
    exact ⟨h1.1, h1.2, by rw [e]; omega, by rw [e]; omega⟩
  · have h1 := h.lt i hi
    have hm : (i + 1) % c.length < c.length := Nat.mod_lt _ h.ne
    have h2 := h.lt _ hm
    obtain ⟨_, _, _, _, _, hY⟩ := hf.at (i := (At c i).toNat) (by omega)
    obtain ⟨_, _, _, _, hX, _⟩ := hf.at (i := (At c ((i + 1) % c.length)).toNat) (by omega)
    show (fs.getD (At c i).toNat default).Y = (fs.getD (At c ((i + 1) % c.length)).toNat default).X
    rw [hY, hX, h.link i hi]
theorem holds_of {n : Nat} {fs : List Leq} {v d : List Int} (hf : Fit n fs) (hB : Best n fs d) (hl : v.length = n) (hv : ∀ x, x < n → At v x = At d x - At d 0) : HoldsP v fs := by
  intro f hm
  have hn := hf.n2
  have hn1 := hf.n1
  have hfm := hf.ok f hm
  have hx : f.X.toNat < n := by omega
  have hy : f.Y.toNat < n := by omega
  have h1 : At d f.X.toNat ≤ At d f.Y.toNat + f.C := by
    obtain ⟨i, hi, rfl⟩ := List.getElem_of_mem hm
    have := hB.sol i hi
    unfold fx fy fc at this
    rw [List.getD_eq_getElem?_getD, List.getElem?_eq_getElem hi] at this
    exact this
  have b1 := hB.near hf _ hx; have b2 := hB.near hf _ hy; have b3 := hB.near hf 0 (by omega)
  have c1 := hB.hi _ hx; have c2 := hB.hi _ hy; have c3 := hB.hi 0 (by omega)
  unfold OkH
  rw [hv _ hx, hv _ hy, hl]
  omega
theorem certProves_law (a0 : Int) (a1 : Gdiff_Leq) (a2 : Sl Gdiff_Leq) (hw : 1 + (1 + 1 + 1 + 1) + ((a2.xs.map (fun y => (1 + 1 + 1 + 1))).sum + 1) ≤ 1048576) (g0 : (IntKind.i64.min ≤ a0 ∧ a0 ≤ IntKind.i64.max)) (g1 : ((IntKind.i64.min ≤ a1.X ∧ a1.X ≤ IntKind.i64.max) ∧ (IntKind.i64.min ≤ a1.Y ∧ a1.Y ≤ IntKind.i64.max) ∧ (IntKind.i64.min ≤ a1.C ∧ a1.C ≤ IntKind.i64.max))) (g2 : ((a2.nn = false → a2.xs = []) ∧ a2.xs.length ≤ maxLen ∧ ∀ y ∈ a2.xs, ((IntKind.i64.min ≤ y.X ∧ y.X ≤ IntKind.i64.max) ∧ (IntKind.i64.min ≤ y.Y ∧ y.Y ≤ IntKind.i64.max) ∧ (IntKind.i64.min ≤ y.C ∧ y.C ≤ IntKind.i64.max)))) : lychgatelaw05_CertProves a0 a1 a2 = some true := by
  apply tot_val
  have l2 : a2.xs.length ≤ 1048576 := len_of_w a2.xs (fun _ => 1 + 1 + 1 + 1) (fun _ => by omega) _ (by omega)
  unfold lychgatelaw05_CertProves
  have hE := entails_ok a0 a1 a2 l2 g2.1
  obtain ⟨rE, hEe, e1, e2, e3⟩ := hE
  have hprove : Tot (cert_Prove a0 a1 a2) fun q => q.2 = rE.2 ∧ (rE.2 ≠ 0 → q.1.Yes = false ∧ q.1.Cycle.xs = [] ∧ q.1.Numbers.xs = []) ∧ (rE.2 = 0 → q.1.Yes = rE.1 ∧ CheckP q.1 a0 a1 a2.xs ∧ q.1.Cycle.xs.length ≤ 1048576) := by
    unfold cert_Prove
    refine tot_bind (tot_eq hEe (tot_ifd (fun h => tot_some ⟨rfl, fun _ => ⟨rfl, rfl, rfl⟩, fun h2 => absurd h2 h⟩) (fun h => ?_)))
    have h0 : rE.2 = 0 := Classical.not_not.1 h
    have hent : entV a0 a1 a2.xs = 0 := by rw [← e1]; exact h0
    obtain ⟨nn, hcl⟩ := clone_ok a2 l2 g2.1
    obtain ⟨hf1, hn, hgC⟩ := ent_fit hent
    have hg := hf1.ok a1 (by simp)
    have hfl := hf1.len
    simp only [List.length_append, List.length_cons, List.length_nil] at hfl
    have hfit : Fit a0.toNat (a2.xs ++ [tg a1]) := by
      refine ⟨hf1.n1, hf1.n2, by simp; omega, fun f hm => ?_⟩
      rcases List.mem_append.1 hm with hm | hm
      · exact hf1.ok f (List.mem_append_left _ hm)
      · simp only [List.mem_cons, List.not_mem_nil, or_false] at hm
        subst hm
        simp only [tg]
        omega
    have hfv : fitV a0 (a2.xs ++ [tg a1]) = 0 := by rw [← hn]; exact fitV_ok hfit
    refine tot_bind (tot_eq hcl (tot_bind (tot_eq (turned_ok hent) (tot_bind (tot_eq (gapp_ok (by simp; omega) (by simp; omega)) (tot_bind ((solve_ok a0 ⟨a2.xs ++ [tg a1], _⟩).mono fun r hr => tot_some ?_)))))))
    have hn2 := hfit.n2
    cases hr with
    | unfit h => exact absurd hfv h
    | circle c _ hf _ hC hl =>
      have hyes : rE.1 = true := (e3 h0).2 fun z hz => by
        apply Classical.byContradiction
        intro hno
        exact hC.none (z := z) (sol_snoc.2 ⟨hz, by simp only [tg]; omega⟩)
      refine ⟨h0.symm, fun h2 => absurd h0 h2, fun _ => ⟨rfl, ⟨hent, fun _ => ⟨rfl, circ_of hf hC hl⟩, fun hy => ?_⟩, by simp only; omega⟩⟩
      simp only at hy
      rw [hyes] at hy; simp at hy
    | best v d _ hf _ hB hl hv =>
      have hno : rE.1 = false := by
        cases hb : rE.1 with
        | false => rfl
        | true =>
          obtain ⟨s1, s2⟩ := sol_snoc.1 hB.isSol
          have := (e3 h0).1 hb _ s1
          simp only [tg] at s2
          omega
      refine ⟨h0.symm, fun h2 => absurd h0 h2, fun _ => ⟨rfl, ⟨hent, fun hy => ?_, fun _ => ⟨rfl, by simp only [hl]; exact hn, holds_of hf hB hl hv⟩⟩, by simp⟩⟩
      simp only at hy
      rw [hno] at hy; simp at hy
  refine tot_bind (hprove.mono fun q ⟨q1, q2, q3⟩ => tot_bind (tot_eq hEe (tot_bind (tot_eq wakes5_ok ?_))))
  rw [q1]
  simp only [Bool.not_true, ne_eq, not_true_eq_false, decide_false, Bool.or_self, Bool.false_eq_true, if_false]
  refine tot_ifd (fun h => tot_some ?_) (fun h => ?_)
  · obtain ⟨k1, k2, k3⟩ := q2 h
    rw [k1, sl_len, sl_len, k2, k3]
    simp [wrap_id]
  · obtain ⟨k1, k2, k3⟩ := q3 (Classical.not_not.1 h)
    refine tot_bind (tot_if (fun _ => tot_bind ((check_ok q.1 a0 a1 a2 l2 g2.1 k3).mono fun b hb => tot_some (tot_some (hb.2 k2)))) (fun hne => ?_))
    rw [k1] at hne
    simp at hne
end Go.Px
