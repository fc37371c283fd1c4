/- CertTurned: for every input of bulk at most 1048576 the call returns true and changes nothing. Condition: uptoSmall. -/
import Derived.Test.YtpeglggahhlabaaMs
import Derived.Test.YtpeglggahhlabaaRf1
import Derived.Test.YtpeglggahhlabaaRf2
import Derived.Test.YtpeglggahhlabaaLCertTurned
namespace Go.Proofs.Ytpeglggahhlabaa.certTurned
open Go.ChangeShapes Go.WideShapes Go.ChangeAt Go.RowKit Go.Px
set_option linter.unusedVariables false

theorem own : ownKnob Try.prog.godebug = none := by kernel_rfl
theorem laid : laidOutB Try.prog = true := by kernel_rfl
theorem readable : ∀ t ∈ Try.f6.params.toList, Try.prog.readableRec t = true ∧ t < Try.prog.types.size := by
  have h : (Try.f6.params.toList.all fun t => Try.prog.readableRec t && decide (t < Try.prog.types.size)) = true := by kernel_rfl
  intro t ht
  simpa using List.all_eq_true.1 h t ht

theorem contract (H : Type) (enc : TypeId × Value → H) (W : World) (base : Nat) (args : Array Value) (ds gs : List (DataW H)) (before : List MemPlace)
    (hval : ∀ (j : Nat) t v, Try.f6.params[j]? = some t → args[j]? = some v → Value.okWide Try.prog W .any base t v)
    (hW : DataW.Whole enc Try.prog Try.f6.params.toList Rows.certTurnedSpec.vars false W args.toList ds gs before) (hk : Rows.uptoSmall H (ds ++ gs) = true) :
    Calls Try.prog 6 args W fun e W' => ∃ v, e = .returned v ∧ Rows.certTurnedSpec.post enc Try.prog Try.f6 false true false false W args v W' := by
  have hW' := hW
  obtain ⟨p, q, hA0, hV, rfl, hfz, hnd⟩ := hW
  have hA : DataW.TrodAll enc Try.prog W 0 (fun _ => true) true Try.f6.params.toList args.toList ds p := hA0
  have hAk := hA
  rw [Try.params6] at hA hval
  obtain ⟨v0, vs0, d0, ds0, p0, q0, hargs0, rfl, rfl, h0, r0⟩ := trodAll_cons hA
  obtain ⟨v1, vs1, d1, ds1, p1, q1, hargs1, rfl, rfl, h1, r1⟩ := trodAll_cons r0
  subst hargs1
  obtain ⟨rfl, rfl, rfl⟩ := trodAll_nil r1
  obtain rfl : args = #[v0, v1] := by cases args; simp_all
  obtain ⟨rfl, rfl⟩ := trodVars_none hV
  obtain ⟨a0, k0, w0, g0⟩ := vrel_of_okWide (rd_slice Try.pu30 Try.pc30 (rd_int Try.pu2 Try.pc2)) (hval 0 30 v0 rfl rfl) enc bulk_meas h0
  obtain ⟨a1, k1, w1, g1⟩ := vrel_of_okWide (rd_int Try.pu3 Try.pc3) (hval 1 3 v1 rfl rfl) enc bulk_meas h1
  obtain rfl := tInt_v.1 k1
  have hw : ((a0.xs.map (fun y => 1)).sum + 1) + 1 ≤ 1048576 := by
    have hb : Rows.uptoBulkAll [d0, d1] ≤ 1048576 := of_decide_eq_true hk
    simp only [Rows.uptoBulkAll] at hb
    try simp only at w0 w1
    omega
  have hlaw := certTurned_law a0 a1 hw g0 g1
  refine (lychgatelaw05_CertTurned_ref ⟨W, Frag.none⟩ (snap W) v0 a0 k0 a1 (Pre.empty (snap_sub W)) true hlaw).mono fun e W2 he => ?_
  obtain ⟨v, σ, PV, rfl, hi, rfl, rfl, rfl⟩ := he
  simp only [List.append_nil] at hW' hAk
  exact ⟨_, rfl, post_of_same (pv := []) hW' (fun _ _ _ => (trodAll_cons_mk (shut_bool Try.underlying4 _) trodAll_mk0)) (fun sp hsp => trodAll_ext laid hi.ext readable hAk (fun x hx => hW'.lt x hx) hsp) (fun _ _ => rfl) (by simp)
    (keptBut_ext hi.ext _) hi.ext.fz (ok_one (by kernel_rfl) rfl (okWide_bool_mk Try.underlying4 _))⟩

set_option maxRecDepth 100000 in
theorem lifted (os : Os) (started : os.Started) (H : Type) (enc : TypeId × Value → H) (F : Stop.Interp) :
    ReturnsInHanded {} Try.checked os 6 .any ((Rows.OpenSpec.upto Rows.certTurnedSpec).pre6 enc Try.prog Try.f6 Rows.certTurnedUptoRow.domain false) (((Rows.OpenSpec.upto Rows.certTurnedSpec).at F).post enc Try.prog Try.f6 false true false false) := by
  refine returnsInHanded_of_cond (C := Try.checked) (s := Rows.OpenSpec.upto Rows.certTurnedSpec) (k := Rows.uptoSmall) rfl own started (by kernel_rfl) Try.func6
    (OpenSpec.witness (enc := enc) (C := Try.checked) (s := Rows.OpenSpec.upto Rows.certTurnedSpec) (k := Rows.uptoSmall) rfl false ⟨#[], #[.slice none 0 0, .int .i64 0], []⟩ 8 (by kernel_rfl) (by kernel_rfl) (by kernel_rfl)
      (x := ([.nil, .lit (.int .i64 0)], [], [])) (by kernel_rfl) rfl (by kernel_rfl)) ?_
  intro W base args ds gs before hval hW _ hk _
  exact contract H enc W base args ds gs before hval hW hk

theorem over : Rows.certTurnedUptoRow.holds Try.pinned (Rows.OpenSpec.upto Rows.certTurnedSpec) :=
  OpenClaim.holds_of_cond 6 Try.f6 rfl rfl rfl rfl rfl rfl rfl ⟨rfl, rfl, rfl, rfl, rfl⟩ rfl rfl rfl rfl rfl (by kernel_rfl) Try.func6 (by kernel_rfl)
    (of_decide_eq_true (by kernel_rfl)) (by unfold Func.isWrapper; first | (rw [if_pos (by decide +kernel)]; kernel_rfl) | (rw [if_neg (by decide +kernel)]; exact ⟨rfl, rfl⟩))
    (fun os started H enc _ F => lifted os started H enc F)

theorem proved : Rows.CertTurnedUptoSaid :=
  over
end Go.Proofs.Ytpeglggahhlabaa.certTurned
