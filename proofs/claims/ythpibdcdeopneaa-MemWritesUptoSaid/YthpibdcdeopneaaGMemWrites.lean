/- MemWrites: for every input of bulk at most 1048576 the call returns true and changes nothing. Condition: uptoSmall. -/
import Derived.Test.YthpibdcdeopneaaMs
import Derived.Test.YthpibdcdeopneaaRf1
import Derived.Test.YthpibdcdeopneaaRf2
import Derived.Test.YthpibdcdeopneaaRf6
import Derived.Test.YthpibdcdeopneaaRf17
import Derived.Test.YthpibdcdeopneaaLMemWrites
namespace Go.Proofs.Ythpibdcdeopneaa.memWrites
open Go.ChangeShapes Go.WideShapes Go.ChangeAt Go.RowKit Go.Px
set_option linter.unusedVariables false

theorem own : ownKnob Try.prog.godebug = none := by kernel_rfl
theorem laid : laidOutB Try.prog = true := by kernel_rfl
theorem readable : ∀ t ∈ Try.f4.params.toList, Try.prog.readableRec t = true ∧ t < Try.prog.types.size := by
  have h : (Try.f4.params.toList.all fun t => Try.prog.readableRec t && decide (t < Try.prog.types.size)) = true := by kernel_rfl
  intro t ht
  simpa using List.all_eq_true.1 h t ht

theorem contract (H : Type) (enc : TypeId × Value → H) (W : World) (base : Nat) (args : Array Value) (ds gs : List (DataW H)) (before : List MemPlace)
    (hval : ∀ (j : Nat) t v, Try.f4.params[j]? = some t → args[j]? = some v → Value.okWide Try.prog W .any base t v)
    (hW : DataW.Whole enc Try.prog Try.f4.params.toList Rows.memWritesSpec.vars false W args.toList ds gs before) (hk : Rows.uptoSmall H (ds ++ gs) = true) :
    Calls Try.prog 4 args W fun e W' => ∃ v, e = .returned v ∧ Rows.memWritesSpec.post enc Try.prog Try.f4 false true false false W args v W' := by
  have hW' := hW
  obtain ⟨p, q, hA0, hV, rfl, hfz, hnd⟩ := hW
  have hA : DataW.TrodAll enc Try.prog W 0 (fun _ => true) true Try.f4.params.toList args.toList ds p := hA0
  have hAk := hA
  rw [Try.params4] at hA hval
  obtain ⟨v0, vs0, d0, ds0, p0, q0, hargs0, rfl, rfl, h0, r0⟩ := trodAll_cons hA
  obtain ⟨v1, vs1, d1, ds1, p1, q1, hargs1, rfl, rfl, h1, r1⟩ := trodAll_cons r0
  subst hargs1
  obtain ⟨rfl, rfl, rfl⟩ := trodAll_nil r1
  obtain rfl : args = #[v0, v1] := by cases args; simp_all
  obtain ⟨rfl, rfl⟩ := trodVars_none hV
  obtain ⟨a0, k0, w0, g0⟩ := vrel_of_okWide (rd_slice Try.pu36 Try.pc36 (rd_int Try.pu3 Try.pc3)) (hval 0 36 v0 rfl rfl) enc bulk_meas h0
  obtain ⟨a1, k1, w1, g1⟩ := vrel_of_okWide (rd_slice Try.pu22 Try.pc22 (rd_int Try.pu2 Try.pc2)) (hval 1 22 v1 rfl rfl) enc bulk_meas h1
  have hw : ((a0.xs.map (fun y => 1)).sum + 1) + ((a1.xs.map (fun y => 1)).sum + 1) ≤ 1048576 := by
    have hb : Rows.uptoBulkAll [d0, d1] ≤ 1048576 := of_decide_eq_true hk
    simp only [Rows.uptoBulkAll] at hb
    try simp only at w0 w1
    omega
  have hlaw := memWrites_law a0 a1 hw g0 g1
  refine (lychgatelaw06_MemWrites_ref ⟨W, Frag.none⟩ (snap W) v0 a0 k0 v1 a1 k1 (Pre.empty (snap_sub W)) true hlaw).mono fun e W2 he => ?_
  obtain ⟨v, σ, PV, rfl, hi, rfl, rfl⟩ := he
  simp only [List.append_nil] at hW' hAk
  exact ⟨_, rfl, post_of_same (pv := []) hW' (fun _ _ _ => (trodAll_cons_mk (shut_bool Try.underlying4 _) trodAll_mk0)) (fun sp hsp => trodAll_ext laid hi.ext readable hAk (fun x hx => hW'.lt x hx) hsp) (fun _ _ => rfl) (by simp)
    (keptBut_ext hi.ext _) hi.ext.fz (ok_one (by kernel_rfl) rfl (okWide_bool_mk Try.underlying4 _))⟩

set_option maxRecDepth 100000 in
theorem lifted (os : Os) (started : os.Started) (H : Type) (enc : TypeId × Value → H) (F : Stop.Interp) :
    ReturnsInHanded {} Try.checked os 4 .any ((Rows.OpenSpec.upto Rows.memWritesSpec).pre6 enc Try.prog Try.f4 Rows.memWritesUptoRow.domain false) (((Rows.OpenSpec.upto Rows.memWritesSpec).at F).post enc Try.prog Try.f4 false true false false) := by
  refine returnsInHanded_of_cond (C := Try.checked) (s := Rows.OpenSpec.upto Rows.memWritesSpec) (k := Rows.uptoSmall) rfl own started (by kernel_rfl) Try.func4
    (OpenSpec.witness (enc := enc) (C := Try.checked) (s := Rows.OpenSpec.upto Rows.memWritesSpec) (k := Rows.uptoSmall) rfl false ⟨#[], #[.slice none 0 0, .slice none 0 0], []⟩ 8 (by kernel_rfl) (by kernel_rfl) (by kernel_rfl)
      (x := ([.nil, .nil], [], [])) (by kernel_rfl) rfl (by kernel_rfl)) ?_
  intro W base args ds gs before hval hW _ hk _
  exact contract H enc W base args ds gs before hval hW hk

theorem over : Rows.memWritesUptoRow.holds Try.pinned (Rows.OpenSpec.upto Rows.memWritesSpec) :=
  OpenClaim.holds_of_cond 4 Try.f4 rfl rfl rfl rfl rfl rfl rfl ⟨rfl, rfl, rfl, rfl, rfl⟩ rfl rfl rfl rfl rfl (by kernel_rfl) Try.func4 (by kernel_rfl)
    (of_decide_eq_true (by kernel_rfl)) (by unfold Func.isWrapper; first | (rw [if_pos (by decide +kernel)]; kernel_rfl) | (rw [if_neg (by decide +kernel)]; exact ⟨rfl, rfl⟩))
    (fun os started H enc _ F => lifted os started H enc F)

theorem proved : Rows.MemWritesUptoSaid :=
  over
end Go.Proofs.Ythpibdcdeopneaa.memWrites
