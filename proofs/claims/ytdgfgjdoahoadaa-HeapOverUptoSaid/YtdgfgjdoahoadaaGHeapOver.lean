/- HeapOver: for every input of bulk at most 1048576 the call returns true and changes nothing. Condition: uptoSmall. -/
import Derived.Test.YtdgfgjdoahoadaaMs
import Derived.Test.YtdgfgjdoahoadaaRf1
import Derived.Test.YtdgfgjdoahoadaaRf2
import Derived.Test.YtdgfgjdoahoadaaRf3
import Derived.Test.YtdgfgjdoahoadaaRf11
import Derived.Test.YtdgfgjdoahoadaaLHeapOver
namespace Go.Proofs.Ytdgfgjdoahoadaa.heapOver
open Go.ChangeShapes Go.WideShapes Go.ChangeAt Go.RowKit Go.Px
set_option linter.unusedVariables false

theorem own : ownKnob Try.prog.godebug = none := by kernel_rfl
theorem laid : laidOutB Try.prog = true := by kernel_rfl
theorem readable : ∀ t ∈ Try.f3.params.toList, Try.prog.readableRec t = true ∧ t < Try.prog.types.size := by
  have h : (Try.f3.params.toList.all fun t => Try.prog.readableRec t && decide (t < Try.prog.types.size)) = true := by kernel_rfl
  intro t ht
  simpa using List.all_eq_true.1 h t ht

set_option maxRecDepth 100000 in
theorem contract (H : Type) (enc : TypeId × Value → H) (W : World) (base : Nat) (args : Array Value) (ds gs : List (DataW H)) (before : List MemPlace)
    (hval : ∀ (j : Nat) t v, Try.f3.params[j]? = some t → args[j]? = some v → Value.okWide Try.prog W .any base t v)
    (hW : DataW.Whole enc Try.prog Try.f3.params.toList Rows.heapOverSpec.vars false W args.toList ds gs before) (hk : Rows.uptoSmall H (ds ++ gs) = true) :
    Calls Try.prog 3 args W fun e W' => ∃ v, e = .returned v ∧ Rows.heapOverSpec.post enc Try.prog Try.f3 false true false false W args v W' := by
  have hW' := hW
  obtain ⟨p, q, hA0, hV, rfl, hfz, hnd⟩ := hW
  have hA : DataW.TrodAll enc Try.prog W 0 (fun _ => true) true Try.f3.params.toList args.toList ds p := hA0
  have hAk := hA
  rw [Try.params3] at hA hval
  obtain ⟨v0, vs0, d0, ds0, p0, q0, hargs0, rfl, rfl, h0, r0⟩ := trodAll_cons hA
  obtain ⟨v1, vs1, d1, ds1, p1, q1, hargs1, rfl, rfl, h1, r1⟩ := trodAll_cons r0
  subst hargs1
  obtain ⟨v2, vs2, d2, ds2, p2, q2, hargs2, rfl, rfl, h2, r2⟩ := trodAll_cons r1
  subst hargs2
  obtain ⟨rfl, rfl, rfl⟩ := trodAll_nil r2
  obtain rfl : args = #[v0, v1, v2] := by cases args; simp_all
  obtain ⟨rfl, rfl⟩ := trodVars_none hV
  obtain ⟨a0, k0, w0, g0⟩ := vrel_of_okWide (rd_slice Try.pu22 Try.pc22 rd_Gdiff_Leq) (hval 0 22 v0 rfl rfl) enc bulk_meas h0
  obtain ⟨a1, k1, w1, g1⟩ := vrel_of_okWide (rd_slice Try.pu23 Try.pc23 rd_Gheap_Sym) (hval 1 23 v1 rfl rfl) enc bulk_meas h1
  obtain ⟨a2, k2, w2, g2⟩ := vrel_of_okWide (rd_slice Try.pu24 Try.pc24 (rd_int Try.pu2 Try.pc2)) (hval 2 24 v2 rfl rfl) enc bulk_meas h2
  have hw : ((a0.xs.map (fun y => (1 + 1 + 1 + 1))).sum + 1) + ((a1.xs.map (fun y => (1 + 1 + 1 + 1 + 1))).sum + 1) + ((a2.xs.map (fun y => 1)).sum + 1) ≤ 1048576 := by
    have hb : Rows.uptoBulkAll [d0, d1, d2] ≤ 1048576 := of_decide_eq_true hk
    simp only [Rows.uptoBulkAll] at hb
    try simp only at w0 w1 w2
    omega
  have hlaw := heapOver_law a0 a1 a2 hw g0 g1 g2
  refine (lychgatelaw13_HeapOver_ref ⟨W, Frag.none⟩ (snap W) v0 a0 k0 v1 a1 k1 v2 a2 k2 (Pre.empty (snap_sub W)) true hlaw).mono fun e W2 he => ?_
  obtain ⟨v, σ, PV, rfl, hi, rfl, rfl, rfl⟩ := he
  simp only [List.append_nil] at hW' hAk
  exact ⟨_, rfl, post_of_same (pv := []) hW' (fun _ _ _ => (trodAll_cons_mk (shut_bool Try.underlying4 _) trodAll_mk0)) (fun sp hsp => trodAll_ext laid hi.ext readable hAk (fun x hx => hW'.lt x hx) hsp) (fun _ _ => rfl) (by simp)
    (keptBut_ext hi.ext _) hi.ext.fz (ok_one (by kernel_rfl) rfl (okWide_bool_mk Try.underlying4 _))⟩

set_option maxRecDepth 100000 in
theorem lifted (os : Os) (started : os.Started) (H : Type) (enc : TypeId × Value → H) (F : Stop.Interp) :
    ReturnsInHanded {} Try.checked os 3 .any ((Rows.OpenSpec.upto Rows.heapOverSpec).pre6 enc Try.prog Try.f3 Rows.heapOverUptoRow.domain false) (((Rows.OpenSpec.upto Rows.heapOverSpec).at F).post enc Try.prog Try.f3 false true false false) := by
  refine returnsInHanded_of_cond (C := Try.checked) (s := Rows.OpenSpec.upto Rows.heapOverSpec) (k := Rows.uptoSmall) rfl own started (by kernel_rfl) Try.func3
    (OpenSpec.witness (enc := enc) (C := Try.checked) (s := Rows.OpenSpec.upto Rows.heapOverSpec) (k := Rows.uptoSmall) rfl false ⟨#[], #[.slice none 0 0, .slice none 0 0, .slice none 0 0], []⟩ 8 (by kernel_rfl) (by kernel_rfl) (by kernel_rfl)
      (x := ([.nil, .nil, .nil], [], [])) (by kernel_rfl) rfl (by kernel_rfl)) ?_
  intro W base args ds gs before hval hW _ hk _
  exact contract H enc W base args ds gs before hval hW hk

theorem over : Rows.heapOverUptoRow.holds Try.pinned (Rows.OpenSpec.upto Rows.heapOverSpec) :=
  OpenClaim.holds_of_cond 3 Try.f3 rfl rfl rfl rfl rfl rfl rfl ⟨rfl, rfl, rfl, rfl, rfl⟩ rfl rfl rfl rfl rfl (by kernel_rfl) Try.func3 (by kernel_rfl)
    (of_decide_eq_true (by kernel_rfl)) (by unfold Func.isWrapper; first | (rw [if_pos (by decide +kernel)]; kernel_rfl) | (rw [if_neg (by decide +kernel)]; exact ⟨rfl, rfl⟩))
    (fun os started H enc _ F => lifted os started H enc F)

theorem proved : Rows.HeapOverUptoSaid :=
  over
end Go.Proofs.Ytdgfgjdoahoadaa.heapOver
