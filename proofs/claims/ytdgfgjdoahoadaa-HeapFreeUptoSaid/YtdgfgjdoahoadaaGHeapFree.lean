/- HeapFree: for every input of bulk at most 1048576 the call returns true and changes nothing. Condition: uptoSmall. -/
import Derived.Test.YtdgfgjdoahoadaaMs
import Derived.Test.YtdgfgjdoahoadaaRd
import Derived.Test.YtdgfgjdoahoadaaLc
namespace Go.Proofs.Ytdgfgjdoahoadaa.heapFree
open Go.ChangeShapes Go.WideShapes Go.ChangeAt Go.RowKit Go.Px
set_option linter.unusedVariables false
theorem own:ownKnob Try.prog.godebug=none:=by kernel_rfl
theorem laid:laidOutB Try.prog=true:=by kernel_rfl
theorem readable:∀ t∈Try.f7.params.toList,Try.prog.readableRec t=true∧t < Try.prog.types.size:=by
  have h:(Try.f7.params.toList.all fun t=>Try.prog.readableRec t && decide (t < Try.prog.types.size))=true:=by kernel_rfl
  intro t ht
  simpa using List.all_eq_true.1 h t ht
theorem pc2:Try.prog.cellsOf 2=1:=by kernel_rfl
theorem pc41:Try.prog.cellsOf 41=1:=by kernel_rfl
set_option maxRecDepth 100000 in
theorem contract (H:Type) (enc:TypeId×Value→H) (W:World) (base:Nat) (args:Array Value) (ds gs:List (DataW H)) (before:List MemPlace)
    (hval:∀ (j:Nat) t v,Try.f7.params[j]?=some t→args[j]?=some v→Value.okWide Try.prog W .any base t v)
    (hW:DataW.Whole enc Try.prog Try.f7.params.toList Rows.heapFreeSpec.vars false W args.toList ds gs before) (hk:Rows.uptoSmall H (ds++gs)=true) :
    Calls Try.prog 7 args W fun e W'=>∃ v,e = .returned v∧Rows.heapFreeSpec.post enc Try.prog Try.f7 false true false false W args v W':=by
  have hW':=hW
  obtain ⟨p,q,hA0,hV,rfl,hfz,hnd⟩:=hW
  have hA:DataW.TrodAll enc Try.prog W 0 (fun _=>true) true Try.f7.params.toList args.toList ds p:=hA0
  have hAk:=hA
  rw [Try.params7] at hA hval
  obtain ⟨v0,vs0,d0,ds0,p0,q0,hargs0,rfl,rfl,h0,r0⟩:=trodAll_cons hA
  obtain ⟨v1,vs1,d1,ds1,p1,q1,hargs1,rfl,rfl,h1,r1⟩:=trodAll_cons r0
  subst hargs1
  obtain ⟨rfl,rfl,rfl⟩:=trodAll_nil r1
  obtain rfl:args = #[v0,v1]:=by cases args;simp_all
  obtain ⟨rfl,rfl⟩:=trodVars_none hV
  obtain ⟨a0,k0,w0,g0⟩:=WB (zaS znz zny vG) (hval 0 41 v0 rfl rfl) enc bulk_meas h0
  obtain ⟨a1,k1,w1,g1⟩:=WB (Yh Try.underlying2 pc2) (hval 1 2 v1 rfl rfl) enc bulk_meas h1
  obtain rfl:=zlJ.1 k1
  have hw:((a0.xs.map (fun y0=>(1+(1+1+1+1+1)+(1+1+1+1+1)+(1+1+1+1+1)+1+(1+1+1+1+1+1+(1+1+1+1+1)+((y0.Chunk_.Cells_.xs.map (fun y2=>(1+1+1+1+1))).sum+1)+1)+((y0.Facts_.xs.map (fun y1=>(1+1+1+1))).sum+1)+1))).sum+1)+1≤1048576:=by
    have hb:Rows.uptoBulkAll [d0,d1]≤1048576:=of_decide_eq_true hk
    simp only [Rows.uptoBulkAll] at hb
    try simp only at w0 w1
    omega
  have hlaw:F65 (a0,a1)=some true:=by
    rw [q7h]
    exact zfv hw
  have hargs:∀ t,VR CC (Zv W) ⟨fun _ =>.bool false,fun _=>default⟩ (([v0,.int .i64 a1][t]?).getD undef) ((I65.open (C:=CC) (a0,a1)).env t)∧∀ p:Nat→Prop,((I65.open (C:=CC) (a0,a1)).env t).ok p:=by
    intro t
    match t with
    |0=>exact ⟨TR.slv (C:=CC) (zgY (C:=CC) (T:=51) rfl vF) k0,fun _=>trivial⟩
    |1=>exact ⟨Rv.int,fun _=>trivial⟩
    |t+2=>exact ⟨trivial,fun _=>trivial⟩
  refine (Spec.ref K65 rfl hlaw (args:=[v0,.int .i64 a1]) rfl (zjx W) trivial (fun _=>rfl) hargs).mono fun e W2 he=>?_
  obtain ⟨v,σ,PV,rfl,hi,rfl,rfl⟩:=he
  simp only [List.append_nil] at hW' hAk
  exact ⟨_,rfl,zgX hW' (fun _ _ _=>(trodAll_cons_mk (shut_bool Try.underlying4 _) trodAll_mk0)) (fun sp hsp=>zax laid hi.ext readable hAk (fun x hx=>hW'.lt x hx) hsp) (fun _=>rfl)
    (zfg hi.ext _) (fun a ha=>hi.ext.fz a ha rfl) (ok_one (by kernel_rfl) rfl (okWide_bool_mk Try.underlying4 _))⟩
set_option maxRecDepth 100000 in
theorem lifted (os:Os) (started:os.Started) (H:Type) (enc:TypeId×Value→H) (F:Stop.Interp) :
    ReturnsInHanded {} Try.checked os 7 .any ((Rows.OpenSpec.upto Rows.heapFreeSpec).pre6 enc Try.prog Try.f7 Rows.heapFreeUptoRow.domain false) (((Rows.OpenSpec.upto Rows.heapFreeSpec).at F).post enc Try.prog Try.f7 false true false false):=by
  refine returnsInHanded_of_cond (C:=Try.checked) (s:=Rows.OpenSpec.upto Rows.heapFreeSpec) (k:=Rows.uptoSmall) rfl own started (by kernel_rfl) Try.func7
    (OpenSpec.witness (enc:=enc) (C:=Try.checked) (s:=Rows.OpenSpec.upto Rows.heapFreeSpec) (k:=Rows.uptoSmall) rfl false ⟨#[], #[.slice none 0 0,.int .i64 0],[]⟩ 8 (by kernel_rfl) (by kernel_rfl) (by kernel_rfl)
      (x:=([.nil,.lit (.int .i64 0)],[],[])) (by kernel_rfl) rfl (by kernel_rfl)) ?_
  intro W base args ds gs before hval hW _ hk _
  exact contract H enc W base args ds gs before hval hW hk
theorem over:Rows.heapFreeUptoRow.holds Try.pinned (Rows.OpenSpec.upto Rows.heapFreeSpec):=
  OpenClaim.holds_of_cond 7 Try.f7 rfl rfl rfl rfl rfl rfl rfl ⟨rfl,rfl,rfl,rfl,rfl⟩ rfl rfl rfl rfl rfl (by kernel_rfl) Try.func7 (by kernel_rfl)
    (of_decide_eq_true (by kernel_rfl)) (by unfold Func.isWrapper;first | (rw [if_pos (by decide +kernel)];kernel_rfl) | (rw [if_neg (by decide +kernel)];exact ⟨rfl,rfl⟩))
    (fun os started H enc _ F=>lifted os started H enc F)
theorem proved:Rows.HeapFreeUptoSaid:=
  over
end Go.Proofs.Ytdgfgjdoahoadaa.heapFree
