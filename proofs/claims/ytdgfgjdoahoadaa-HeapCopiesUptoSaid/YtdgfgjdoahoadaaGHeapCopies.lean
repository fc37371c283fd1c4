/- HeapCopies: for every input of bulk at most 1048576 the call returns true and changes nothing. Condition: uptoSmall. -/
import Derived.Test.YtdgfgjdoahoadaaMs
import Derived.Test.YtdgfgjdoahoadaaRd
import Derived.Test.YtdgfgjdoahoadaaLc
namespace Go.Proofs.Ytdgfgjdoahoadaa.heapCopies
open Go.ChangeShapes Go.WideShapes Go.ChangeAt Go.RowKit Go.Px
set_option linter.unusedVariables false
theorem own:ownKnob Try.prog.godebug=none:=by kernel_rfl
theorem laid:laidOutB Try.prog=true:=by kernel_rfl
theorem readable:∀ t∈Try.f5.params.toList,Try.prog.readableRec t=true∧t < Try.prog.types.size:=by
  have h:(Try.f5.params.toList.all fun t=>Try.prog.readableRec t && decide (t < Try.prog.types.size))=true:=by kernel_rfl
  intro t ht
  simpa using List.all_eq_true.1 h t ht
theorem pc41:Try.prog.cellsOf 41=1:=by kernel_rfl
set_option maxRecDepth 100000 in
theorem contract (H:Type) (enc:TypeId×Value→H) (W:World) (base:Nat) (args:Array Value) (ds gs:List (DataW H)) (before:List MemPlace)
    (hval:∀ (j:Nat) t v,Try.f5.params[j]?=some t→args[j]?=some v→Value.okWide Try.prog W .any base t v)
    (hW:DataW.Whole enc Try.prog Try.f5.params.toList Rows.heapCopiesSpec.vars false W args.toList ds gs before) (hk:Rows.uptoSmall H (ds++gs)=true) :
    Calls Try.prog 5 args W fun e W'=>∃ v,e = .returned v∧Rows.heapCopiesSpec.post enc Try.prog Try.f5 false true false false W args v W':=by
  have hW':=hW
  obtain ⟨p,q,hA0,hV,rfl,hfz,hnd⟩:=hW
  have hA:DataW.TrodAll enc Try.prog W 0 (fun _=>true) true Try.f5.params.toList args.toList ds p:=hA0
  have hAk:=hA
  rw [Try.params5] at hA hval
  obtain ⟨v0,vs0,d0,ds0,p0,q0,hargs0,rfl,rfl,h0,r0⟩:=trodAll_cons hA
  obtain ⟨v1,vs1,d1,ds1,p1,q1,hargs1,rfl,rfl,h1,r1⟩:=trodAll_cons r0
  subst hargs1
  obtain ⟨rfl,rfl,rfl⟩:=trodAll_nil r1
  obtain rfl:args = #[v0,v1]:=by cases args;simp_all
  obtain ⟨rfl,rfl⟩:=trodVars_none hV
  obtain ⟨a0,k0,w0,g0⟩:=Wx (vd zmn zmm x5) (hval 0 41 v0 rfl rfl) enc bulk_meas h0
  obtain ⟨a1,k1,w1,g1⟩:=Wx (vd zmn zmm x5) (hval 1 41 v1 rfl rfl) enc bulk_meas h1
  have hw:((a0.xs.map (fun y0=>(1+(1+1+1+1+1)+(1+1+1+1+1)+(1+1+1+1+1)+1+(1+1+1+1+1+1+(1+1+1+1+1)+((y0.Chunk_.Cells_.xs.map (fun y2=>(1+1+1+1+1))).sum+1)+1)+((y0.Facts_.xs.map (fun y1=>(1+1+1+1))).sum+1)+1))).sum+1)+((a1.xs.map (fun y0=>(1+(1+1+1+1+1)+(1+1+1+1+1)+(1+1+1+1+1)+1+(1+1+1+1+1+1+(1+1+1+1+1)+((y0.Chunk_.Cells_.xs.map (fun y2=>(1+1+1+1+1))).sum+1)+1)+((y0.Facts_.xs.map (fun y1=>(1+1+1+1))).sum+1)+1))).sum+1)≤1048576:=by
    have hb:Rows.uptoBulkAll [d0,d1]≤1048576:=of_decide_eq_true hk
    simp only [Rows.uptoBulkAll] at hb
    try simp only at w0 w1
    omega
  have hlaw:F67 (a0,a1)=some true:=by
    rw [q6y]
    exact zdq hw
  have hargs:∀ t,VR CC (Zv W) ⟨fun _ =>.bool false,fun _=>default⟩ (([v0,v1][t]?).getD undef) ((I67.open (C:=CC) (a0,a1)).env t)∧∀ p:Nat→Prop,((I67.open (C:=CC) (a0,a1)).env t).ok p:=by
    intro t
    match t with
    |0=>exact ⟨TR.slv (C:=CC) (zdx (C:=CC) (T:=51) rfl x4) k0,fun _=>trivial⟩
    |1=>exact ⟨TR.slv (C:=CC) (zdx (C:=CC) (T:=51) rfl x4) k1,fun _=>trivial⟩
    |t+2=>exact ⟨trivial,fun _=>trivial⟩
  refine (Spec.ref K67 rfl hlaw (args:=[v0,v1]) rfl (zjy W) trivial (fun _=>rfl) hargs).mono fun e W2 he=>?_
  obtain ⟨v,σ,PV,rfl,hi,rfl,rfl⟩:=he
  simp only [List.append_nil] at hW' hAk
  exact ⟨_,rfl,zgX hW' (fun _ _ _=>(trodAll_cons_mk (shut_bool Try.underlying4 _) trodAll_mk0)) (fun sp hsp=>zay laid hi.ext readable hAk (fun x hx=>hW'.lt x hx) hsp) (fun _=>rfl)
    (zfi hi.ext _) (fun a ha=>hi.ext.fz a ha rfl) (ok_one (by kernel_rfl) rfl (okWide_bool_mk Try.underlying4 _))⟩
set_option maxRecDepth 100000 in
theorem lifted (os:Os) (started:os.Started) (H:Type) (enc:TypeId×Value→H) (F:Stop.Interp) :
    ReturnsInHanded {} Try.checked os 5 .any ((Rows.OpenSpec.upto Rows.heapCopiesSpec).pre6 enc Try.prog Try.f5 Rows.heapCopiesUptoRow.domain false) (((Rows.OpenSpec.upto Rows.heapCopiesSpec).at F).post enc Try.prog Try.f5 false true false false):=by
  refine returnsInHanded_of_cond (C:=Try.checked) (s:=Rows.OpenSpec.upto Rows.heapCopiesSpec) (k:=Rows.uptoSmall) rfl own started (by kernel_rfl) Try.func5
    (OpenSpec.witness (enc:=enc) (C:=Try.checked) (s:=Rows.OpenSpec.upto Rows.heapCopiesSpec) (k:=Rows.uptoSmall) rfl false ⟨#[], #[.slice none 0 0,.slice none 0 0],[]⟩ 8 (by kernel_rfl) (by kernel_rfl) (by kernel_rfl)
      (x:=([.nil,.nil],[],[])) (by kernel_rfl) rfl (by kernel_rfl)) ?_
  intro W base args ds gs before hval hW _ hk _
  exact contract H enc W base args ds gs before hval hW hk
theorem over:Rows.heapCopiesUptoRow.holds Try.pinned (Rows.OpenSpec.upto Rows.heapCopiesSpec):=
  OpenClaim.holds_of_cond 5 Try.f5 rfl rfl rfl rfl rfl rfl rfl ⟨rfl,rfl,rfl,rfl,rfl⟩ rfl rfl rfl rfl rfl (by kernel_rfl) Try.func5 (by kernel_rfl)
    (of_decide_eq_true (by kernel_rfl)) (by unfold Func.isWrapper;first | (rw [if_pos (by decide +kernel)];kernel_rfl) | (rw [if_neg (by decide +kernel)];exact ⟨rfl,rfl⟩))
    (fun os started H enc _ F=>lifted os started H enc F)
theorem proved:Rows.HeapCopiesUptoSaid:=
  over
end Go.Proofs.Ytdgfgjdoahoadaa.heapCopies
