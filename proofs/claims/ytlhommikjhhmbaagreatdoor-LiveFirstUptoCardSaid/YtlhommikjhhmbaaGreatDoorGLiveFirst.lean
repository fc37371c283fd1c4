/- LiveFirst: for every input of bulk at most 1048576 the call returns true and changes nothing. Condition: uptoSmall;the listed variables hold what the program's text lays. -/
import Derived.Test.YtlhommikjhhmbaaGreatDoorMs
import Derived.Test.YtlhommikjhhmbaaGreatDoorLj
import Derived.Test.YtlhommikjhhmbaaGreatDoorCards
import Derived.Test.YtlhommikjhhmbaaGreatDoorTie
import Derived.Deep.DeepWitnessRowRef
import Derived.Stop.LaidErr
import Derived.MakeChecks
namespace Go.Proofs.YtlhommikjhhmbaaGreatDoor.liveFirst
open Go.ChangeShapes Go.WideShapes Go.ChangeAt Go.RowKit Go.Px
set_option linter.unusedVariables false
theorem own:ownKnob Tryz.prog.godebug=none:=by kernel_rfl
theorem laid:laidOutB Tryz.prog=true:=by kernel_rfl
theorem readable:∀t∈Tryz.f3.params.toList,Tryz.prog.readableRec t=true∧t < Tryz.prog.types.size:=by
 have h:(Tryz.f3.params.toList.all λt=>Tryz.prog.readableRec t && decide (t < Tryz.prog.types.size))=true:=by kernel_rfl
 intro t ht
 simpa using List.all_eq_true.1 h t ht
theorem pc9:Tryz.prog.cellsOf 9=1:=by kernel_rfl
theorem star : "*" ++ "errors.errorString" = "*errors.errorString" := by decide
theorem rowE (u : TypeId) (h : Tryz.prog.typeName? 3 u = some "*errors.errorString") : u = 323 :=
 typeName_ptr_named (nm := "errors.errorString") (by rw [star]; kernel_rfl) (by kernel_rfl) (by decide) u (by rw [star]; exact h)
theorem known{W:World}(hL:laidMetH Tryz.prog Rows.liveFirstUptoRow.laid W):GLk W (zfx W):=by
 rw[Go.MakeChecks.laidMetH_plain _ _ _ (by kernel_rfl)] at hL
 obtain ⟨a3, s3, hv3, -, -, -⟩ := laid_sentinel (P := Tryz.prog) hL.tail.tail.tail (show Tryz.prog.globalNamed "strconv.ErrRange" = some 1 by kernel_rfl) (ti := 268) (by kernel_rfl) Tryz.underlying268 rowE Tryz.underlying323 Tryz.underlying325 rfl rfl Tryz.underlying9 (by kernel_rfl) (by kernel_rfl)
 have hc3 := World.var?_cell (show Tryz.prog.globalNamed "strconv.ErrRange" = some 1 by kernel_rfl) hv3 0
 obtain ⟨a4, s4, hv4, -, -, -⟩ := laid_sentinel (P := Tryz.prog) hL.tail.tail.tail.tail (show Tryz.prog.globalNamed "strconv.ErrSyntax" = some 0 by kernel_rfl) (ti := 268) (by kernel_rfl) Tryz.underlying268 rowE Tryz.underlying323 Tryz.underlying325 rfl rfl Tryz.underlying9 (by kernel_rfl) (by kernel_rfl)
 have hc4 := World.var?_cell (show Tryz.prog.globalNamed "strconv.ErrSyntax" = some 0 by kernel_rfl) hv4 0
 exact⟨⟨_,_,by simpa[zfx] using hc4⟩,_,_,by simpa[zfx] using hc3⟩
set_option maxRecDepth 100000 in
theorem contract (H:Type) (enc:TypeId×Value→H) (W:World) (base:Nat) (args:Array Value) (ds gs:List (DataW H)) (before:List MemPlace)
    (hval:∀(j:Nat) t v,Tryz.f3.params[j]?=some t→args[j]?=some v→Value.okWide Tryz.prog W .any base t v)
    (hW:DataW.Whole enc Tryz.prog Tryz.f3.params.toList Rows.liveFirstSpec.vars false W args.toList ds gs before) (hk:Rows.uptoSmall H (ds++gs)=true) (hL:laidMetH Tryz.prog Rows.liveFirstUptoRow.laid W) :
    Calls Tryz.prog 3 args W λe W'=>∃v,e = .returned v∧Rows.liveFirstSpec.post enc Tryz.prog Tryz.f3 false true false false W args v W':=by
 have hW':=hW
 obtain⟨p,q,hA0,hV,rfl,hfz,hnd⟩:=hW
 have hA:DataW.TrodAll enc Tryz.prog W 0 (λ_=>true) true Tryz.f3.params.toList args.toList ds p:=hA0
 have hAk:=hA
 rw[Tryz.params3] at hA hval
 obtain⟨v0,vs0,d0,ds0,p0,q0,hargs0,rfl,rfl,h0,r0⟩:=trodAll_cons hA
 obtain⟨v1,vs1,d1,ds1,p1,q1,hargs1,rfl,rfl,h1,r1⟩:=trodAll_cons r0
 subst hargs1
 obtain⟨rfl,rfl,rfl⟩:=trodAll_nil r1
 obtain rfl:args = #[v0,v1]:=by cases args;simp_all
 obtain⟨rfl,rfl⟩:=trodVars_none hV
 obtain⟨a0,k0,w0,g0⟩:=zbl (ziJ Tryz.underlying9 pc9) (hval 0 9 v0 rfl rfl) enc bulk_meas h0
 obtain rfl:=zqy.1 k0
 obtain⟨a1,k1,w1,g1⟩:=zbl (ziJ Tryz.underlying9 pc9) (hval 1 9 v1 rfl rfl) enc bulk_meas h1
 obtain rfl:=zqy.1 k1
 have hw:(a0.size+1)+(a1.size+1)≤1048576:=by
  have hb:Rows.uptoBulkAll [d0,d1]≤1048576:=of_decide_eq_true hk
  simp only[Rows.uptoBulkAll] at hb
  try simp only at w0 w1
  omega
 have hlaw:zfH.F (a0,a1)=some true:=by
  exact zuI _
 have hargs:∀t,VR CC (zfx W) ⟨λ_ =>.bool false,λ_=>default⟩ (([.string a0,.string a1][t]?).getD undef) ((zfH.ins.open (C:=CC) (a0,a1)).env t)∧∀p:Nat→Prop,((zfH.ins.open (C:=CC) (a0,a1)).env t).ok p:=by
  intro t
  match t with
  |0=>exact⟨Rv.str,λ_=>trivial⟩
  |1=>exact⟨Rv.str,λ_=>trivial⟩
  |t+2=>exact⟨trivial,λ_=>trivial⟩
 refine(Spec.ref zBd rfl hlaw (args:=[.string a0,.string a1]) rfl (zsV W) (known hL) (λ_=>rfl) hargs).mono λe W2 he=>?_
 obtain⟨v,σ,PV,rfl,hi,rfl,rfl⟩:=he
 simp only[List.append_nil] at hW' hAk
 exact⟨_,rfl,zoF hW' (λ_ _ _=>(trodAll_cons_mk (shut_bool Tryz.underlying4 _) trodAll_mk0)) (λsp hsp=>zfc laid hi.ext readable hAk (λx hx=>hW'.lt x hx) hsp) (λ_=>rfl)
  (zmU hi.ext _) (λa ha=>hi.ext.fz a ha rfl) (ok_one (by kernel_rfl) rfl (okWide_bool_mk Tryz.underlying4 _))⟩
noncomputable def low:Nat:=(World.holding Tryz.prog default ⟨#[], #[],[]⟩).heap.size
noncomputable def laidWorld(os:Os):World:=
 let w0:=World.holding Tryz.prog os ⟨#[.cells #[.string ⟨#[118,97,108,117,101,32,111,117,116,32,111,102,32,114,97,110,103,101]⟩] 325,.cells #[.string ⟨#[105,110,118,97,108,105,100,32,115,121,110,116,97,120]⟩] 325], #[],[]⟩
 {w0 with heap:=((((w0.heap.modify 4 λ
     | .cells _ t frozen =>.cells #[.int .u8 0,.int .u8 1,.int .u8 28,.int .u8 2,.int .u8 29,.int .u8 14,.int .u8 24,.int .u8 3,.int .u8 30,.int .u8 22,.int .u8 20,.int .u8 15,.int .u8 25,.int .u8 17,.int .u8 4,.int .u8 8,.int .u8 31,.int .u8 27,.int .u8 13,.int .u8 23,.int .u8 21,.int .u8 19,.int .u8 16,.int .u8 7,.int .u8 26,.int .u8 12,.int .u8 18,.int .u8 6,.int .u8 11,.int .u8 5,.int .u8 10,.int .u8 9] t frozen
     |o=>o).modify 5 λ
     | .cells _ t frozen =>.cells #[.int .u8 0,.int .u8 1,.int .u8 56,.int .u8 2,.int .u8 57,.int .u8 49,.int .u8 28,.int .u8 3,.int .u8 61,.int .u8 58,.int .u8 42,.int .u8 50,.int .u8 38,.int .u8 29,.int .u8 17,.int .u8 4,.int .u8 62,.int .u8 47,.int .u8 59,.int .u8 36,.int .u8 45,.int .u8 43,.int .u8 51,.int .u8 22,.int .u8 53,.int .u8 39,.int .u8 33,.int .u8 30,.int .u8 24,.int .u8 18,.int .u8 12,.int .u8 5,.int .u8 63,.int .u8 55,.int .u8 48,.int .u8 27,.int .u8 60,.int .u8 41,.int .u8 37,.int .u8 16,.int .u8 46,.int .u8 35,.int .u8 44,.int .u8 21,.int .u8 52,.int .u8 32,.int .u8 23,.int .u8 11,.int .u8 54,.int .u8 26,.int .u8 40,.int .u8 15,.int .u8 34,.int .u8 20,.int .u8 31,.int .u8 10,.int .u8 25,.int .u8 14,.int .u8 19,.int .u8 9,.int .u8 13,.int .u8 8,.int .u8 7,.int .u8 6] t frozen
     |o=>o).modify 3 λ
     | .cells _ t frozen =>.cells #[.int .u64 1,.int .u64 10,.int .u64 100,.int .u64 1000,.int .u64 10000,.int .u64 100000,.int .u64 1000000,.int .u64 10000000,.int .u64 100000000,.int .u64 1000000000,.int .u64 10000000000,.int .u64 100000000000,.int .u64 1000000000000,.int .u64 10000000000000,.int .u64 100000000000000,.int .u64 1000000000000000,.int .u64 10000000000000000,.int .u64 100000000000000000,.int .u64 1000000000000000000,.int .u64 10000000000000000000] t frozen
     |o=>o).modify 1 λ
     | .cells _ t frozen =>.cells #[.iface 323 (.pointer (some ⟨low+0,0,none⟩))] t frozen
     |o=>o).modify 0 λ
     | .cells _ t frozen =>.cells #[.iface 323 (.pointer (some ⟨low+1,0,none⟩))] t frozen
     |o=>o}
set_option maxRecDepth 100000 in
theorem laid_met(os:Os):laidMetH Tryz.prog Rows.liveFirstUptoRow.laid ((laidWorld os).forCall (λ_ _=>0) ⟨#[], #[.string ⟨#[]⟩,.string ⟨#[]⟩],[]⟩).memory:=by
 rw[Go.MakeChecks.laidMetH_plain _ _ _ (by kernel_rfl)]
 exact laidMet_of_run' 8 (by kernel_rfl) (by kernel_rfl)
theorem reads(os:Os){H:Type}(enc:TypeId×Value→H):∃places,DataW.whole enc Tryz.prog ((laidWorld os).forCall (λ_ _=>0) ⟨#[], #[.string ⟨#[]⟩,.string ⟨#[]⟩],[]⟩).memory Tryz.f3.params.toList Rows.liveFirstSpec.vars false (#[.string ⟨#[]⟩,.string ⟨#[]⟩]:Array Value).toList 8=some ([.lit (.string []),.lit (.string [])],[],places):=
 ⟨[],by kernel_rfl⟩
set_option maxRecDepth 100000 in
theorem lifted (os:Os) (started:os.Started) (H:Type) (enc:TypeId×Value→H) (F:Stop.Interp) :
    ReturnsInHanded {} Tryz.checked os 3 .any ((Rows.OpenSpec.upto Rows.liveFirstSpec).preRow enc Tryz.prog Tryz.f3 Rows.liveFirstUptoRow.domain false Rows.liveFirstUptoRow.laid) (((Rows.OpenSpec.upto Rows.liveFirstSpec).at F).post enc Tryz.prog Tryz.f3 false true false false):=by
 obtain⟨places,hx⟩:=reads os enc
 refine returnsInHanded_of_row (C:=Tryz.checked) (s:=Rows.OpenSpec.upto Rows.liveFirstSpec) own started (by kernel_rfl) Tryz.func3
  (witness_row_atRef (enc:=enc) (C:=Tryz.checked) false (laidWorld os) #[.string ⟨#[]⟩,.string ⟨#[]⟩] rfl (by kernel_rfl) (by kernel_rfl) (by kernel_rfl)
    (OpenSpec.preRow_of_cond 8 hx (by kernel_rfl) (λk hk=>by cases hk;kernel_rfl) (by kernel_rfl) (laid_met os))) ?_
 intro W base args ds gs before hval hW _ hcond _ hL _ _
 exact contract H enc W base args ds gs before hval hW (hcond _ rfl) hL
theorem over:Rows.liveFirstUptoRow.holds Tryz.pinned (Rows.OpenSpec.upto Rows.liveFirstSpec):=
 OpenClaim.holds_of_cond 3 Tryz.f3 rfl rfl rfl rfl rfl rfl rfl ⟨rfl,rfl,rfl,rfl,rfl⟩ rfl rfl rfl rfl rfl (by kernel_rfl) Tryz.func3 (by kernel_rfl)
  (of_decide_eq_true (by kernel_rfl)) (by unfold Func.isWrapper;first | (rw[if_pos (by decide +kernel)];kernel_rfl) | (rw[if_neg (by decide +kernel)];exact⟨rfl,rfl⟩))
  (λos started H enc _ F=>by rw[OpenClaim.pre_eq_preRow];exact lifted os started H enc F)
theorem plain (f : FuncId) (fn : Func) (hf : Tryz.pinned.checked.prog.funcNamed "lychgate/lychgatelaw20.LiveFirst" = some f) (hfn : Tryz.pinned.checked.prog.funcs[f]? = some fn) :
    true=Tryz.pinned.checked.prog.looks []∧∀(j:Nat) t,fn.params[j]?=some t→Tryz.pinned.checked.prog.wantsStandIn t=false:=by
 obtain rfl : f = 3 := Option.some.inj ((show Tryz.prog.funcNamed "lychgate/lychgatelaw20.LiveFirst" = some 3 by kernel_rfl).symm.trans hf) |>.symm
 obtain rfl:fn=Tryz.f3:=(Option.some.inj (Tryz.func3.symm.trans hfn)).symm
 refine⟨by kernel_rfl,λj t ht=>?_⟩
 rw[Tryz.params3] at ht
 have hm:=Array.mem_of_getElem? ht
 simp at hm
 subst hm
 all_goals exact(show Tryz.prog.wantsStandIn _=false by kernel_rfl)
theorem proved:Rows.LiveFirstUptoCardSaid:=
 Claim7.holds_tied_plain_at .later [] _ _ _ _ over (λ_ h=>by cases h) (by kernel_rfl) (λ_ h=>by cases h) liveFirstUpto_row_tie rfl ⟨rfl,rfl⟩ (by kernel_rfl) rfl plain (by kernel_rfl)
end Go.Proofs.YtlhommikjhhmbaaGreatDoor.liveFirst
