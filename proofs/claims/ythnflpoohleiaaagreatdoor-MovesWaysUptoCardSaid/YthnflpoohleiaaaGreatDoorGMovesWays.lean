/- MovesWays: for every input of bulk at most 1048576 the call returns true and changes nothing. Condition: uptoSmall;the listed variables hold what the program's text lays. -/
import Derived.Test.YthnflpoohleiaaaGreatDoorMs
import Derived.Test.YthnflpoohleiaaaGreatDoorLj
import Derived.Test.YthnflpoohleiaaaGreatDoorCards
import Derived.Test.YthnflpoohleiaaaGreatDoorTie
import Derived.Deep.DeepWitnessRowRef
import Derived.Stop.LaidErr
import Derived.MakeChecks
namespace Go.Proofs.YthnflpoohleiaaaGreatDoor.movesWays
open Go.ChangeShapes Go.WideShapes Go.ChangeAt Go.RowKit Go.Px
set_option linter.unusedVariables false
theorem own:ownKnob Tryz.prog.godebug=none:=jO
theorem laid:laidOutB Tryz.prog=true:=jO
theorem readable:∀t∈Tryz.f3.params.toList,Tryz.prog.readableRec t=true∧t < Tryz.prog.types.size:=by
 have h:(Tryz.f3.params.toList.all λt=>Tryz.prog.readableRec t && decide (t < Tryz.prog.types.size))=true:=jO
 intro t a
 simpa using List.all_eq_true.1 h t a
theorem pc9:Tryz.prog.cellsOf 9=1:=jO
theorem pc22:Tryz.prog.cellsOf 22=1:=jO
theorem rc22:Tryz.prog.cellsOf 22=1:=jO
theorem ru22:Tryz.prog.underlying 22=some (.slice 4):=jO
theorem rc4:Tryz.prog.cellsOf 4=1:=jO
theorem ru4:Tryz.prog.underlying 4=some .bool:=jO
theorem star : "*" ++ "errors.errorString" = "*errors.errorString" := by decide
theorem rowE (u : TypeId) (h : Tryz.prog.typeName? 3 u = some "*errors.errorString") : u = 321 :=
 typeName_ptr_named (nm := "errors.errorString") (by rw [star]; kernel_rfl) jO jI u (by rw [star]; exact h)
theorem known{W:World}(hL:laidMetH Tryz.prog Rows.movesWaysUptoRow.laid W):GLk W (vP W):=by
 rw[Go.MakeChecks.laidMetH_plain _ _ _ (by kernel_rfl)] at hL
 obtain ⟨a3, s3, hv3, -, -, -⟩ := laid_sentinel (P := Tryz.prog) hL.tail.tail.tail (show Tryz.prog.globalNamed "strconv.ErrRange" = some 1 by kernel_rfl) (ti := 262) (by kernel_rfl) Tryz.underlying262 rowE Tryz.underlying321 Tryz.underlying323 rfl rfl Tryz.underlying9 (by kernel_rfl) (by kernel_rfl)
 have hc3 := World.var?_cell (show Tryz.prog.globalNamed "strconv.ErrRange" = some 1 by kernel_rfl) hv3 0
 obtain ⟨a4, s4, hv4, -, -, -⟩ := laid_sentinel (P := Tryz.prog) hL.tail.tail.tail.tail (show Tryz.prog.globalNamed "strconv.ErrSyntax" = some 0 by kernel_rfl) (ti := 262) (by kernel_rfl) Tryz.underlying262 rowE Tryz.underlying321 Tryz.underlying323 rfl rfl Tryz.underlying9 (by kernel_rfl) (by kernel_rfl)
 have hc4 := World.var?_cell (show Tryz.prog.globalNamed "strconv.ErrSyntax" = some 0 by kernel_rfl) hv4 0
 exact⟨⟨_,_,by simpa[vP] using hc4⟩,_,_,by simpa[vP] using hc3⟩
set_option maxRecDepth 100000 in
theorem contract (H:Type) (enc:TypeId×Value→H) (W:World) (base:Nat) (args:Array Value) (ds gs:List (DataW H)) (before:List MemPlace)
    (hval:∀(j:Nat) t v,Tryz.f3.params[j]?=some t→args[j]?=some v→Value.okWide Tryz.prog W .any base t v)
    (hW:DataW.Whole enc Tryz.prog Tryz.f3.params.toList Rows.movesWaysSpec.vars false W args.toList ds gs before) (hk:Rows.uptoSmall H (ds++gs)=true) (hL:laidMetH Tryz.prog Rows.movesWaysUptoRow.laid W) :
    Calls Tryz.prog 3 args W λe W'=>∃v,e = .returned v∧Rows.movesWaysSpec.post enc Tryz.prog Tryz.f3 false true false false W args v W':=by
 have hW':=hW
 obtain⟨p,q,hA0,hV,rfl,hfz,hnd⟩:=hW
 have hA:DataW.TrodAll enc Tryz.prog W 0 (λ_=>true) true Tryz.f3.params.toList args.toList ds p:=hA0
 have hAk:=hA
 rw[Tryz.params3] at hA hval
 obtain⟨v0,vs0,d0,ds0,p0,q0,hargs0,rfl,rfl,h0,r0⟩:=trodAll_cons hA
 obtain⟨v1,vs1,d1,ds1,p1,q1,hargs1,rfl,rfl,h1,r1⟩:=trodAll_cons r0
 subst hargs1
 obtain⟨v2,vs2,d2,ds2,p2,q2,hargs2,rfl,rfl,h2,r2⟩:=trodAll_cons r1
 subst hargs2
 obtain⟨rfl,rfl,rfl⟩:=trodAll_nil r2
 obtain rfl:args = #[v0,v1,v2]:=by cases args;simp_all
 obtain⟨rfl,rfl⟩:=trodVars_none hV
 obtain⟨a0,k0,w0,g0⟩:=WU (ziA Tryz.underlying9 pc9) (hval 0 9 v0 rfl rfl) enc bulk_meas h0
 obtain rfl:=zqs.1 k0
 obtain⟨a1,k1,w1,g1⟩:=WU (ziA Tryz.underlying9 pc9) (hval 1 9 v1 rfl rfl) enc bulk_meas h1
 obtain rfl:=zqs.1 k1
 obtain⟨a2,k2,w2,g2⟩:=WU (zsT ru22 rc22 (zwJ ru4 rc4)) (hval 2 22 v2 rfl rfl) enc bulk_meas h2
 have hw:(a0.size+1)+(a1.size+1)+((a2.xs.map (λy0=>1)).sum+1)≤1048576:=by
  have hb:Rows.uptoBulkAll [d0,d1,d2]≤1048576:=of_decide_eq_true hk
  simp only[Rows.uptoBulkAll] at hb
  try simp only at w0 w1 w2
  omega
 have hlaw:zfG.F (a0,a1,a2)=some true:=by
  exact zxJ _
 have hargs:∀t,VR CC (vP W) ⟨λ_ =>.bool false,λ_=>default⟩ (([.string a0,.string a1,v2][t]?).getD undef) ((zfG.ins.open (C:=CC) (a0,a1,a2)).env t)∧∀p:Nat→Prop,((zfG.ins.open (C:=CC) (a0,a1,a2)).env t).ok p:=by
  intro t
  match t with
  |0=>exact⟨Rv.str,λ_=>trivial⟩
  |1=>exact⟨Rv.str,λ_=>trivial⟩
  |2=>exact⟨TR.slv (C:=CC) (zz6 (C:=CC) (T:=4) rfl (zwK.of (λx=>rfl))) k2,λ_=>trivial⟩
  |t+3=>exact⟨trivial,λ_=>trivial⟩
 refine(Spec.ref zA4 rfl hlaw (args:=[.string a0,.string a1,v2]) rfl (zsS W) (known hL) (λ_=>rfl) hargs).mono λe W2 he=>?_
 obtain⟨v,σ,PV,rfl,hi,rfl,rfl⟩:=he
 simp only[List.append_nil] at hW' hAk
 exact⟨_,rfl,zox hW' (λ_ _ _=>(trodAll_cons_mk (shut_bool Tryz.underlying4 _) trodAll_mk0)) (λsp hsp=>zfd laid hi.ext readable hAk (λx hx=>hW'.lt x hx) hsp) (λ_=>rfl)
  (zmK hi.ext _) (λa ha=>hi.ext.fz a ha rfl) (ok_one (by kernel_rfl) rfl (okWide_bool_mk Tryz.underlying4 _))⟩
noncomputable def low:Nat:=(World.holding Tryz.prog default ⟨#[], #[],[]⟩).heap.size
noncomputable def laidWorld(os:Os):World:=
 let w0:=World.holding Tryz.prog os ⟨#[.cells #[.string ⟨#[118,97,108,117,101,32,111,117,116,32,111,102,32,114,97,110,103,101]⟩] 323,.cells #[.string ⟨#[105,110,118,97,108,105,100,32,115,121,110,116,97,120]⟩] 323], #[],[]⟩
 {w0 with heap:=((((w0.heap.modify 4 λ
     | .cells _ t a =>.cells #[.int .u8 0,.int .u8 1,.int .u8 28,.int .u8 2,.int .u8 29,.int .u8 14,.int .u8 24,.int .u8 3,.int .u8 30,.int .u8 22,.int .u8 20,.int .u8 15,.int .u8 25,.int .u8 17,.int .u8 4,.int .u8 8,.int .u8 31,.int .u8 27,.int .u8 13,.int .u8 23,.int .u8 21,.int .u8 19,.int .u8 16,.int .u8 7,.int .u8 26,.int .u8 12,.int .u8 18,.int .u8 6,.int .u8 11,.int .u8 5,.int .u8 10,.int .u8 9] t a
     |o=>o).modify 5 λ
     | .cells _ t a =>.cells #[.int .u8 0,.int .u8 1,.int .u8 56,.int .u8 2,.int .u8 57,.int .u8 49,.int .u8 28,.int .u8 3,.int .u8 61,.int .u8 58,.int .u8 42,.int .u8 50,.int .u8 38,.int .u8 29,.int .u8 17,.int .u8 4,.int .u8 62,.int .u8 47,.int .u8 59,.int .u8 36,.int .u8 45,.int .u8 43,.int .u8 51,.int .u8 22,.int .u8 53,.int .u8 39,.int .u8 33,.int .u8 30,.int .u8 24,.int .u8 18,.int .u8 12,.int .u8 5,.int .u8 63,.int .u8 55,.int .u8 48,.int .u8 27,.int .u8 60,.int .u8 41,.int .u8 37,.int .u8 16,.int .u8 46,.int .u8 35,.int .u8 44,.int .u8 21,.int .u8 52,.int .u8 32,.int .u8 23,.int .u8 11,.int .u8 54,.int .u8 26,.int .u8 40,.int .u8 15,.int .u8 34,.int .u8 20,.int .u8 31,.int .u8 10,.int .u8 25,.int .u8 14,.int .u8 19,.int .u8 9,.int .u8 13,.int .u8 8,.int .u8 7,.int .u8 6] t a
     |o=>o).modify 3 λ
     | .cells _ t a =>.cells #[.int .u64 1,.int .u64 10,.int .u64 100,.int .u64 1000,.int .u64 10000,.int .u64 100000,.int .u64 1000000,.int .u64 10000000,.int .u64 100000000,.int .u64 1000000000,.int .u64 10000000000,.int .u64 100000000000,.int .u64 1000000000000,.int .u64 10000000000000,.int .u64 100000000000000,.int .u64 1000000000000000,.int .u64 10000000000000000,.int .u64 100000000000000000,.int .u64 1000000000000000000,.int .u64 10000000000000000000] t a
     |o=>o).modify 1 λ
     | .cells _ t a =>.cells #[.iface 321 (.pointer (some ⟨low+0,0,none⟩))] t a
     |o=>o).modify 0 λ
     | .cells _ t a =>.cells #[.iface 321 (.pointer (some ⟨low+1,0,none⟩))] t a
     |o=>o}
set_option maxRecDepth 100000 in
theorem laid_met(os:Os):laidMetH Tryz.prog Rows.movesWaysUptoRow.laid ((laidWorld os).forCall (λ_ _=>0) ⟨#[], #[.string ⟨#[]⟩,.string ⟨#[]⟩,.slice none 0 0],[]⟩).memory:=by
 rw[Go.MakeChecks.laidMetH_plain _ _ _ jO]
 exact laidMet_of_run' 8 jO jO
theorem reads(os:Os){H:Type}(enc:TypeId×Value→H):∃a,DataW.whole enc Tryz.prog ((laidWorld os).forCall (λ_ _=>0) ⟨#[], #[.string ⟨#[]⟩,.string ⟨#[]⟩,.slice none 0 0],[]⟩).memory Tryz.f3.params.toList Rows.movesWaysSpec.vars false (#[.string ⟨#[]⟩,.string ⟨#[]⟩,.slice none 0 0]:Array Value).toList 8=some ([.lit (.string []),.lit (.string []),.nil],[],a):=
 ⟨[],jO⟩
set_option maxRecDepth 100000 in
theorem lifted (os:Os) (a:os.Started) (H:Type) (enc:TypeId×Value→H) (F:Stop.Interp) :
    ReturnsInHanded {} Tryz.checked os 3 .any ((Rows.OpenSpec.upto Rows.movesWaysSpec).preRow enc Tryz.prog Tryz.f3 Rows.movesWaysUptoRow.domain false Rows.movesWaysUptoRow.laid) (((Rows.OpenSpec.upto Rows.movesWaysSpec).at F).post enc Tryz.prog Tryz.f3 false true false false):=by
 obtain⟨e,h⟩:=reads os enc
 refine returnsInHanded_of_row (C:=Tryz.checked) (s:=Rows.OpenSpec.upto Rows.movesWaysSpec) own a jO Tryz.func3
  (witness_row_atRef (enc:=enc) (C:=Tryz.checked) false (laidWorld os) #[.string ⟨#[]⟩,.string ⟨#[]⟩,.slice none 0 0] rfl jO jO jO
    (OpenSpec.preRow_of_cond 8 h jO (λk i=>by cases i;kernel_rfl) jO (laid_met os))) ?_
 intro W base args ds j b d f _ c _ g _ _
 exact contract H enc W base args ds j b d f (c _ rfl) g
theorem over:Rows.movesWaysUptoRow.holds Tryz.pinned (Rows.OpenSpec.upto Rows.movesWaysSpec):=
 OpenClaim.holds_of_cond 3 Tryz.f3 rfl rfl rfl rfl rfl rfl rfl ⟨rfl,rfl,rfl,rfl,rfl⟩ rfl rfl rfl rfl rfl jO Tryz.func3 jO
  (of_decide_eq_true jO) (by unfold Func.isWrapper;first | (rw[if_pos ja];kernel_rfl) | (rw[if_neg ja];exact⟨rfl,rfl⟩))
  (λos a H enc _ F=>by rw[OpenClaim.pre_eq_preRow];exact lifted os a H enc F)
theorem plain (f : FuncId) (fn : Func) (hf : Tryz.pinned.checked.prog.funcNamed "lychgate/lychgatelaw19.MovesWays" = some f) (hfn : Tryz.pinned.checked.prog.funcs[f]? = some fn) :
    true=Tryz.pinned.checked.prog.looks []∧∀(j:Nat) t,fn.params[j]?=some t→Tryz.pinned.checked.prog.wantsStandIn t=false:=by
 obtain rfl : f = 3 := Option.some.inj ((show Tryz.prog.funcNamed "lychgate/lychgatelaw19.MovesWays" = some 3 by kernel_rfl).symm.trans hf) |>.symm
 obtain rfl:fn=Tryz.f3:=(Option.some.inj (Tryz.func3.symm.trans hfn)).symm
 refine⟨by kernel_rfl,λj t ht=>?_⟩
 rw[Tryz.params3] at ht
 have hm:=Array.mem_of_getElem? ht
 simp at hm
 rcases hm with rfl | rfl | rfl
 all_goals exact(show Tryz.prog.wantsStandIn _=false by kernel_rfl)
theorem proved:Rows.MovesWaysUptoCardSaid:=
 Claim7.holds_tied_plain_at .later [] _ _ _ _ over (λ_ h=>by cases h) (by kernel_rfl) (λ_ h=>by cases h) movesWaysUpto_row_tie rfl ⟨rfl,rfl⟩ (by kernel_rfl) rfl plain (by kernel_rfl)
end Go.Proofs.YthnflpoohleiaaaGreatDoor.movesWays
