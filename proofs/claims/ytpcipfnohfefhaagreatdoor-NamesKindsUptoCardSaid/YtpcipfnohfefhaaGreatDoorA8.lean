/- Part A8: PxC8 PxM32 PxMT. -/
import Derived.Test.YtpcipfnohfefhaaGreatDoorA6
import Derived.ProofKit
import Derived.OpenShut
import Derived.JoinedCond
import Derived.Carry
import Derived.Deep.Slices
set_option linter.unusedVariables false
set_option linter.unusedSimpArgs false
namespace Go.Px
open Go.ChangeShapes Go.WideShapes Go.ChangeAt Go.RowKit
def zei (w:World):FS:=fun b o=>w.cell? ⟨b,o,none⟩
structure Meas {H:Type}(m:DataW H->Nat):Prop where
 one:∀ d,1<=m d
 str:∀ b:List UInt8,b.length+1<=m (.lit (.string b))
 slice:∀ es sp,(es.map m).sum+1<=m (.slice es sp)
 agg:∀ ps,(ps.map m).sum+1<=m (.agg ps)
 ptr:∀ d,m d+1<=m (.ptr d)
structure Rd (P:Program) (T:TypeId) {α:Type}(t:Ty α) (wt:α->Nat) (G:α->Prop):Prop where
 open_:∀ {H:Type} (enc:TypeId×Value->H) (m:DataW H->Nat),Meas m->∀ (W:World) fuel cs x,DataW.trod enc P W 0 (fun _=>true) true fuel T cs=some x->∃ a,t.rel (zei W) cs a/\wt a<=m x.1/\G a
 shape:∀ (W:World) (base:Nat) (v:Value),Value.okWide P W .any base T v->zb4 v=t.agg
 size:P.cellsOf T=t.size
theorem zg2 {P:Program}{T:TypeId}(hu:P.underlying T=some .string) (hc:P.cellsOf T=1):Rd P T zlD (fun s=>s.size+1) (fun s=>s.size<=maxLen) where
  open_:=by
    intro H enc m hm W fuel cs x h;cases fuel with
    |zero=>simp [DataW.trod] at h
    |succ fuel=>
      unfold DataW.trod at h;simp only [hu] at h;split at h <;> try (simp_all;done)
      all_goals (try (rename_i heq;cases heq))
      all_goals first
        |(split at h
          ·rename_i hk;cases h;exact ⟨_,rfl,GM (Nat.le_of_eq (by rw [Array.length_toList];rfl)) (hm.str _),hk⟩
          ·cases h)
        |simp_all
  shape W base v h:=by obtain ⟨n,rfl⟩:=okWide_string hu h;rfl
  size:=hc
theorem zqq (W:World):(zei W).sub W:=fun b o v h=>h
theorem zay {P:Program}{W:World}{base:Nat}{T:TypeId}{α:Type}{t:Ty α}{wt:α->Nat}{G:α->Prop}(r:Rd P T t wt G) {v:Value}(hv:Value.okWide P W .any base T v) {H:Type}(enc:TypeId×Value->H) {m:DataW H->Nat}(hm:Meas m) {d:DataW H}{ps:List MemPlace}
    (h:DataW.Trod enc P W 0 (fun _=>true) true T v d ps):∃ a,t.vrel (zei W) v a/\wt a<=m d/\G a:=by
  obtain ⟨fuel,hf⟩:=h;obtain ⟨a,h1,h2,h3⟩:=r.open_ enc m hm W fuel _ _ hf;exact ⟨a,⟨h1,r.shape W base v hv⟩,h2,h3⟩
theorem zkI {W W':World}(h:Ext W zc.none W') (may:MemPlace->Prop):W.keptBut W' may:=by
 refine ⟨h.os,h.output,fun i hi=>?_⟩;rw [h.old_eq hi];grind
theorem zo0 {W W':World}(h:Ext W zc.none W'):Below W.heap.size W W':=⟨h.os,h.tape,h.output,h.size,fun b hb=>h.old_eq hb⟩
theorem zdV {H:Type}{enc:TypeId×Value->H}{P:Program}(hl:laidOutB P=true) {W W':World}(hx:Ext W zc.none W') {sp:Nat->Bool}:∀ {ts:List TypeId}{vs:List Value}{ds:List (DataW H)}{ps:List MemPlace},
    (∀ t∈ts,P.readableRec t=true/\t < P.types.size)->DataW.TrodAll enc P W 0 (fun _=>true) true ts vs ds ps->(∀ x∈ps,x.block < W.heap.size)->(∀ x∈ps,sp x.block=true)->DataW.TrodAll enc P W' 0 sp true ts vs ds ps
  |[],[],[],_,_,h,_,_=>h
  |t::ts,v::vs,d::ds,_,ht,⟨p,q,h1,h2,e⟩,hlt,hs=>by
    subst e
    exact ⟨p,q,WideElems.Trod_stays hl (ht t (by simp)).1 (ht t (by simp)).2 h1 (fun x hx'=>(zo0 hx).same (hlt x (U6 _ hx'))) (fun x hx'=>hs x (U6 _ hx')),
      zdV hl hx (fun t' h'=>ht t' (by simp [h'])) h2 (fun x hx'=>hlt x (List.mem_append_right _ hx')) (fun x hx'=>hs x (List.mem_append_right _ hx')),rfl⟩
end Go.Px
namespace Go.Px
open Go.ChangeShapes Go.WideShapes Go.ChangeAt Go.RowKit
theorem zml {H:Type}{enc:TypeId×Value->H}{P:Program}{f:Func}{s:ChangeSpec}{apart fresh handsOn again:Bool}{W W':World}{args:Array Value}{v:Value}{ds gs:List (DataW H)}{before:List MemPlace}
    (hW:DataW.Whole enc P f.params.toList s.vars apart W args.toList ds gs before) (hres:∀ (b:Nat) (sp:Nat->Bool) (hd:Bool),DataW.TrodAll enc P W' b sp hd f.resultTypes.toList (v.resultList f.resultTypes.size) (s.fn H (ds++gs)).results [])
    (hargs:∀ sp:Nat->Bool,(∀ p∈before,sp p.block=true)->DataW.TrodAll enc P W' 0 sp true f.params.toList args.toList (s.fn H (ds++gs)).args before) (hvars:∀ sp:Nat->Bool,DataW.TrodVars enc P W' sp s.vars (s.fn H (ds++gs)).vars [])
    (hk:W.keptBut W' (·∈before)) (hfz:∀ a:Addr,a.block < W.heap.size->W'.frozen? a=W.frozen? a)
    (hok:∀ (j:Nat) (t:TypeId) (r:Value),f.resultTypes[j]?=some t->(v.resultList f.resultTypes.size)[j]?=some r->Value.okWide P W' .any 0 t r):s.post enc P f apart fresh handsOn again W args v W':=by
  have hlt:=hW.lt;have hin:∀ p∈before,(fun b=>decide (b < W.heap.size)) p.block=true:=fun p hp=>gc (hlt p hp)
  have hW2:=hW;obtain ⟨_,_,_,_,_,hz,hn⟩:=hW2
  have hall:DataW.Whole enc P (f.resultTypes.toList++f.params.toList) s.vars apart W' (v.resultList f.resultTypes.size++args.toList) ((s.fn H (ds++gs)).results++(s.fn H (ds++gs)).args) (s.fn H (ds++gs)).vars before:=
    ⟨before,[],trodAll_append (hargs (fun _=>true) fun _ _=>rfl) (hres 0 (fun _=>true) true),hvars _,(List.append_nil before).symm,fun b off hp=>(hfz _ (hlt _ hp)).trans (hz b off hp),fun ha=>hn ha⟩
  exact ⟨ds,gs,before,[],before,[],hW,hres _ _ _,hargs _ hin,hvars _,World.keptBut_mono (fun p hp=>⟨hp,.inr (.inl hp)⟩) hk,fun _=>⟨hok,_,_,before,hall,fun p hp _=>hp⟩⟩
end Go.Px
namespace Go.Px
section
variable {C:Cod}
structure TR (C:Cod) {α:Type}(t:Ty α) (e:α->List (AV C.D)):Prop where
 len:∀ x,(e x).length=t.size
 rv:∀ {Z:FS} {cs:List Value} {x:α},t.rel Z cs x->∀ (j:Nat) (A:AV C.D),(e x)[j]?=some A->∃ v,cs[j]?=some v/\Rv C Z v A
theorem TR.of {α:Type}{A:Ty α}{e f:α->List (AV C.D)}(hA:TR C A e) (h:∀ x,f x=e x):TR C A f where
 len x:=by rw [h];exact hA.len x
 rv {Z cs x} k j V hj:=by rw [h] at hj;exact hA.rv k j V hj
end
end Go.Px
