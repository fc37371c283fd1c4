/- Part A8. -/
import Derived.Test.YtnkjgenigoecjaaGreatDoorA6
import Derived.ProofKit
import Derived.OpenShut
import Derived.JoinedCond
import Derived.Carry
import Derived.Deep.Slices
set_option linter.unusedVariables false
set_option linter.unusedSimpArgs false
open Bool renaming true->c
open Go.DataW renaming TrodAll->g,trod->i,Whole->l
namespace Go.Px
open Go.ChangeShapes Go.WideShapes Go.ChangeAt Go.RowKit
def zfz(w:World):FS:=λb o=>w.cell? ⟨b,o,none⟩
structure Meas{H:Type}(m:DataW H->Nat):Prop where
 one:∀d,1<=m d
 str:∀b:List UInt8,b.length+1<=m (.lit (.string b))
 slice:∀es sp,(es.map m).sum+1<=m (.slice es sp)
 agg:∀ps,(ps.map m).sum+1<=m (.agg ps)
 ptr:∀d,m d+1<=m (.ptr d)
structure Rd(P:Program)(T:TypeId){α:Type}(t:Ty α)(wt:α->Nat)(G:α->Prop):Prop where
 open_:∀{H:Type} (enc:TypeId×Value->H) (m:DataW H->Nat),Meas m->∀(W:World) fuel cs x,i enc P W 0 (λ_=>c) c fuel T cs=some x->∃a,t.rel (zfz W) cs a/\wt a<=m x.1/\G a
 shape:∀(W:World) (base:Nat) (v:Value),Value.okWide P W .any base T v->zc2 v=t.agg
 size:P.cellsOf T=t.size
theorem ziH{P:Program}{T:TypeId}(hu:P.underlying T=some .string)(hc:P.cellsOf T=1):Rd P T zn8 (λs=>s.size+1) (λs=>s.size<=maxLen) where
 open_:=by
  intro H enc m hm W fuel cs x h;cases fuel with
  |zero=>simp[i] at h
  |succ fuel=>
   unfold i at h;simp only[hu] at h;split at h<;>try (simp_all;done)
   all_goals (try (rename_i heq;cases heq))
   all_goals first
    |(split at h
      ·rename_i hk;cases h;exact⟨_,rfl,UP (Nat.le_of_eq (by rw[Array.length_toList];rfl)) (hm.str _),hk⟩
      ·cases h)
    |simp_all
 shape W base v h:=by obtain⟨n,rfl⟩:=okWide_string hu h;rfl
 size:=hc
theorem ztH(W:World):(zfz W).sub W:=λb o v h=>h
theorem zbk {P:Program}{W:World}{base:Nat}{T:TypeId}{α:Type}{t:Ty α}{wt:α->Nat}{G:α->Prop}(r:Rd P T t wt G) {v:Value}(hv:Value.okWide P W .any base T v) {H:Type}(enc:TypeId×Value->H) {m:DataW H->Nat}(hm:Meas m) {d:DataW H}{ps:List MemPlace}
    (h:DataW.Trod enc P W 0 (λ_=>c) c T v d ps):∃a,t.vrel (zfz W) v a/\wt a<=m d/\G a:=by
 let⟨fuel,hf⟩:=h;let⟨a,h1,h2,h3⟩:=r.open_ enc m hm W fuel _ _ hf;exact⟨a,⟨h1,r.shape W base v hv⟩,h2,h3⟩
theorem zm8{W W':World}(h:Ext W zc.none W')(may:MemPlace->Prop):W.keptBut W' may:=by
 refine⟨h.os,h.output,λi hi=>?_⟩;rw[h.old_eq hi];grind
theorem zsh{W W':World}(h:Ext W zc.none W'):Below W.heap.size W W':=⟨h.os,h.tape,h.output,h.size,λb hb=>h.old_eq hb⟩
theorem zfe {H:Type}{enc:TypeId×Value->H}{P:Program}(hl:laidOutB P=c) {W W':World}(hx:Ext W zc.none W') {sp:Nat->Bool}:∀{ts:List TypeId}{vs:List Value}{ds:List (DataW H)}{ps:List MemPlace},
    (∀t∈ts,P.readableRec t=c/\t < P.types.size)->g enc P W 0 (λ_=>c) c ts vs ds ps->(∀x∈ps,x.block < W.heap.size)->(∀x∈ps,sp x.block=c)->g enc P W' 0 sp c ts vs ds ps
 |[],[],[],_,_,h,_,_=>h
 |t::ts,v::vs,d::ds,_,ht,⟨p,q,h1,h2,e⟩,hlt,hs=>by
  subst e
  exact⟨p,q,WideElems.Trod_stays hl (ht t (by simp)).1 (ht t (by simp)).2 h1 (λx hx'=>(zsh hx).same (hlt x (DC _ hx'))) (λx hx'=>hs x (DC _ hx')),
   zfe hl hx (λt' h'=>ht t' (by simp[h'])) h2 (λx hx'=>hlt x (DE _ hx')) (λx hx'=>hs x (DE _ hx')),rfl⟩
end Go.Px
namespace Go.Px
open Go.ChangeShapes Go.WideShapes Go.ChangeAt Go.RowKit
theorem zoQ {H:Type}{enc:TypeId×Value->H}{P:Program}{f:Func}{s:ChangeSpec}{apart fresh handsOn again:Bool}{W W':World}{args:Array Value}{v:Value}{ds gs:List (DataW H)}{before:List MemPlace}
    (hW:l enc P f.params.toList s.vars apart W args.toList ds gs before) (hres:∀(b:Nat) (sp:Nat->Bool) (hd:Bool),g enc P W' b sp hd f.resultTypes.toList (v.resultList f.resultTypes.size) (s.fn H (ds++gs)).results [])
    (hargs:∀sp:Nat->Bool,(∀p∈before,sp p.block=c)->g enc P W' 0 sp c f.params.toList args.toList (s.fn H (ds++gs)).args before) (hvars:∀sp:Nat->Bool,DataW.TrodVars enc P W' sp s.vars (s.fn H (ds++gs)).vars [])
    (hk:W.keptBut W' (·∈before)) (hfz:∀a:Addr,a.block < W.heap.size->W'.frozen? a=W.frozen? a)
    (hok:∀(j:Nat) (t:TypeId) (r:Value),f.resultTypes[j]?=some t->(v.resultList f.resultTypes.size)[j]?=some r->Value.okWide P W' .any 0 t r):s.post enc P f apart fresh handsOn again W args v W':=by
 have hlt:=hW.lt;have hin:∀p∈before,(λb=>decide (b < W.heap.size)) p.block=true:=λp hp=>gm (hlt p hp)
 have hW2:=hW;let⟨_,_,_,_,_,hz,hn⟩:=hW2
 have hall:l enc P (f.resultTypes.toList++f.params.toList) s.vars apart W' (v.resultList f.resultTypes.size++args.toList) ((s.fn H (ds++gs)).results++(s.fn H (ds++gs)).args) (s.fn H (ds++gs)).vars before:=
  ⟨before,[],trodAll_append (hargs (λ_=>c) λ_ _=>rfl) (hres 0 (λ_=>c) c),hvars _,(List.append_nil before).symm,λb off hp=>(hfz _ (hlt _ hp)).trans (hz b off hp),λha=>hn ha⟩
 exact⟨ds,gs,before,[],before,[],hW,hres _ _ _,hargs _ hin,hvars _,World.keptBut_mono (λp hp=>⟨hp,.inr (.inl hp)⟩) hk,λ_=>⟨hok,_,_,before,hall,λp hp _=>hp⟩⟩
end Go.Px
namespace Go.Px
section
variable {C:Cod}
end
end Go.Px
