/- Part A8. -/
import Derived.Test.YtlhommikjhhmbaaGreatDoorA6
import Derived.ProofKit
import Derived.OpenShut
import Derived.JoinedCond
import Derived.Carry
import Derived.Deep.Slices
set_option linter.unusedVariables false
set_option linter.unusedSimpArgs false
open Bool renaming true->c
open Go.DataW renaming TrodAll->g,trod->i,Whole->l
namespace Go.Px
open Go.ChangeShapes Go.WideShapes Go.ChangeAt Go.RowKit
def zfx(w:World):FS:=λb o=>w.cell? ⟨b,o,none⟩
structure Meas{H:Type}(m:DataW H->Nat):Prop where
 one:∀d,1<=m d
 str:∀b:List UInt8,b.length+1<=m (.lit (.string b))
 slice:∀es sp,(es.map m).sum+1<=m (.slice es sp)
 agg:∀ps,(ps.map m).sum+1<=m (.agg ps)
 ptr:∀d,m d+1<=m (.ptr d)
structure Rd(P:Program)(T:TypeId){α:Type}(t:Ty α)(wt:α->Nat)(G:α->Prop):Prop where
 open_:∀{H:Type} (enc:TypeId×Value->H) (m:DataW H->Nat),Meas m->∀(W:World) fuel cs x,i enc P W 0 (λ_=>c) c fuel T cs=some x->∃a,t.rel (zfx W) cs a/\wt a<=m x.1/\G a
 shape:∀(W:World) (base:Nat) (v:Value),Value.okWide P W .any base T v->zc2 v=t.agg
 size:P.cellsOf T=t.size
theorem ziJ{P:Program}{T:TypeId}(hu:P.underlying T=some .string)(hc:P.cellsOf T=1):Rd P T znX (λs=>s.size+1) (λs=>s.size<=maxLen) where
 open_:=by
  intro H enc m hm W fuel cs x h;cases fuel with
  |zero=>simp[i] at h
  |succ fuel=>
   unfold i at h;simp only[hu] at h;split at h<;>try (simp_all;done)
   all_goals (try (rename_i heq;cases heq))
   all_goals first
    |(split at h
      ·rename_i hk;cases h;exact⟨_,rfl,UM (Nat.le_of_eq (by rw[Array.length_toList];rfl)) (hm.str _),hk⟩
      ·cases h)
    |simp_all
 shape W base v h:=by obtain⟨n,rfl⟩:=okWide_string hu h;rfl
 size:=hc
theorem zsV(W:World):(zfx W).sub W:=λb o v h=>h
theorem zbl {P:Program}{W:World}{base:Nat}{T:TypeId}{α:Type}{t:Ty α}{wt:α->Nat}{G:α->Prop}(r:Rd P T t wt G) {v:Value}(k:Value.okWide P W .any base T v) {H:Type}(enc:TypeId×Value->H) {m:DataW H->Nat}(f:Meas m) {d:DataW H}{ps:List MemPlace}
    (h:DataW.Trod enc P W 0 (λ_=>c) c T v d ps):∃a,t.vrel (zfx W) v a/\wt a<=m d/\G a:=by
 let⟨b,e⟩:=h;let⟨a,h1,h2,j⟩:=r.open_ enc m f W b _ _ e;exact⟨a,⟨h1,r.shape W base v k⟩,h2,j⟩
theorem zmU{W W':World}(h:Ext W zc.none W')(a:MemPlace->Prop):W.keptBut W' a:=by
 refine⟨h.os,h.output,λi hi=>?_⟩;rw[h.old_eq hi];grind
theorem zrq{W W':World}(h:Ext W zc.none W'):Below W.heap.size W W':=⟨h.os,h.tape,h.output,h.size,λb hb=>h.old_eq hb⟩
theorem zfc {H:Type}{enc:TypeId×Value->H}{P:Program}(j:laidOutB P=c) {W W':World}(b:Ext W zc.none W') {f:Nat->Bool}:∀{ts:List TypeId}{vs:List Value}{ds:List (DataW H)}{ps:List MemPlace},
    (∀t∈ts,P.readableRec t=c/\t < P.types.size)->g enc P W 0 (λ_=>c) c ts vs ds ps->(∀x∈ps,x.block < W.heap.size)->(∀x∈ps,f x.block=c)->g enc P W' 0 f c ts vs ds ps
 |[],[],[],_,_,h,_,_=>h
 |t::ts,v::vs,d::ds,_,ht,⟨p,q,h1,h2,e⟩,hlt,hs=>by
  subst e
  exact⟨p,q,WideElems.Trod_stays j (ht t je).1 (ht t je).2 h1 (λx a=>(zrq b).same (hlt x (DB _ a))) (λx a=>hs x (DB _ a)),
   zfc j b (λm k=>ht m (by simp[k])) h2 (λx a=>hlt x (List.mem_append_right _ a)) (λx a=>hs x (List.mem_append_right _ a)),rfl⟩
end Go.Px
namespace Go.Px
open Go.ChangeShapes Go.WideShapes Go.ChangeAt Go.RowKit
theorem zoF {H:Type}{enc:TypeId×Value->H}{P:Program}{f:Func}{s:ChangeSpec}{e q m again:Bool}{W W':World}{args:Array Value}{v:Value}{ds n:List (DataW H)}{d:List MemPlace}
    (A:l enc P f.params.toList s.vars e W args.toList ds n d) (o:∀(b:Nat) (u:Nat->Bool) (hd:Bool),g enc P W' b u hd f.resultTypes.toList (v.resultList f.resultTypes.size) (s.fn H (ds++n)).results [])
    (k:∀u:Nat->Bool,(∀p∈d,u p.block=c)->g enc P W' 0 u c f.params.toList args.toList (s.fn H (ds++n)).args d) (h:∀u:Nat->Bool,DataW.TrodVars enc P W' u s.vars (s.fn H (ds++n)).vars [])
    (G:W.keptBut W' (·∈d)) (y:∀a:Addr,a.block < W.heap.size->W'.frozen? a=W.frozen? a)
    (B:∀(j:Nat) (t:TypeId) (r:Value),f.resultTypes[j]?=some t->(v.resultList f.resultTypes.size)[j]?=some r->Value.okWide P W' .any 0 t r):s.post enc P f e q m again W args v W':=by
 have w:=A.lt;have D:∀p∈d,(λb=>decide (b < W.heap.size)) p.block=true:=λp hp=>gm (w p hp)
 have z:=A;let⟨_,_,_,_,_,I,E⟩:=z
 have x:l enc P (f.resultTypes.toList++f.params.toList) s.vars e W' (v.resultList f.resultTypes.size++args.toList) ((s.fn H (ds++n)).results++(s.fn H (ds++n)).args) (s.fn H (ds++n)).vars d:=
  ⟨d,[],trodAll_append (k (λ_=>c) λ_ _=>rfl) (o 0 (λ_=>c) c),h _,(List.append_nil d).symm,λb off hp=>(y _ (w _ hp)).trans (I b off hp),λF=>E F⟩
 exact⟨ds,n,d,[],d,[],A,o _ _ _,k _ D,h _,World.keptBut_mono (λp hp=>⟨hp,.inr (.inl hp)⟩) G,λ_=>⟨B,_,_,d,x,λp hp _=>hp⟩⟩
end Go.Px
namespace Go.Px
section
variable {C:Cod}
structure TR(C:Cod){α:Type}(t:Ty α)(e:α->List (AV C.D)):Prop where
 len:∀x,(e x).length=t.size
 rv:∀{Z:FS} {cs:List Value} {x:α},t.rel Z cs x->∀(j:Nat) (A:AV C.D),(e x)[j]?=some A->∃v,cs[j]?=some v/\Rv C Z v A
theorem TR.of{α:Type}{A:Ty α}{e f:α->List (AV C.D)}(hA:TR C A e)(h:∀x,f x=e x):TR C A f where
 len x:=by rw[h];exact hA.len x
 rv {Z cs x} k j V hj:=by rw[h] at hj;exact hA.rv k j V hj
end
end Go.Px
