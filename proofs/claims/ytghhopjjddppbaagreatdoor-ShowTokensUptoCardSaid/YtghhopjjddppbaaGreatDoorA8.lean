/- Part A8: PxC8 PxM32. -/
import Derived.Test.YtghhopjjddppbaaGreatDoorA2
import Derived.ProofKit
import Derived.OpenShut
import Derived.JoinedCond
import Derived.Carry
import Derived.Deep.Slices
import Derived.Test.YtghhopjjddppbaaGreatDoorA6
namespace Go.Px
open Go.ChangeShapes Go.WideShapes Go.ChangeAt Go.RowKit
set_option linter.unusedVariables false
def zay (w:World):FS:=fun b o=>w.cell? ⟨b,o,none⟩
structure Meas {H:Type}(m:DataW H→Nat):Prop where
 one:∀ d,1≤m d
 str:∀ b:List UInt8,b.length+1≤m (.lit (.string b))
 slice:∀ es sp,(es.map m).sum+1≤m (.slice es sp)
 agg:∀ ps,(ps.map m).sum+1≤m (.agg ps)
 ptr:∀ d,m d+1≤m (.ptr d)
structure Rd (P:Program) (T:TypeId) {α:Type}(t:Ty α) (wt:α→Nat) (G:α→Prop):Prop where
 open_:∀ {H:Type} (enc:TypeId×Value→H) (m:DataW H→Nat),Meas m→∀ (W:World) fuel cs x,DataW.trod enc P W 0 (fun _=>true) true fuel T cs=some x→∃ a,t.rel (zay W) cs a∧wt a≤m x.1∧G a
 shape:∀ (W:World) (base:Nat) (v:Value),Value.okWide P W .any base T v→Y8 v=t.agg
 size:P.cellsOf T=t.size
theorem zoi {P:Program}{T:TypeId}{k:IntKind}(hu:P.underlying T=some (.int k)) (hc:P.cellsOf T=1):Rd P T (zhE k) (fun _=>1) (fun n=>k.min≤n∧n≤k.max) where
  open_:=by
    intro H enc m hm W fuel cs x h
    cases fuel with
    |zero=>simp [DataW.trod] at h
    |succ fuel=>
      unfold DataW.trod at h
      simp only [hu] at h
      split at h <;> try (simp_all;done)
      all_goals (try (rename_i heq;cases heq))
      all_goals first
        |(split at h
          · rename_i hk
            obtain ⟨rfl,hw⟩:=hk
            cases h
            exact ⟨_,rfl,hm.one _,by simpa [Lit.wf] using hw⟩
          · cases h)
        |simp_all
  shape W base v h:=by obtain ⟨n,rfl⟩:=okWide_int hu h;rfl
  size:=hc
theorem zqw {P:Program}{T:TypeId}(hu:P.underlying T=some .bool) (hc:P.cellsOf T=1):Rd P T zms (fun _=>1) (fun _=>True) where
 open_:=by
  intro H enc m hm W fuel cs x h
  cases fuel with
  |zero=>simp [DataW.trod] at h
  |succ fuel=>
   unfold DataW.trod at h
   simp only [hu] at h
   split at h <;> try (simp_all;done)
   all_goals (try (rename_i heq;cases heq))
   all_goals first
    |(cases h;exact ⟨_,rfl,hm.one _,trivial⟩)
    |simp_all
 shape W base v h:=by obtain ⟨n,rfl⟩:=okWide_bool hu h;rfl
 size:=hc
theorem zjV {P:Program}{T:TypeId}(hu:P.underlying T=some .string) (hc:P.cellsOf T=1):Rd P T zhF (fun s=>s.size+1) (fun s=>s.size≤maxLen) where
  open_:=by
    intro H enc m hm W fuel cs x h
    cases fuel with
    |zero=>simp [DataW.trod] at h
    |succ fuel=>
      unfold DataW.trod at h
      simp only [hu] at h
      split at h <;> try (simp_all;done)
      all_goals (try (rename_i heq;cases heq))
      all_goals first
        |(split at h
          · rename_i hk
            cases h
            exact ⟨_,rfl,Nat.le_trans (Nat.le_of_eq (by rw [Array.length_toList];rfl)) (hm.str _),hk⟩
          · cases h)
        |simp_all
  shape W base v h:=by obtain ⟨n,rfl⟩:=okWide_string hu h;rfl
  size:=hc
theorem zlj (W:World):(zay W).sub W:=fun b o v h=>h
theorem zlk {n s:Nat}{f:Nat→List Value}:∀ (m:Nat),(∀ i,i < m→(f i).length=s)→∀ (j:Nat) (u:Value),(((List.range m).map f).flatten)[j]?=some u→∃ i k,i < m∧k < s∧j=i * s+k∧(f i)[k]?=some u
 |0,_,j,u,h=>by simp at h
 |m+1,hl,j,u,h=>by
  rw [List.range_succ,List.map_append,List.flatten_append] at h
  have hlen:(((List.range m).map f).flatten).length=m * s:=by
   clear h
   induction m with
   |zero=>simp
   |succ m ih=>
    rw [List.range_succ,List.map_append,List.flatten_append,List.length_append,ih (fun i hi=>hl i (by omega))]
    simp [hl m (by omega),Nat.add_mul]
  by_cases hj:j < m * s
  ·rw [List.getElem?_append_left (by omega)] at h
   obtain ⟨i,k,h1,h2⟩:=zlk (n:=n) m (fun i hi=>hl i (by omega)) j u h
   exact ⟨i,k,by omega,h2⟩
  ·rw [List.getElem?_append_right (by omega),hlen] at h
   simp at h
   refine ⟨m,j - m * s,by omega,?_,by omega,h⟩
   have:=(List.getElem?_eq_some_iff.1 h).1
   rw [hl m (by omega)] at this;exact this
theorem zoj {H:Type}(m:DataW H→Nat) {α:Type}(wt:α→Nat):∀ (n:Nat) (D:Nat→DataW H) (g:Nat→α),(∀ i,i < n→wt (g i)≤m (D i))→(((List.range n).map g).map wt).sum≤(((List.range n).map D).map m).sum
 |0,_,_,_=>by simp
 |n+1,D,g,h=>by
  rw [List.range_succ]
  simp only [List.map_append,List.sum_append,List.map_cons,List.map_nil,List.sum_cons,List.sum_nil]
  have h1:=zoj m wt n D g fun i hi=>h i (by omega)
  have h2:=h n (by omega)
  omega
theorem zph {H:Type}{enc:TypeId×Value→H}{P:Program}{W:World}{fuel:Nat}{T:TypeId}{fs:Array Field}{cs:List Value}{x:DataW H×List MemPlace}(hu:P.underlying T=some (.struct fs))
    (h:DataW.trod enc P W 0 (fun _=>true) true fuel T cs=some x) :
    cs.length=P.cellsOf T∧∃ (n:Nat) (xs:List (DataW H×List MemPlace)),x.1 = .agg (xs.map (·.1))∧xs.length=fs.toList.length∧
      ∀ (i:Nat) (f:Field),fs.toList[i]?=some f→∃ y,xs[i]?=some y∧DataW.trod enc P W 0 (fun _=>true) true n f.type ((cs.drop f.offset).take (P.cellsOf f.type))=some y:=by
  cases fuel with
  |zero=>simp [DataW.trod] at h
  |succ n=>
    unfold DataW.trod at h
    simp only [hu] at h
    have hmap:∀ (l:List Field) (ys:List (DataW H×List MemPlace)),(l.mapM fun f=>DataW.trod enc P W 0 (fun _=>true) true n f.type ((cs.drop f.offset).take (P.cellsOf f.type)))=some ys→
        ys.length=l.length∧∀ (i:Nat) (f:Field),l[i]?=some f→∃ y,ys[i]?=some y∧DataW.trod enc P W 0 (fun _=>true) true n f.type ((cs.drop f.offset).take (P.cellsOf f.type))=some y:=by
      intro l
      induction l with
      |nil=>intro ys h;simp at h;subst h;simp
      |cons f l ih=>
        intro ys h
        rw [List.mapM_cons] at h
        cases h1:DataW.trod enc P W 0 (fun _=>true) true n f.type ((cs.drop f.offset).take (P.cellsOf f.type)) with
        |none=>rw [h1] at h;cases h
        |some y=>
          rw [h1] at h
          cases h2:(l.mapM fun f=>DataW.trod enc P W 0 (fun _=>true) true n f.type ((cs.drop f.offset).take (P.cellsOf f.type))) with
          |none=>rw [h2] at h;cases h
          |some zs=>
            rw [h2] at h
            cases h
            obtain ⟨k1,k2⟩:=ih zs h2
            refine ⟨by simp [k1],fun i f' hi=>?_⟩
            cases i with
            |zero=>simp at hi;subst hi;exact ⟨y,rfl,h1⟩
            |succ i=>simpa using k2 i f' (by simpa using hi)
    split at h
    · rename_i hl
      cases h2:(fs.toList.mapM fun f=>DataW.trod enc P W 0 (fun _=>true) true n f.type ((cs.drop f.offset).take (P.cellsOf f.type))) with
      |none=>rw [h2] at h;cases h
      |some xs=>
        rw [h2] at h
        cases h
        obtain ⟨k1,k2⟩:=hmap _ _ h2
        exact ⟨hl,n,xs,rfl,k1,k2⟩
    · cases h
theorem vI {P:Program}{W:World}{base:Nat}{T:TypeId}{α:Type}{t:Ty α}{wt:α→Nat}{G:α→Prop}(r:Rd P T t wt G) {v:Value}(hv:Value.okWide P W .any base T v) {H:Type}(enc:TypeId×Value→H) {m:DataW H→Nat}(hm:Meas m) {d:DataW H}{ps:List MemPlace}
    (h:DataW.Trod enc P W 0 (fun _=>true) true T v d ps):∃ a,t.vrel (zay W) v a∧wt a≤m d∧G a:=by
  obtain ⟨fuel,hf⟩:=h
  obtain ⟨a,h1,h2,h3⟩:=r.open_ enc m hm W fuel _ _ hf
  exact ⟨a,⟨h1,r.shape W base v hv⟩,h2,h3⟩
theorem zgC {W W':World}(h:Ext W za.none W') (may:MemPlace→Prop):W.keptBut W' may:=by
 refine ⟨h.os,h.output,fun i hi=>?_⟩
 rw [h.old_eq hi]
 split <;> simp_all
theorem zjW {W W':World}(h:Ext W za.none W'):Below W.heap.size W W':=⟨h.os,h.tape,h.output,h.size,fun b hb=>h.old_eq hb⟩
theorem zbF {H:Type}{enc:TypeId×Value→H}{P:Program}(hl:laidOutB P=true) {W W':World}(hx:Ext W za.none W') {sp:Nat→Bool}:∀ {ts:List TypeId}{vs:List Value}{ds:List (DataW H)}{ps:List MemPlace},
    (∀ t∈ts,P.readableRec t=true∧t < P.types.size)→DataW.TrodAll enc P W 0 (fun _=>true) true ts vs ds ps→(∀ x∈ps,x.block < W.heap.size)→(∀ x∈ps,sp x.block=true)→DataW.TrodAll enc P W' 0 sp true ts vs ds ps
  |[],[],[],_,_,h,_,_=>h
  |t::ts,v::vs,d::ds,_,ht,⟨p,q,h1,h2,e⟩,hlt,hs=>by
    subst e
    exact ⟨p,q,WideElems.Trod_stays hl (ht t (by simp)).1 (ht t (by simp)).2 h1 (fun x hx'=>(zjW hx).same (hlt x (List.mem_append_left _ hx'))) (fun x hx'=>hs x (List.mem_append_left _ hx')),
      zbF hl hx (fun t' h'=>ht t' (by simp [h'])) h2 (fun x hx'=>hlt x (List.mem_append_right _ hx')) (fun x hx'=>hs x (List.mem_append_right _ hx')),rfl⟩
end Go.Px
namespace Go.Px
open Go.ChangeShapes Go.WideShapes Go.ChangeAt Go.RowKit
set_option linter.unusedVariables false
theorem zik {H:Type}{enc:TypeId×Value→H}{P:Program}{f:Func}{s:ChangeSpec}{apart fresh handsOn again:Bool}{W W':World}{args:Array Value}{v:Value}{ds gs:List (DataW H)}{before:List MemPlace}
    (hW:DataW.Whole enc P f.params.toList s.vars apart W args.toList ds gs before) (hres:∀ (b:Nat) (sp:Nat→Bool) (hd:Bool),DataW.TrodAll enc P W' b sp hd f.resultTypes.toList (v.resultList f.resultTypes.size) (s.fn H (ds++gs)).results [])
    (hargs:∀ sp:Nat→Bool,(∀ p∈before,sp p.block=true)→DataW.TrodAll enc P W' 0 sp true f.params.toList args.toList (s.fn H (ds++gs)).args before) (hvars:∀ sp:Nat→Bool,DataW.TrodVars enc P W' sp s.vars (s.fn H (ds++gs)).vars [])
    (hk:W.keptBut W' (·∈before)) (hfz:∀ a:Addr,a.block < W.heap.size→W'.frozen? a=W.frozen? a)
    (hok:∀ (j:Nat) (t:TypeId) (r:Value),f.resultTypes[j]?=some t→(v.resultList f.resultTypes.size)[j]?=some r→Value.okWide P W' .any 0 t r):s.post enc P f apart fresh handsOn again W args v W':=by
  have hlt:=hW.lt
  have hin:∀ p∈before,(fun b=>decide (b < W.heap.size)) p.block=true:=fun p hp=>decide_eq_true (hlt p hp)
  have hW2:=hW
  obtain ⟨_,_,_,_,_,hz,hn⟩:=hW2
  have hall:DataW.Whole enc P (f.resultTypes.toList++f.params.toList) s.vars apart W' (v.resultList f.resultTypes.size++args.toList) ((s.fn H (ds++gs)).results++(s.fn H (ds++gs)).args) (s.fn H (ds++gs)).vars before:=
    ⟨before,[],trodAll_append (hargs (fun _=>true) fun _ _=>rfl) (hres 0 (fun _=>true) true),hvars _,(List.append_nil before).symm,fun b off hp=>(hfz _ (hlt _ hp)).trans (hz b off hp),fun ha=>hn ha⟩
  exact ⟨ds,gs,before,[],before,[],hW,hres _ _ _,hargs _ hin,hvars _,World.keptBut_mono (fun p hp=>⟨hp,.inr (.inl hp)⟩) hk,fun _=>⟨hok,_,_,before,hall,fun p hp _=>hp⟩⟩
end Go.Px
