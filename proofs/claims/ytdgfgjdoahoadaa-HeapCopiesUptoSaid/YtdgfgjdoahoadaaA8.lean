/- Part A8: PxC8 PxM32 PxMT. -/
import Derived.Test.YtdgfgjdoahoadaaA2
import Derived.ProofKit
import Derived.OpenShut
import Derived.JoinedCond
import Derived.Carry
import Derived.Deep.Slices
import Derived.Test.YtdgfgjdoahoadaaA6
namespace Go.Px
open Go.ChangeShapes Go.WideShapes Go.ChangeAt Go.RowKit
set_option linter.unusedVariables false
def Zv (w:World):FS:=fun b o=>w.cell? ⟨b,o,none⟩
structure Meas {H:Type}(m:DataW H→Nat):Prop where
 one:∀ d,1≤m d
 str:∀ b:List UInt8,b.length+1≤m (.lit (.string b))
 slice:∀ es sp,(es.map m).sum+1≤m (.slice es sp)
 agg:∀ ps,(ps.map m).sum+1≤m (.agg ps)
 ptr:∀ d,m d+1≤m (.ptr d)
structure Rd (P:Program) (T:TypeId) {α:Type}(t:Ty α) (wt:α→Nat) (G:α→Prop):Prop where
 open_:∀ {H:Type} (enc:TypeId×Value→H) (m:DataW H→Nat),Meas m→∀ (W:World) fuel cs x,DataW.trod enc P W 0 (fun _=>true) true fuel T cs=some x→∃ a,t.rel (Zv W) cs a∧wt a≤m x.1∧G a
 shape:∀ (W:World) (base:Nat) (v:Value),Value.okWide P W .any base T v→YM v=t.agg
 size:P.cellsOf T=t.size
theorem Yw {P:Program}{T:TypeId}{k:IntKind}(hu:P.underlying T=some (.int k)) (hc:P.cellsOf T=1):Rd P T (ZJ k) (fun _=>1) (fun n=>k.min≤n∧n≤k.max) where
  open_:=by
    intro H enc m hm W fuel cs x h
    cases fuel with
    |zero=>simp [DataW.trod] at h
    |succ fuel=>
      unfold DataW.trod at h
      simp only [hu] at h
      split at h <;> try (simp_all;done)
      all_goals (try (rename_i heq;cases heq))
      all_goals first
        |(split at h
          · rename_i hk
            obtain ⟨rfl,hw⟩:=hk
            cases h
            exact ⟨_,rfl,hm.one _,by simpa [Lit.wf] using hw⟩
          · cases h)
        |simp_all
  shape W base v h:=by obtain ⟨n,rfl⟩:=okWide_int hu h;rfl
  size:=hc
theorem zcs {P:Program}{T:TypeId}(hu:P.underlying T=some .bool) (hc:P.cellsOf T=1):Rd P T XO (fun _=>1) (fun _=>True) where
 open_:=by
  intro H enc m hm W fuel cs x h
  cases fuel with
  |zero=>simp [DataW.trod] at h
  |succ fuel=>
   unfold DataW.trod at h
   simp only [hu] at h
   split at h <;> try (simp_all;done)
   all_goals (try (rename_i heq;cases heq))
   all_goals first
    |(cases h;exact ⟨_,rfl,hm.one _,trivial⟩)
    |simp_all
 shape W base v h:=by obtain ⟨n,rfl⟩:=okWide_bool hu h;rfl
 size:=hc
theorem zio (W:World) (a:Addr):(Zv W).cell a=W.cell? a:=by
 obtain ⟨b,o,sp⟩:=a
 unfold FS.cell Zv
 cases sp with
 |none=>simp
 |some x=>simp [World.cell?];cases W.heap[b]? with
  |none=>rfl
  |some y=>cases y <;> simp
theorem zjy (W:World):(Zv W).sub W:=fun b o v h=>h
theorem cells?_snap {W:World}{a:Addr}{n:Nat}{cs:List Value}(h:W.cells? 0 a n=some cs):cs.length=n∧∀ (j:Nat) (u:Value),cs[j]?=some u→(Zv W).cell (a.add j)=some u:=by
 obtain ⟨_,hl,hc⟩:=World.cells?_some h
 refine ⟨hl,fun j u hj=>?_⟩
 have hlt:=(List.getElem?_eq_some_iff.1 hj).1
 rw [zio,hc j (by omega),hj]
theorem zax {α:Type}{T:Ty α}{σ:FS}:∀ (n:Nat) (f:Nat→List Value) (g:Nat→α),(∀ i,i < n→T.rel σ (f i) (g i))→T.rels σ ((List.range n).map f).flatten ((List.range n).map g)
 |0,_,_,_=>rfl
 |n+1,f,g,h=>by
  rw [List.range_succ,List.map_append,List.map_append,List.flatten_append]
  exact Ty.rels_append (zax n f g fun i hi=>h i (by omega)) (by simpa using Ty.rels_one_mk (h n (by omega)))
theorem zer {n s:Nat}{f:Nat→List Value}:∀ (m:Nat),(∀ i,i < m→(f i).length=s)→∀ (j:Nat) (u:Value),(((List.range m).map f).flatten)[j]?=some u→∃ i k,i < m∧k < s∧j=i * s+k∧(f i)[k]?=some u
 |0,_,j,u,h=>by simp at h
 |m+1,hl,j,u,h=>by
  rw [List.range_succ,List.map_append,List.flatten_append] at h
  have hlen:(((List.range m).map f).flatten).length=m * s:=by
   clear h
   induction m with
   |zero=>simp
   |succ m ih=>
    rw [List.range_succ,List.map_append,List.flatten_append,List.length_append,ih (fun i hi=>hl i (by omega))]
    simp [hl m (by omega),Nat.add_mul]
  by_cases hj:j < m * s
  ·rw [List.getElem?_append_left (by omega)] at h
   obtain ⟨i,k,h1,h2⟩:=zer (n:=n) m (fun i hi=>hl i (by omega)) j u h
   exact ⟨i,k,by omega,h2⟩
  ·rw [List.getElem?_append_right (by omega),hlen] at h
   simp at h
   refine ⟨m,j - m * s,by omega,?_,by omega,h⟩
   have:=(List.getElem?_eq_some_iff.1 h).1
   rw [hl m (by omega)] at this;exact this
theorem zip {H:Type}(m:DataW H→Nat) {α:Type}(wt:α→Nat):∀ (n:Nat) (D:Nat→DataW H) (g:Nat→α),(∀ i,i < n→wt (g i)≤m (D i))→(((List.range n).map g).map wt).sum≤(((List.range n).map D).map m).sum
 |0,_,_,_=>by simp
 |n+1,D,g,h=>by
  rw [List.range_succ]
  simp only [List.map_append,List.sum_append,List.map_cons,List.map_nil,List.sum_cons,List.sum_nil]
  have h1:=zip m wt n D g fun i hi=>h i (by omega)
  have h2:=h n (by omega)
  omega
theorem vd {P:Program}{T e:TypeId}{α:Type}{t:Ty α}{wt:α→Nat}{G:α→Prop}(hu:P.underlying T=some (.slice e)) (hc:P.cellsOf T=1) (re:Rd P e t wt G) :
    Rd P T (tSl t) (fun s=>(s.xs.map wt).sum+1) (fun s=>(s.nn=false→s.xs=[])∧s.xs.length≤maxLen∧∀ a∈s.xs,G a) where
  open_:=by
    intro H enc m hm W fuel cs x h
    rcases Deep.open_slice hu h with ⟨rfl,rfl⟩ | ⟨a,len,cap,mm,n,D,Pl,rfl,_,hlc,hcm,hmm,rfl,hel⟩
    · exact ⟨⟨[],false⟩,⟨none,0,0,rfl,rfl,rfl,Nat.le_refl _,Nat.zero_le _,fun _=>⟨rfl,rfl⟩,[],rfl,fun j u h=>by simp at h⟩,by simpa using hm.one _,by simp,by simp [maxLen],by simp⟩
    · have hlm:len≤mm:=by rw [hmm];split <;> omega
      have hex:∀ i,i < len→∃ cs' q,W.cells? 0 (a.add (i * P.cellsOf e)) (P.cellsOf e)=some cs'∧t.rel (Zv W) cs' q∧wt q≤m (D i)∧G q:=by
        intro i hi
        obtain ⟨cs',h1,h2⟩:=hel i (by omega)
        obtain ⟨q,h3,h4,h5⟩:=re.open_ enc m hm W n cs' _ h2
        exact ⟨cs',q,h1,h3,h4,h5⟩
      by_cases h0:len=0
      · subst h0
        refine ⟨⟨[],true⟩,⟨some a,0,cap,rfl,rfl,rfl,by omega,hcm,(fun h=>by cases h),[],rfl,fun j u h=>by simp at h⟩,by simpa using hm.one _,by simp,by simp [maxLen],by simp⟩
      · obtain ⟨cs0,q0,_⟩:=hex 0 (by omega)
        classical
        let f:Nat→List Value:=fun i=>if hi:i < len then (hex i hi).choose else cs0
        let g:Nat→α:=fun i=>if hi:i < len then (hex i hi).choose_spec.choose else q0
        have hfg:∀ i,i < len→W.cells? 0 (a.add (i * P.cellsOf e)) (P.cellsOf e)=some (f i)∧t.rel (Zv W) (f i) (g i)∧wt (g i)≤m (D i)∧G (g i):=by
          intro i hi
          have:=(hex i hi).choose_spec.choose_spec
          simpa [f,g,hi] using this
        refine ⟨⟨(List.range len).map g,true⟩,⟨some a,len,cap,rfl,by simp,rfl,hlc,hcm,(fun h=>by cases h),((List.range len).map f).flatten,zax len f g fun i hi=>(hfg i hi).2.1,?_⟩,?_,by simp,by simp;omega,?_⟩
        · intro j u hj
          refine ⟨a,rfl,?_⟩
          obtain ⟨i,k,h1,h2,h3,h4⟩:=zer (n:=0) len (fun i hi=>t.len (hfg i hi).2.1) j u hj
          have:=(cells?_snap (hfg i h1).1).2 k u h4
          rw [Addr.add_add,re.size] at this
          rw [h3];exact this
        · have h1:=zip m wt len D g fun i hi=>(hfg i hi).2.2.1
          have h2:=hm.slice ((List.range len).map D) ((List.range (mm - len)).map fun j=>D (len+j))
          exact Nat.le_trans (Nat.succ_le_succ h1) h2
        · intro q hq
          obtain ⟨i,hi,rfl⟩:=List.mem_map.1 hq
          exact (hfg i (List.mem_range.1 hi)).2.2.2
  shape W base v h:=by obtain ⟨a,b,c,rfl⟩:=okWide_slice hu h;rfl
  size:=hc
theorem xR {P:Program}{T:TypeId}{fs:Array Field}(hu:P.underlying T=some (.struct fs)) (W:World) (base:Nat) (v:Value) (h:Value.okWide P W .any base T v):YM v=true:=by
 unfold Value.okWide at h;rw [hu] at h;obtain ⟨cs,rfl,_⟩:=h;rfl
theorem Zr {α β:Type}{A:Ty α}{B:Ty β}{σ:FS}{cs:List Value}{o s:Nat}{x:α}{y:β}(hx:A.rel σ ((cs.drop o).take A.size) x) (hy:B.rel σ ((cs.drop (o+A.size)).take B.size) y) (hs:s=A.size+B.size) :
    (Zm A B).rel σ ((cs.drop o).take s) (x,y):=by
  subst hs
  exact ⟨_,_,by rw [List.take_add,List.drop_drop],hx,hy⟩
theorem Xs {H:Type}{enc:TypeId×Value→H}{P:Program}{W:World}{fuel:Nat}{T:TypeId}{fs:Array Field}{cs:List Value}{x:DataW H×List MemPlace}(hu:P.underlying T=some (.struct fs))
    (h:DataW.trod enc P W 0 (fun _=>true) true fuel T cs=some x) :
    cs.length=P.cellsOf T∧∃ (n:Nat) (xs:List (DataW H×List MemPlace)),x.1 = .agg (xs.map (·.1))∧xs.length=fs.toList.length∧
      ∀ (i:Nat) (f:Field),fs.toList[i]?=some f→∃ y,xs[i]?=some y∧DataW.trod enc P W 0 (fun _=>true) true n f.type ((cs.drop f.offset).take (P.cellsOf f.type))=some y:=by
  cases fuel with
  |zero=>simp [DataW.trod] at h
  |succ n=>
    unfold DataW.trod at h
    simp only [hu] at h
    have hmap:∀ (l:List Field) (ys:List (DataW H×List MemPlace)),(l.mapM fun f=>DataW.trod enc P W 0 (fun _=>true) true n f.type ((cs.drop f.offset).take (P.cellsOf f.type)))=some ys→
        ys.length=l.length∧∀ (i:Nat) (f:Field),l[i]?=some f→∃ y,ys[i]?=some y∧DataW.trod enc P W 0 (fun _=>true) true n f.type ((cs.drop f.offset).take (P.cellsOf f.type))=some y:=by
      intro l
      induction l with
      |nil=>intro ys h;simp at h;subst h;simp
      |cons f l ih=>
        intro ys h
        rw [List.mapM_cons] at h
        cases h1:DataW.trod enc P W 0 (fun _=>true) true n f.type ((cs.drop f.offset).take (P.cellsOf f.type)) with
        |none=>rw [h1] at h;cases h
        |some y=>
          rw [h1] at h
          cases h2:(l.mapM fun f=>DataW.trod enc P W 0 (fun _=>true) true n f.type ((cs.drop f.offset).take (P.cellsOf f.type))) with
          |none=>rw [h2] at h;cases h
          |some zs=>
            rw [h2] at h
            cases h
            obtain ⟨k1,k2⟩:=ih zs h2
            refine ⟨by simp [k1],fun i f' hi=>?_⟩
            cases i with
            |zero=>simp at hi;subst hi;exact ⟨y,rfl,h1⟩
            |succ i=>simpa using k2 i f' (by simpa using hi)
    split at h
    · rename_i hl
      cases h2:(fs.toList.mapM fun f=>DataW.trod enc P W 0 (fun _=>true) true n f.type ((cs.drop f.offset).take (P.cellsOf f.type))) with
      |none=>rw [h2] at h;cases h
      |some xs=>
        rw [h2] at h
        cases h
        obtain ⟨k1,k2⟩:=hmap _ _ h2
        exact ⟨hl,n,xs,rfl,k1,k2⟩
    · cases h
theorem Wx {P:Program}{W:World}{base:Nat}{T:TypeId}{α:Type}{t:Ty α}{wt:α→Nat}{G:α→Prop}(r:Rd P T t wt G) {v:Value}(hv:Value.okWide P W .any base T v) {H:Type}(enc:TypeId×Value→H) {m:DataW H→Nat}(hm:Meas m) {d:DataW H}{ps:List MemPlace}
    (h:DataW.Trod enc P W 0 (fun _=>true) true T v d ps):∃ a,t.vrel (Zv W) v a∧wt a≤m d∧G a:=by
  obtain ⟨fuel,hf⟩:=h
  obtain ⟨a,h1,h2,h3⟩:=r.open_ enc m hm W fuel _ _ hf
  exact ⟨a,⟨h1,r.shape W base v hv⟩,h2,h3⟩
theorem zfi {W W':World}(h:Ext W zb.none W') (may:MemPlace→Prop):W.keptBut W' may:=by
 refine ⟨h.os,h.output,fun i hi=>?_⟩
 rw [h.old_eq hi]
 split <;> simp_all
theorem ziq {W W':World}(h:Ext W zb.none W'):Below W.heap.size W W':=⟨h.os,h.tape,h.output,h.size,fun b hb=>h.old_eq hb⟩
theorem zay {H:Type}{enc:TypeId×Value→H}{P:Program}(hl:laidOutB P=true) {W W':World}(hx:Ext W zb.none W') {sp:Nat→Bool}:∀ {ts:List TypeId}{vs:List Value}{ds:List (DataW H)}{ps:List MemPlace},
    (∀ t∈ts,P.readableRec t=true∧t < P.types.size)→DataW.TrodAll enc P W 0 (fun _=>true) true ts vs ds ps→(∀ x∈ps,x.block < W.heap.size)→(∀ x∈ps,sp x.block=true)→DataW.TrodAll enc P W' 0 sp true ts vs ds ps
  |[],[],[],_,_,h,_,_=>h
  |t::ts,v::vs,d::ds,_,ht,⟨p,q,h1,h2,e⟩,hlt,hs=>by
    subst e
    exact ⟨p,q,WideElems.Trod_stays hl (ht t (by simp)).1 (ht t (by simp)).2 h1 (fun x hx'=>(ziq hx).same (hlt x (List.mem_append_left _ hx'))) (fun x hx'=>hs x (List.mem_append_left _ hx')),
      zay hl hx (fun t' h'=>ht t' (by simp [h'])) h2 (fun x hx'=>hlt x (List.mem_append_right _ hx')) (fun x hx'=>hs x (List.mem_append_right _ hx')),rfl⟩
end Go.Px
namespace Go.Px
open Go.ChangeShapes Go.WideShapes Go.ChangeAt Go.RowKit
set_option linter.unusedVariables false
theorem zgX {H:Type}{enc:TypeId×Value→H}{P:Program}{f:Func}{s:ChangeSpec}{apart fresh handsOn again:Bool}{W W':World}{args:Array Value}{v:Value}{ds gs:List (DataW H)}{before:List MemPlace}
    (hW:DataW.Whole enc P f.params.toList s.vars apart W args.toList ds gs before) (hres:∀ (b:Nat) (sp:Nat→Bool) (hd:Bool),DataW.TrodAll enc P W' b sp hd f.resultTypes.toList (v.resultList f.resultTypes.size) (s.fn H (ds++gs)).results [])
    (hargs:∀ sp:Nat→Bool,(∀ p∈before,sp p.block=true)→DataW.TrodAll enc P W' 0 sp true f.params.toList args.toList (s.fn H (ds++gs)).args before) (hvars:∀ sp:Nat→Bool,DataW.TrodVars enc P W' sp s.vars (s.fn H (ds++gs)).vars [])
    (hk:W.keptBut W' (·∈before)) (hfz:∀ a:Addr,a.block < W.heap.size→W'.frozen? a=W.frozen? a)
    (hok:∀ (j:Nat) (t:TypeId) (r:Value),f.resultTypes[j]?=some t→(v.resultList f.resultTypes.size)[j]?=some r→Value.okWide P W' .any 0 t r):s.post enc P f apart fresh handsOn again W args v W':=by
  have hlt:=hW.lt
  have hin:∀ p∈before,(fun b=>decide (b < W.heap.size)) p.block=true:=fun p hp=>decide_eq_true (hlt p hp)
  have hW2:=hW
  obtain ⟨_,_,_,_,_,hz,hn⟩:=hW2
  have hall:DataW.Whole enc P (f.resultTypes.toList++f.params.toList) s.vars apart W' (v.resultList f.resultTypes.size++args.toList) ((s.fn H (ds++gs)).results++(s.fn H (ds++gs)).args) (s.fn H (ds++gs)).vars before:=
    ⟨before,[],trodAll_append (hargs (fun _=>true) fun _ _=>rfl) (hres 0 (fun _=>true) true),hvars _,(List.append_nil before).symm,fun b off hp=>(hfz _ (hlt _ hp)).trans (hz b off hp),fun ha=>hn ha⟩
  exact ⟨ds,gs,before,[],before,[],hW,hres _ _ _,hargs _ hin,hvars _,World.keptBut_mono (fun p hp=>⟨hp,.inr (.inl hp)⟩) hk,fun _=>⟨hok,_,_,before,hall,fun p hp _=>hp⟩⟩
end Go.Px
namespace Go.Px
section
variable {C:Cod}
structure TR (C:Cod) {α:Type}(t:Ty α) (e:α→List (AV C.D)):Prop where
 len:∀ x,(e x).length=t.size
 rv:∀ {σ:FS} {cs:List Value} {x:α},t.rel σ cs x→∀ (j:Nat) (A:AV C.D),(e x)[j]?=some A→∃ v,cs[j]?=some v∧Rv C σ v A
theorem Yx {k:IntKind}:TR C (ZJ k) (fun n=>[.int k n]) where
 len _:=rfl
 rv {σ cs x} h j A hj:=by
  obtain rfl:cs=[.int k x]:=h
  match j,hj with
  |0,hj=>obtain rfl:=(Option.some.inj hj).symm;exact ⟨_,rfl,.int⟩
theorem zct:TR C XO (fun b=>[.bool b]) where
 len _:=rfl
 rv {σ cs x} h j A hj:=by
  obtain rfl:cs=[.bool x]:=h
  match j,hj with
  |0,hj=>obtain rfl:=(Option.some.inj hj).symm;exact ⟨_,rfl,.bool⟩
theorem Zs {α β:Type}{A:Ty α}{B:Ty β}{e:α→List (AV C.D)}{f:β→List (AV C.D)}(hA:TR C A e) (hB:TR C B f):TR C (Zm A B) (fun p=>e p.1++f p.2) where
 len x:=by rw [List.length_append,hA.len,hB.len];rfl
 rv {σ cs x} h j V hj:=by
  obtain ⟨c,d,rfl,h1,h2⟩:=h
  have hc:=A.len h1
  have he:=hA.len x.1
  by_cases hlt:j < A.size
  ·rw [List.getElem?_append_left (by omega)] at hj
   obtain ⟨v,e1,e2⟩:=hA.rv h1 j V hj
   exact ⟨v,by rw [List.getElem?_append_left (by omega)];exact e1,e2⟩
  ·rw [List.getElem?_append_right (by omega),he] at hj
   obtain ⟨v,e1,e2⟩:=hB.rv h2 _ V hj
   exact ⟨v,by rw [List.getElem?_append_right (by omega),hc];exact e1,e2⟩
theorem ve {α β:Type}{A:Ty α}{e:α→List (AV C.D)}(g:β→α) (hA:TR C A e):TR C (A.comap g) (fun x=>e (g x)) where
 len x:=hA.len (g x)
 rv h:=hA.rv h
theorem TR.of {α:Type}{A:Ty α}{e f:α→List (AV C.D)}(hA:TR C A e) (h:∀ x,f x=e x):TR C A f where
 len x:=by rw [h];exact hA.len x
 rv {σ cs x} k j V hj:=by rw [h] at hj;exact hA.rv k j V hj
theorem zdx {T:Nat}{t:Ty (C.D T)}(hs:C.size T=t.size) (h:TR C t (C.emb T)):TR C (tSl t) (fun s=>[.sl T s false]) where
 len _:=rfl
 rv {σ cs s} k j A hj:=by
  match j,hj with
  |0,hj=>
   obtain rfl:=(Option.some.inj hj).symm
   obtain ⟨a,n,c,rfl,h1,h2,h3,h4,h5,cells,h6,h7⟩:=k
   have key:∀ (i:Nat) x (j:Nat) A,s.xs[i]?=some x→(C.emb T x)[j]?=some A→∃ v,cells[i * C.size T+j]?=some v∧Rv C σ v A:=by
    intro i x j A hi hj
    obtain ⟨v,e1,e2⟩:=h.rv (t.rels_get i h6 hi) j A hj
    have hjl:j < t.size:=by
     have:=(List.getElem?_eq_some_iff.1 hj).1
     rw [h.len] at this
     exact this
    rw [List.getElem?_take_of_lt hjl,List.getElem?_drop] at e1
    exact ⟨v,by rw [hs];exact e1,e2⟩
   refine ⟨_,rfl,.sl (fun i j=>(cells[i * C.size T+j]?).getD default) h1 h2 h3 h4 h5 (fun h=>by cases h) (fun i x j A hi hj=>?_) (fun i x j A hi hj=>?_)⟩
   ·obtain ⟨v,e1,e2⟩:=key i x j A hi hj
    obtain ⟨ad,e3,e4⟩:=h7 _ _ e1
    exact ⟨ad,e3,by simp only [e1,Option.getD_some];exact e4⟩
   ·obtain ⟨v,e1,e2⟩:=key i x j A hi hj
    simp only [e1,Option.getD_some]
    exact e2
theorem TR.slv {T:Nat}{t:Ty (C.D T)}(h:TR C (tSl t) (fun s=>[.sl T s false])) {σ:FS}{v:Value}{s:Sl (C.D T)}(k:(tSl t).vrel σ v s):Rv C σ v (.sl T s false):=by
 obtain ⟨a,n,c,rfl,h2⟩:=ZU.1 k
 obtain ⟨v,e1,e2⟩:=h.rv (σ:=σ) (cs:=[.slice a n c]) (x:=s) ⟨a,n,c,rfl,h2⟩ 0 _ rfl
 cases e1
 exact e2
end
end Go.Px
