/- Part A8. -/
import Derived.Test.YthnflpoohleiaaaGreatDoorA6
import Derived.ProofKit
import Derived.OpenShut
import Derived.JoinedCond
import Derived.Carry
import Derived.Deep.Slices
set_option linter.unusedVariables false
set_option linter.unusedSimpArgs false
open Bool renaming true->y,false->B
open Go.DataW renaming trod->E,TrodAll->I,Whole->O
open List renaming range->z,range_succ->F,flatten_append->K,mem_append_right->N
open Option renaming some->l,some->L,getD_some->M
namespace Go.Px
open Go.ChangeShapes Go.WideShapes Go.ChangeAt Go.RowKit
def vP(w:World):FS:=λb o=>w.cell? ⟨b,o,none⟩
structure Meas{H:Type}(m:DataW H->Nat):Prop where
 one:∀d,1<=m d
 str:∀b:List UInt8,b.length+1<=m (.lit (.string b))
 slice:∀es sp,(es.map m).sum+1<=m (.slice es sp)
 agg:∀ps,(ps.map m).sum+1<=m (.agg ps)
 ptr:∀d,m d+1<=m (.ptr d)
structure Rd(P:Program)(T:TypeId){α:Type}(t:Ty α)(wt:α->Nat)(G:α->Prop):Prop where
 open_:∀{H:Type} (enc:TypeId×Value->H) (m:DataW H->Nat),Meas m->∀(W:World) fuel cs x,E enc P W 0 (λ_=>y) y fuel T cs=l x->∃a,t.rel (vP W) cs a/\wt a<=m x.1/\G a
 shape:∀(W:World) (base:Nat) (v:Value),Value.okWide P W .any base T v->zc5 v=t.agg
 size:P.cellsOf T=t.size
theorem zwJ{P:Program}{T:TypeId}(hu:P.underlying T=l .bool)(hc:P.cellsOf T=1):Rd P T znO (λ_=>1) (λ_=>True) where
 open_:=by
  intro H enc m hm W fuel cs x h;cases fuel with
  |zero=>simp[E] at h
  |succ fuel=>
   unfold E at h;simp only[hu] at h;split at h<;>try (simp_all;done)
   all_goals (try (rename_i heq;cases heq))
   all_goals first
    |(cases h;exact⟨_,rfl,hm.one _,trivial⟩)
    |simp_all
 shape W base v h:=by obtain⟨n,rfl⟩:=okWide_bool hu h;rfl
 size:=hc
theorem ziA{P:Program}{T:TypeId}(hu:P.underlying T=l .string)(hc:P.cellsOf T=1):Rd P T znP (λs=>s.size+1) (λs=>s.size<=maxLen) where
 open_:=by
  intro H enc m hm W fuel cs x h;cases fuel with
  |zero=>simp[E] at h
  |succ fuel=>
   unfold E at h;simp only[hu] at h;split at h<;>try (simp_all;done)
   all_goals (try (rename_i heq;cases heq))
   all_goals first
    |(split at h
      ·rename_i hk;cases h;exact⟨_,rfl,UF (Nat.le_of_eq (by rw[Array.length_toList];rfl)) (hm.str _),hk⟩
      ·cases h)
    |simp_all
 shape W base v h:=by obtain⟨n,rfl⟩:=okWide_string hu h;rfl
 size:=hc
theorem zrk(W:World)(a:Addr):(vP W).cell a=W.cell? a:=by
 let⟨b,o,c⟩:=a;unfold FS.cell vP;cases c with
 |none=>simp
 |some x=>simp[World.cell?];grind
theorem zsS(W:World):(vP W).sub W:=λb o v h=>h
theorem cells?_snap{W:World}{a:Addr}{n:Nat}{cs:List Value}(h:W.cells? 0 a n=l cs):cs.length=n/\∀(j:Nat) (u:Value),cs[j]?=l u->(vP W).cell (a.add j)=l u:=by
 let⟨_,d,e⟩:=World.cells?_some h;refine⟨d,λj u b=>?_⟩;have c:=(U5.1 b).1;rw[zrk,e j Zd,b]
theorem zfc{α:Type}{T:Ty α}{Z:FS}:∀(n:Nat) (f:Nat->List Value) (g:Nat->α),(∀i,i < n->T.rel Z (f i) (g i))->T.rels Z ((z n).map f).flatten ((z n).map g)
 |0,_,_,_=>rfl
 |n+1,f,g,h=>by
  rw[F,D2,D2,K];exact Ty.rels_append (zfc n f g λi hi=>h i Zd) (by simpa using Ty.rels_one_mk (h n Zd))
theorem zkM{n s:Nat}{f:Nat->List Value}:∀(m:Nat),(∀i,i < m->(f i).length=s)->∀(j:Nat) (u:Value),(((z m).map f).flatten)[j]?=l u->∃i k,i < m/\k < s/\j=i * s+k/\(f i)[k]?=l u
 |0,_,j,u,h=>by simp at h
 |m+1,b,j,u,h=>by
  rw[F,D2,K] at h;have a:(((z m).map f).flatten).length=m * s:=by
   clear h
   induction m with
   |zero=>simp
   |succ m c=>
    rw[F,D2,K,jy,c (λi hi=>b i Zd)];grind
  by_cases d:j < m * s
  ·rw[UX Zd] at h;let⟨i,k,h1,h2⟩:=zkM (n:=n) m (λi hi=>b i Zd) j u h;grind
  ·rw[UW Zd,a] at h;grind
theorem zrl{H:Type}(m:DataW H->Nat){α:Type}(wt:α->Nat):∀(n:Nat) (D:Nat->DataW H) (g:Nat->α),(∀i,i < n->wt (g i)<=m (D i))->(((z n).map g).map wt).sum<=(((z n).map D).map m).sum
 |0,_,_,_=>je
 |n+1,D,g,h=>by
  rw[F];simp only[D2,List.sum_append,U8,List.map_nil,List.sum_cons,List.sum_nil];have h1:=zrl m wt n D g λi hi=>h i Zd
  grind
theorem zsT {P:Program}{T e:TypeId}{α:Type}{t:Ty α}{wt:α->Nat}{G:α->Prop}(hu:P.underlying T=l (.slice e)) (hc:P.cellsOf T=1) (re:Rd P e t wt G) :
    Rd P T (tSl t) (λs=>(s.xs.map wt).sum+1) (λs=>(s.nn=B->s.xs=[])/\s.xs.length<=maxLen/\∀a∈s.xs,G a) where
 open_:=by
  intro H enc m hm W fuel cs x h;rcases Deep.open_slice hu h with⟨rfl,rfl⟩ | ⟨a,len,cap,mm,n,D,Pl,rfl,_,hlc,hcm,hmm,rfl,hel⟩
  ·exact⟨⟨[],B⟩,⟨none,0,0,rfl,rfl,rfl,UD _,UE _,λ_=>⟨rfl,rfl⟩,[],rfl,λj u h=>by simp at h⟩,by simpa using hm.one _,by simp,by simp[maxLen],by simp⟩
  · have hlm:len<=mm:=by grind
    have hex:∀i,i < len->∃cs' q,W.cells? 0 (a.add (i * P.cellsOf e)) (P.cellsOf e)=l cs'/\t.rel (vP W) cs' q/\wt q<=m (D i)/\G q:=by
     intro i hi;let⟨cs',h1,h2⟩:=hel i (by omega);let⟨q,h3,h4,h5⟩:=re.open_ enc m hm W n cs' _ h2;grind
    by_cases h0:len=0
    ·subst h0;refine⟨⟨[],y⟩,⟨l a,0,cap,rfl,rfl,rfl,by omega,hcm,(λh=>by cases h),[],rfl,λj u h=>by simp at h⟩,by simpa using hm.one _,by simp,by simp[maxLen],by simp⟩
    · let⟨cs0,q0,_⟩:=hex 0 (by omega)
      classical
      let f:Nat->List Value:=λi=>if hi:i < len then(hex i hi).choose else cs0
      let g:Nat->α:=λi=>if hi:i < len then(hex i hi).choose_spec.choose else q0
      have hfg:∀i,i < len->W.cells? 0 (a.add (i * P.cellsOf e)) (P.cellsOf e)=l (f i)/\t.rel (vP W) (f i) (g i)/\wt (g i)<=m (D i)/\G (g i):=by
       grind
      refine⟨⟨(z len).map g,y⟩,⟨l a,len,cap,rfl,by simp,rfl,hlc,hcm,(λh=>by cases h),((z len).map f).flatten,zfc len f g λi hi=>(hfg i hi).2.1,?_⟩,?_,by simp,by simp;omega,?_⟩
      ·intro j u hj;refine⟨a,rfl,?_⟩;let⟨i,k,h1,h2,h3,h4⟩:=zkM (n:=0) len (λi hi=>t.len (hfg i hi).2.1) j u hj;have:=(cells?_snap (hfg i h1).1).2 k u h4;rw[Addr.add_add,re.size] at this;grind
      · have h1:=zrl m wt len D g λi hi=>(hfg i hi).2.2.1
        have h2:=hm.slice ((z len).map D) ((z (mm - len)).map λj=>D (len+j));grind
      grind
 shape W base v h:=by obtain⟨a,b,c,rfl⟩:=okWide_slice hu h;rfl
 size:=hc
theorem WU {P:Program}{W:World}{base:Nat}{T:TypeId}{α:Type}{t:Ty α}{wt:α->Nat}{G:α->Prop}(r:Rd P T t wt G) {v:Value}(g:Value.okWide P W .any base T v) {H:Type}(enc:TypeId×Value->H) {m:DataW H->Nat}(e:Meas m) {d:DataW H}{ps:List MemPlace}
    (h:DataW.Trod enc P W 0 (λ_=>y) y T v d ps):∃a,t.vrel (vP W) v a/\wt a<=m d/\G a:=by
 let⟨b,c⟩:=h;let⟨a,h1,h2,f⟩:=r.open_ enc m e W b _ _ c;exact⟨a,⟨h1,r.shape W base v g⟩,h2,f⟩
theorem zmK{W W':World}(h:Ext W zc.none W')(a:MemPlace->Prop):W.keptBut W' a:=by
 refine⟨h.os,h.output,λi hi=>?_⟩;rw[h.old_eq hi];grind
theorem zrm{W W':World}(h:Ext W zc.none W'):Below W.heap.size W W':=⟨h.os,h.tape,h.output,h.size,λb hb=>h.old_eq hb⟩
theorem zfd {H:Type}{enc:TypeId×Value->H}{P:Program}(f:laidOutB P=y) {W W':World}(b:Ext W zc.none W') {c:Nat->Bool}:∀{ts:List TypeId}{vs:List Value}{ds:List (DataW H)}{ps:List MemPlace},
    (∀t∈ts,P.readableRec t=y/\t < P.types.size)->I enc P W 0 (λ_=>y) y ts vs ds ps->(∀x∈ps,x.block < W.heap.size)->(∀x∈ps,c x.block=y)->I enc P W' 0 c y ts vs ds ps
 |[],[],[],_,_,h,_,_=>h
 |t::ts,v::vs,d::ds,_,ht,⟨p,q,h1,h2,e⟩,hlt,hs=>by
  subst e
  exact⟨p,q,WideElems.Trod_stays f (ht t je).1 (ht t je).2 h1 (λx a=>(zrm b).same (hlt x (D3 _ a))) (λx a=>hs x (D3 _ a)),
   zfd f b (λg i=>ht g (by simp[i])) h2 (λx a=>hlt x (N _ a)) (λx a=>hs x (N _ a)),rfl⟩
end Go.Px
namespace Go.Px
open Go.ChangeShapes Go.WideShapes Go.ChangeAt Go.RowKit
theorem zox {H:Type}{enc:TypeId×Value->H}{P:Program}{f:Func}{s:ChangeSpec}{d m e again:Bool}{W W':World}{args:Array Value}{v:Value}{ds k:List (DataW H)}{c:List MemPlace}
    (x:O enc P f.params.toList s.vars d W args.toList ds k c) (i:∀(b:Nat) (n:Nat->Bool) (hd:Bool),I enc P W' b n hd f.resultTypes.toList (v.resultList f.resultTypes.size) (s.fn H (ds++k)).results [])
    (h:∀n:Nat->Bool,(∀p∈c,n p.block=y)->I enc P W' 0 n y f.params.toList args.toList (s.fn H (ds++k)).args c) (g:∀n:Nat->Bool,DataW.TrodVars enc P W' n s.vars (s.fn H (ds++k)).vars [])
    (Q:W.keptBut W' (·∈c)) (u:∀a:Addr,a.block < W.heap.size->W'.frozen? a=W.frozen? a)
    (A:∀(j:Nat) (t:TypeId) (r:Value),f.resultTypes[j]?=l t->(v.resultList f.resultTypes.size)[j]?=l r->Value.okWide P W' .any 0 t r):s.post enc P f d m e again W args v W':=by
 have q:=x.lt;have w:∀p∈c,(λb=>decide (b < W.heap.size)) p.block=true:=λp hp=>gm (q p hp)
 have C:=x;let⟨_,_,_,_,_,D,R⟩:=C
 have o:O enc P (f.resultTypes.toList++f.params.toList) s.vars d W' (v.resultList f.resultTypes.size++args.toList) ((s.fn H (ds++k)).results++(s.fn H (ds++k)).args) (s.fn H (ds++k)).vars c:=
  ⟨c,[],trodAll_append (h (λ_=>y) λ_ _=>rfl) (i 0 (λ_=>y) y),g _,(List.append_nil c).symm,λb off hp=>(u _ (q _ hp)).trans (D b off hp),λG=>R G⟩
 exact⟨ds,k,c,[],c,[],x,i _ _ _,h _ w,g _,World.keptBut_mono (λp hp=>⟨hp,.inr (.inl hp)⟩) Q,λ_=>⟨A,_,_,c,o,λp hp _=>hp⟩⟩
end Go.Px
namespace Go.Px
section
variable {C:Cod}
structure TR(C:Cod){α:Type}(t:Ty α)(e:α->List (AV C.D)):Prop where
 len:∀x,(e x).length=t.size
 rv:∀{Z:FS} {cs:List Value} {x:α},t.rel Z cs x->∀(j:Nat) (A:AV C.D),(e x)[j]?=l A->∃v,cs[j]?=l v/\Rv C Z v A
theorem zwK:TR C znO (λb=>[.bool b]) where
 len _:=rfl
 rv {Z cs x} h j A a:=by
  obtain rfl:cs=[.bool x]:=h
  match j,a with
  |0,a=>obtain rfl:=(L.inj a).symm;exact⟨_,rfl,.bool⟩
theorem TR.of{α:Type}{A:Ty α}{e f:α->List (AV C.D)}(hA:TR C A e)(h:∀x,f x=e x):TR C A f where
 len x:=by rw[h];exact hA.len x
 rv {Z cs x} k j V hj:=by rw[h] at hj;exact hA.rv k j V hj
theorem zz6{T:Nat}{t:Ty (C.D T)}(hs:C.size T=t.size)(h:TR C t (C.emb T)):TR C (tSl t) (λs=>[.sl T s B]) where
 len _:=rfl
 rv {Z cs s} k j A b:=by
  match j,b with
  |0,b=>
   obtain rfl:=(L.inj b).symm;obtain⟨a,n,c,rfl,h1,h2,p,g,r,cells,o,u⟩:=k;have key:∀(i:Nat) x (j:Nat) A,s.xs[i]?=l x->(C.emb T x)[j]?=l A->∃v,cells[i * C.size T+j]?=l v/\Rv C Z v A:=by
    intro i x j A hi b;let⟨v,d,e⟩:=h.rv (t.rels_get i o hi) j A b;have f:j < t.size:=by
     have:=(U5.1 b).1;rw[h.len] at this;exact this
    rw[Da f,Db] at d;exact⟨v,by rw[hs];exact d,e⟩
   refine⟨_,rfl,.sl (λi j=>(cells[i * C.size T+j]?).getD default) h1 h2 p g r (λh=>by cases h) (λi x j A hi b=>?_) (λi x j A hi b=>?_)⟩
   ·let⟨v,d,e⟩:=key i x j A hi b;let⟨m,q,w⟩:=u _ _ d;exact⟨m,q,by simp only[d,M];exact w⟩
   ·let⟨v,d,e⟩:=key i x j A hi b;simp only[d,M];exact e
theorem TR.slv{T:Nat}{t:Ty (C.D T)}(h:TR C (tSl t) (λs=>[.sl T s B])){Z:FS}{v:Value}{s:Sl (C.D T)}(k:(tSl t).vrel Z v s):Rv C Z v (.sl T s B):=by
 obtain⟨a,n,c,rfl,h2⟩:=YF.1 k;let⟨v,b,d⟩:=h.rv (Z:=Z) (cs:=[.slice a n c]) (x:=s) ⟨a,n,c,rfl,h2⟩ 0 _ rfl;cases b;exact d
end
end Go.Px
