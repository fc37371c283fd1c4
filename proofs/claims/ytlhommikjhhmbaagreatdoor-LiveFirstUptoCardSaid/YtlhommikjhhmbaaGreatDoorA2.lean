/- Part A2. -/
import Derived.Test.YtlhommikjhhmbaaGreatDoorA1
import Derived.Laws.StructEq
import Derived.Laws.Pointers
set_option linter.unusedSectionVars false
set_option linter.unusedVariables false
set_option linter.unusedSimpArgs false
namespace Go.Px
open _root_.Array renaming toList_map->qU,range->qV,length_toList->qW,foldl_toList->qX
open Bool renaming true->F,false->I
open Go.Builtin renaming append_->M,lenOf->X,firstCells->Y
open Go.Instr renaming sliceAt->U,fill->V,slice->qH,sliceBounds->qQ,field->qR,buildSlice->qS,build->qT
open Go.Op renaming equalIn->S,equal->qy,eqFields->qA,stringOp->qI
open Go.Oper renaming wp->qb,upon_value->qc
open Go.World renaming frozen?->qs,alloc->qv
open List renaming replicate->N,take_take->W,drop_take->qk,drop_drop->qo,take_append_of_le_length->qC,take->qD,getElem?_take->qE,drop_left->qF,drop->qG,take_succ_cons->qL,size_toArray->qM,replicate_append_replicate->qN,flatten_append->qO,drop_append_of_le_length->qP
open Nat renaming blt->O,ble->qB,min_eq_right->qJ,beq->qK
open _root_.Option renaming some->D,none->E,map_none->qx
variable{A:List Priv}{a:U3 Addr}{cs:List Value}{e:TypeId}{fs:Array Field}{h:zc}{hi lo:U3 Operand}{m off:Nat}{r1 r2:ResultVar}{td:TypeDesc}{ti:TypeInfo}{tmps xs ys:Array Value}{u v1 v2 zv:Value}{α β γ:Type}{T:OTy α}{Tf:Ty γ}{q:α}{s s':Sl α}
section
theorem Dt:∀{α:Type _}{l:List α},qD l.length l=l:=@List.take_length
theorem Ds:∀{α:Type _}{l:List α},qG 0 l=l:=@List.drop_zero
theorem Dr:∀{α:Type _}{a:α}{l:List α}{d:α},(a::l).headD d=a:=@List.headD_cons
theorem Dq:∀{α : Type _} {i : Nat} {l : List α} (h : i < l.length),qG i l = l[i]::qG (i + 1) l:=@List.drop_eq_getElem_cons
theorem Dp:∀{α:Type _}(«as»:List α),[]++«as»=«as»:=@List.nil_append
theorem Do:(!F)=false:=@Bool.not_true
theorem Dn:∀{α:Type _}{i:Nat}{l:List α},l.length<=i->qD i l=l:=@List.take_of_length_le
theorem Dm:∀{a b:Nat},a<=b->min a b=a:=@Nat.min_eq_left
theorem Dl:∀{α:Type _}{i:Nat}{l:List α},(qD i l).length=min i l.length:=@List.length_take
theorem Dk:∀{n m:Nat}(k:Nat),n<=m->n * k<=m * k:=@Nat.mul_le_mul_right
variable [Dfr]
theorem OTy.rels_append{Z:FS}{g g2:zc}{ds:List Value}{xs ys:List α}(r:T.rels Z g cs xs)(s:T.rels Z g2 ds ys)(l:g.disj g2):T.rels Z (g.or g2) (cs++ds) (xs++ys):=by
 let⟨h1,hs,h2,h3,B⟩:=r;let⟨k1,ks,k2,k3,c⟩:=s;refine⟨jE,λi=>if i < xs.length then hs i else ks (i - xs.length),λi x f=>?_,λi j C=>?_,λi=>?_⟩
 ·by_cases hi:i < xs.length
  ·rw[De hi] at f;have R:(i+1) * T.size<=xs.length * T.size:=Dk _ hi;rw[US] at R;simp only[hi,jq];grind
  ·rw[Dd Zc] at f;simp only[hi,jp];have:=k2 _ x f;have K:i * T.size=cs.length+(i - xs.length) * T.size:=by rw[h1,<- US];congr 1;omega
   rw[K,<- qo,qF];exact this
 ·show zc.disj (if i < xs.length then hs i else ks (i - xs.length)) (if j < xs.length then hs j else ks (j - xs.length));split<;>split
  ·grind
  ·exact l.mono (B i) (c _)
  ·exact(l.mono (B j) (c _)).symm
  grind
 ·show zc.le (if i < xs.length then hs i else ks (i - xs.length)) _;split
  ·exact(B i).trans (zc.le_or _ _)
  ·exact(c _).trans (zc.le_or_right l)
theorem OTy.rels_take{Z:FS}{g:zc}{xs:List α}(m:Nat)(r:T.rels Z g cs xs):T.rels Z g (cs.take (m * T.size)) (xs.take m):=by
 let⟨h1,hs,h2,l,f⟩:=r
 refine⟨by rw[Dl,Dl,h1];rcases Nat.le_total m xs.length with h | h
           ·rw[Dm h,Dm (Dk _ h)]
           ·rw[qJ h,qJ (Dk _ h)],hs,λi x c=>?_,l,f⟩
 rw[qE] at c;split at c
 ·rename_i hi;have B:(i+1) * T.size<=m * T.size:=Dk _ hi;rw[US] at B;rw[qk,W,Dm Zc];grind
 ·cases c
theorem OTy.rels_replicate{Z:FS}{c:List Value}(h:T.rel Z zc.none c q)(m:Nat):T.rels Z zc.none ((N m c).flatten) (N m q):=by
 have f:=T.len h;refine⟨by simp[f],λ_=>zc.none,λi x B=>?_,λ_ _ _=>zc.none_disj _,λ_ =>.refl _⟩;obtain⟨hi,rfl⟩:i < m/\q=x:=by
  grind
 have:(((N m c).flatten).drop (i * T.size)).take T.size=c:=by
  obtain⟨r,rfl⟩:∃r,m=i+1+r:=⟨m - (i+1),Zc⟩
  have l:((N i c).flatten).length=i * T.size:=by simp[f]
  rw[<- qN,<- qN,qO,qO,Dc,<- l,qF];grind
 grind
theorem zsq{w:World}{q:Nat}{cur:List Value}(hs:h.sub w)(h0:h q 0=D (.shape e cur.length))(f:∀(j:Nat) (u:Value),cur[j]?=D u->h q (j+1)=D (.cell u)):w.heap[q]?=D (.cells cur.toArray e (0,0)):=by
 let⟨c,h1,_,R⟩:=hs _ _ _ h0;have:c=cur.toArray:=by
  apply Array.ext_getElem?;intro o;cases l:cur[o]? with
  |none=>
   grind
  |some u=>
   let⟨c',e',o',C,K,B⟩:=hs _ _ _ (f o u l);grind
 rw[h1,this]
section
variable {ρ:Type}{n:Nat}{w0:Start}{w:World}{σ0 Z:FS}{p:U3 ρ}{G:ρ->Act->World->Prop}{L:List (Nat×Value)}{b:Nat->Value}{PV PV':List Priv}
variable {P:Program}{ops:Array Oper}{o:Oper}{rest:List Oper}
variable {H:U3 ρ->List (Nat×Value)->FS->List Priv->Prop}{d:Nat}{v:Value}{t t' ty:TypeId}{ps:String}{af:Array Edge}{g:U3 (Nat×Bool)}
variable {x y z:Operand}{k:IntKind}{i j:Int}
theorem Inv.replace {R:World->List Priv->Prop}{C:List Priv}(hi:Inv w0 σ0 Z (A++C) w)
    (hw:∀hA,Sep Z A hA->hA.sub w->∃w' A' B,R w' A'/\Sep Z A' B/\B.sub w'/\Ext w hA w'/\∀b i,(B b i).isSome->(hA b i).isSome\/w.heap.size<=b):∃w' A',R w' A'/\Inv w0 σ0 Z (A'++C) w':=by
 let⟨h,hs,K⟩:=hi.own;let⟨h1,h2,s1,s2,e2,e3,e4⟩:=hs.split;let⟨w',A',h1',hR,f1,f2,f3,f4⟩:=hw h1 s1 (K.sub.mono e2);have hd:h1'.disj h2:=by
  intro b i;cases f:h1' b i with
  |none=>exact .inl rfl
  |some x=>
   right;rcases f4 b i (by simp[f]) with q | q
   · rcases e4 b i with z | z
     all_goals grind
   · cases hy:h2 b i with
     |none=>rfl
     |some y=>have:=Bit.at_lt (K.sub b i y (e3 b i y hy));omega
 have g1:=K.mono e2;have l:∀b i,b < w0.w.heap.size->(h1 b i).isSome->(w0.h b i).isSome:=λb i hb f=>by
  rcases g1.mine b i f with q | q
  ·omega
  ·exact q
 refine⟨w',A',hR,f3.held g1.apart hi.sub,hi.le,hi.fresh,⟨h1'.or h2,f1.append s2 (zc.le_or _ _) (zc.le_or_right hd) hd,zc.or_sub f2 (f3.frag e4 (K.sub.mono e3)),λb o f=>?_,λb i f=>?_⟩,hi.ext.trans f3 l⟩
 all_goals
  unfold zc.or at f
 · cases c:h1' b (o+1) with
   |some y=>
    rcases f4 b (o+1) (by simp[c]) with q | q
    ·exact g1.apart b o q
    · cases hy:Z b o with
      |none=>rfl
      |some v=>have:=hi.lt hy;omega
   |none=>rw[c] at f;exact(K.mono e3).apart b o (by simpa using f)
 · cases c:h1' b i with
   |some y=>
    rcases f4 b i (by simp[c]) with q | q
    ·grind
    ·exact .inl (UM hi.ext.size q)
   |none=>rw[c] at f;exact(K.mono e3).mine b i (by simpa using f)
theorem zhn(z:Array Value)(m:Nat)(B:0 < z.size):(madeCells z (m * z.size)).toList=(N m z.toList).flatten:=by
 apply UH;intro q;have c:(N m z.toList).flatten.length=m * z.size:=je
 by_cases f:q < m * z.size
 ·have h1:(madeCells z (m * z.size)).toList[q]?=D (z[q % z.size]!):=by
   simp[madeCells,f]
  rw[h1];clear h1 c
  induction m generalizing q with
  |zero=>simp at f
  |succ m l=>
   simp only[List.replicate_succ,List.flatten_cons];by_cases h:q < z.size
   ·rw[De (by simpa using h),Nat.mod_eq_of_lt h];simp[h]
   ·rw[Dd (by simpa using h)];simp only[qW];rw[<- l (q - z.size) jE];congr 2
    conv=>lhs;rw[(Zc:q=(q - z.size)+z.size)]
    rw[Nat.add_mod_right]
 ·rw[UP (by simp[size_madeCells];omega),UP (by rw[c];omega)]
theorem zf0{c:Nat}{i:Int}(h:Z3 c i q=D s):0<=i/\c * i.toNat<=140737488355328/\i<=140737488355328/\s=⟨N i.toNat q,F⟩:=by
 unfold Z3 at h;grind
def Yh(vs:List Value):List Value:=(vs.map λv=>v.cells.toList).flatten
theorem zm5 {k':IntKind}{kk:Sl α->U3 ρ}(hn:O d n=F) (hu:P.underlying t=D (.slice e)) (hi':P.info? e=D ti) (hz:ti.zero=D zv) (R:ti.size=T.size)
    (h0:O 0 T.size=F) (hx:opv L b x = .int k i) (hy:opv L b y = .int k' i) (hr:∀Z,T.rel Z zc.none zv.cells.toList q)
    (h:∀s v,Z3 ti.bytes i q=D s->H (kk s) ((d,v)::L) Z (.row T e v s::PV)) :
    Xl P n w0 σ0 ⟨D d,.makeSlice t x y,ty,ps,af,g⟩ ((Z3 ti.bytes i q).bind kk) L b Z PV H:=by
 intro r hp a w hi hf K Q hK;cases C:Z3 ti.bytes i q with
 |none=>grind
 |some s=>
  rw[C] at hp;obtain⟨h1,h2,h3,rfl⟩:=zf0 C;obtain⟨m,rfl⟩:∃m:Nat,i=(m:Int):=⟨i.toNat,Zc⟩
  simp only[Int.toNat_natCast] at h2 C hp;have B:zv.cells.size=T.size:=by simpa using T.len (hr Z)
  have hT:0 < T.size:=by simpa using h0
  have c:=run_make (P:=P) w t e ti zv hu hi' hz k k' (m:Int) (m:Int) Zc Zc (Int.ofNat_le.2 (UM h2 jI:ti.bytes * m<=281474976710656)) Zc;simp only[Int.toNat_natCast] at c;have l:=zhn zv.cells m Zc;rw[B] at l;rw[R] at c;unfold qb;have f:(execOp a.eval ⟨D d,.makeSlice t x y,ty,ps,af,g⟩).run P w = .ok (.value (.slice (D ⟨w.heap.size,0,E⟩) m m)) (w.alloc (.cells (madeCells zv.cells (m * T.size)) e)):=by
   rw[hf.eval];simp[execOp,hx,hy,c]
  rw[f,qc];refine hK _ _ Z _ _ _ hp (hi.cons (p :=.row T e (.slice (D ⟨w.heap.size,0,E⟩) m m) ⟨N m q,F⟩) (h1:=Za w.heap.size e (madeCells zv.cells (m * T.size))) ?_ (x8 (Ya _ _)) (vA _ _ _ _) λb i hb=>by rw[(Yy hb).1];grind) (hf.put (by simpa[Da] using hn) _) (h _ _ (by rw[C]));have hlen:(madeCells zv.cells (m * T.size)).toList.length=m * T.size:=by rw[l];simp[B]
  refine .inr <| .inr ⟨w.heap.size,m,(madeCells zv.cells (m * T.size)).toList,_,zc.none,je,rfl,je,by unfold maxLen;omega,jE,.refl _,?_,λj u hj=>XR hj,zc.none_le _,zc.disj_none _,?_⟩
  ·rw[w7];simp
  ·simp only[List.length_replicate];rw[Dn Zc,l];exact OTy.rels_replicate (hr Z) m
def zn0(T:OTy α)(Z:FS)(h:zc)(vs:List Value)(xs:List α):Prop:=T.rels Z h (Yh vs) xs/\vs.length=xs.length/\∀v∈vs,v.cells.size=T.size
def zbB:Nat->List Value->List (Nat×Value)
 |_,[]=>[]
 |m,v::r=>(m,v)::zbB (m+1) r
theorem zim (c:List Value):∀(cs:Array Value) (off k:Nat),off+k+c.length<=cs.size->
    ((c.zipIdx k).foldl (λa (q:Value×Nat)=>a.setIfInBounds (off+q.2) q.1) cs).toList=cs.toList.take (off+k)++c++cs.toList.drop (off+k+c.length):=by
 induction c with
 |nil=>intro cs off k h;simp
 |cons u c f=>
  intro cs off k h;simp only[jz] at h;simp only[List.zipIdx_cons,List.foldl_cons];rw[f _ off (k+1) ji];have h2:off+k < cs.toList.length:=ji
  simp only[Array.toList_setIfInBounds,jz];rw[(Zc:off+(k+1)=off+k+1),List.take_succ_eq_append_getElem ji];rw[List.take_set_of_le Zc,List.drop_set_of_lt Zc];grind
theorem zkn (size:Nat):∀(vs:List Value) (m:Nat) (cs:Array Value),(∀v∈vs,v.cells.size=size)->(m+vs.length) * size<=cs.size->
    ∃r:Array Value,V (λi=>D (i * size,size)) cs (zbB m vs)=D r/\r.toList=cs.toList.take (m * size)++Yh vs++cs.toList.drop ((m+vs.length) * size)
 |[],m,cs,_,_=>⟨cs,rfl,by simp[Yh]⟩
 |v::vs,m,cs,h,hs=>by
  have C:=h v je;have hvs:(m+(vs.length+1)) * size=m * size+size+vs.length * size:=jE
  simp only[jz] at hs;have K:m * size+v.cells.size<=cs.size:=by rw[C];omega
  have c:=zim v.cells.toList cs (m * size) 0 ji;have B:(m+1) * size=m * size+size:=jE
  have f:v.cells.toList.length=size:=by simp[C]
  let⟨r,hr,l⟩:=zkn size vs (m+1) ((v.cells.toList.zipIdx 0).foldl (λa (q:Value×Nat)=>a.setIfInBounds (m * size+q.2) q.1) cs) (λu hu=>h u (by simp[hu])) (by
   have R:((v.cells.toList.zipIdx 0).foldl (λa (q:Value×Nat)=>a.setIfInBounds (m * size+q.2) q.1) cs).size=cs.size:=by
    rw[<- qW,c];simp;omega
   grind)
  refine⟨r,?_,?_⟩
  · have e0:(v.cells.zipIdx.foldl (λcs (x:Value×Nat)=>cs.setIfInBounds (m * size+x.2) x.1) cs)=(v.cells.toList.zipIdx 0).foldl (λa (q:Value×Nat)=>a.setIfInBounds (m * size+q.2) q.1) cs:=by
      rw[<- qX];simp
    simp only[zbB,V];grind
  · rw[l,c,B];simp only[Df,f];have h1:(cs.toList.take (m * size)++v.cells.toList).length=m * size+size:=jE
    have h2:(cs.toList.take (m * size)++v.cells.toList++cs.toList.drop (m * size+size)).take (m * size+size)=cs.toList.take (m * size)++v.cells.toList:=jE
    have h3:(cs.toList.take (m * size)++v.cells.toList++cs.toList.drop (m * size+size)).drop ((m+1+vs.length) * size)=cs.toList.drop ((m+(v::vs).length) * size):=by
     rw[(jE:(m+1+vs.length) * size=(m * size+size)+vs.length * size),<- qo];rw[(jE:(cs.toList.take (m * size)++v.cells.toList++cs.toList.drop (m * size+size)).drop (m * size+size)=cs.toList.drop (m * size+size))];rw[qo];grind
    rw[h2,h3];simp[Yh,Dc]
theorem vM {c:Array (Nat×Operand)}{vs:List Value}{xs:List α}(A C:List Priv) (hn:O d n=F) (hu:P.underlying t=D (.slice e)) (hi':P.info? e=D ti)
    (hz:ti.zero=D zv) (hsz:ti.size=T.size) (h24:qB (m * T.size) 16777216=F) (h0:O 0 T.size=F) (hp:(c.toList.map λq=>(q.1,opv L b q.2))=zbB 0 vs) (hm:vs.length=m)
    (hr:∀h,Sep Z A h->∃g,g.le h/\zn0 T Z g vs xs)
    (h:∀v,H p ((d,v)::L) Z (.row T e v ⟨xs,F⟩::C)):Xl P n w0 σ0 ⟨D d,.buildSlice t m c,ty,ps,af,g⟩ p L b Z (A++C) H:=by
 intro r hpr a w hi hf K Q hK;have hT:0 < T.size:=by simpa using h0
 have h24':m * T.size<=16777216:=by simpa using h24
 unfold qb;refine Exists.elim (hi.replace (R:=λw' A'=>(execOp a.eval ⟨D d,.buildSlice t m c,ty,ps,af,g⟩).run P w = .ok (.value (.slice (D ⟨w.heap.size,0,E⟩) m m)) w'/\A'=[Priv.row T e (.slice (D ⟨w.heap.size,0,E⟩) m m) ⟨xs,F⟩]) ?_) ?_
 · intro hA sA l;let⟨gA,B,hrel,hlen,hsize⟩:=hr hA sA;have hml:m=xs.length:=jE
   have hfl:(Yh vs).length=m * T.size:=by rw[hrel.1,hml]
   have hnew:∀b i,(gA b i).isSome->b < w.heap.size:=λb i f=>by
    let⟨x,f⟩:=UN.1 f;exact Bit.at_lt (l _ _ _ (B _ _ _ f))
   have hdj:(Za w.heap.size e (Yh vs).toArray).disj gA:=λb i=>by
    cases f:Za w.heap.size e (Yh vs).toArray b i with
    |none=>exact .inl rfl
    |some y=>
     right;have:=(Yy (b:=b) (k:=i) (by rw[f];rfl)).1;cases hy:gA b i with
     |none=>rfl
     |some z=>grind
   refine⟨w.alloc (.cells (Yh vs).toArray e (0,0)),_,(Za w.heap.size e (Yh vs).toArray).or gA,⟨?_,rfl⟩,Sep.one ?_,zc.or_sub (x8 (Ya _ _)) ((vA w _ _ zc.none).frag (zc.none_disj _) (l.mono B)),vA _ _ _ _,λb i f=>?_⟩
   · rw[hf.eval];have hpl:(c.map λ(q:Nat×Operand)=>(q.1,opv L b q.2)).toList=zbB 0 vs:=by rw[qU];exact hp
     have key:∀zero:Array Value,V (λi=>D (i * T.size,T.size)) ((qV (m * T.size)).map (zero[· % zero.size]!)) (c.map λ(q:Nat×Operand)=>(q.1,opv L b q.2)).toList=D (Yh vs).toArray:=by
      intro zero;let⟨r,hr1,hr2⟩:=zkn T.size vs 0 ((qV (m * T.size)).map (zero[· % zero.size]!)) hsize (by simp[<- hm]);have hr3:r=(Yh vs).toArray:=by
       grind
      grind
     have hb:(qS t m (c.map λq=>(q.1,opv L b q.2))).run P w = .ok (.slice (D ⟨w.heap.size,0,E⟩) m m) (w.alloc (.cells (Yh vs).toArray e (0,0))):=by
      unfold qS;simp only[UW,UV hu,UX,sizeOf,typeInfo,UY,hi',UU,hsz];rw[jx Zc];by_cases h00:m * T.size=0
      ·rw[jv h00];simp only[UW,UU,UX,key];simp[newRow,newObj,Sem.run]
      ·rw[jx h00];simp only[UW,UU,UX,zeroValue,typeInfo,UY,hi',hz,key];simp[newRow,newObj,Sem.run]
     simp only[execOp,UW,hb,UX,UU]
   · refine .inr <| .inr ⟨w.heap.size,m,Yh vs,Za w.heap.size e (Yh vs).toArray,gA,by rw[hml],rfl,jE,?_,jE,zc.le_or _ _,?_,λj u hj=>XR (by simpa using hj),zc.le_or_right hdj,hdj,?_⟩
     ·have:m<=m * T.size:=Nat.le_mul_of_pos_right m hT;unfold maxLen;omega
     ·rw[w7];simp
     grind
   · unfold zc.or at f;cases hy:Za w.heap.size e (Yh vs).toArray b i with
     |some z=>have:=(Yy (b:=b) (k:=i) (by rw[hy];rfl)).1;right;omega
     |none=>rw[hy] at f;left;exact B.isSome (by simpa using f)
 ·rintro w' ⟨A',⟨hrun,rfl⟩,hi2⟩;rw[hrun,qc];exact hK p _ Z _ _ _ hpr hi2 (hf.put (by simpa[Da] using hn) _) (h _)
theorem zin{c:Nat}{ts:List α}(h:zo c s ts=D s'):(s.xs.length+ts.length) * c<=140737488355328/\s.xs.length+ts.length<=140737488355328/\s'=⟨s.xs++ts,s.nn || !ts.isEmpty⟩:=by
 unfold zo at h;grind
def vC(w:World)(u:Value)(m:Nat)(f:List Value):Prop:=
 (u = .slice E 0 0/\m=0/\f=[])\/∃a c,u = .slice (D a) m c/\∀(j:Nat) (q:Value),f[j]?=D q->w.cell? (a.add j)=D q
theorem zad {ts:List α}{kk:Sl α->U3 ρ}(A C:List Priv) (hn:O d n=F) (hu:P.underlying t=D (.slice e)) (hi':P.info? e=D ti)
    (hz:ti.zero=D zv) (hzs:zv.cells.size=T.size) (hsz:ti.size=T.size) (h0:O 0 T.size=F) (hx:opv L b x=v) (hy:opv L b y=u)
    (hs:∀w g,Y7 Z (.row T e v s::(A++C)) w->Sep Z A g->g.sub w->∃gA f,gA.le g/\T.rels Z gA f ts/\vC w u ts.length f)
    (h:∀s' v',zo ti.bytes s ts=D s'->H (kk s') ((d,v')::L) Z (.row T e v' s'::C)) :
    Xl P n w0 σ0 ⟨D d,.call {callee :=.builtin .append,args:= #[x,y],argTypes:= #[t,t]},ty,ps,af,g⟩ ((zo ti.bytes s ts).bind kk) L b Z (.row T e v s::(A++C)) H:=by
 intro r hp a w hi hf K Q hK;cases hg:zo ti.bytes s ts with
 |none=>grind
 |some s'=>
 rw[hg] at hp;obtain⟨hb,hb2,rfl⟩:=zin hg;have hT:0 < T.size:=by simpa using h0
 have hheld:=hi.held;have hi0:Inv w0 σ0 Z ((.row T e v s::A)++C) w:=hi;refine Exists.elim (hi0.replace (R:=λw' A'=>∃v',(M #[t,t] ty #[v,u]).run P w = .ok v' w'/\A'=[Priv.row T e v' ⟨s.xs++ts,s.nn || !ts.isEmpty⟩]) ?_) ?_
 · intro hA sA subA;let⟨h1,h2,k1,k2,l1,l2,dd⟩:=Sep.uncons sA;have k1:zn T e v s Z h1:=k1;let⟨gA,f,hgA,hrel,hsrc⟩:=hs w h2 hheld k2 (subA.mono l2);have hlt:∀b i,(hA b i).isSome->b < w.heap.size:=λb i hx=>by
     let⟨x,hx⟩:=UN.1 hx;exact Bit.at_lt (subA _ _ _ hx)
   rcases hsrc with⟨rfl,hl0,rfl⟩ | ⟨ad,c,rfl,hcells⟩
   · have hts:ts=[]:=UQ hl0;subst hts;refine⟨w,_,hA,⟨v,?_,rfl⟩,Sep.one ?_,subA,.refl w hA,λb i hx =>.inl hx⟩
     · rcases k1 with⟨rfl,rfl⟩ | ⟨q,rfl,rfl⟩ | ⟨q,cap,cur,hb',gg,rfl,r2,r3,r4,r5,r0,r6,r7,r8,r9,r10⟩
       ·simp[M,UV hu,sizeOf,typeInfo,hi',X,Y]
       ·simp[M,UV hu,sizeOf,typeInfo,hi',X,Y,storeCells]
       ·simp[M,UV hu,sizeOf,typeInfo,hi',X,Y,r3,storeCells]
     ·simp only[List.append_nil,List.isEmpty_nil,Do,Bool.or_false];exact Priv.mono _ (.refl _) l1 k1
   have hnl:f.length=ts.length * ti.size:=by rw[hsz];exact hrel.1
   have hmt:(ts=[])↔ts.length=0:=jE
   have fresh:∀(cur2:Array Value) (cap2:Nat) (w1:World) (g:zc) (l:List Value),w1.heap=w.heap->w1.os=w.os->w1.output=w.output->w1.tape=w.tape->
       cur2.size=cap2 * T.size->s.xs.length+ts.length<=cap2->cap2<=maxLen->ts≠[]\/s.nn=F->g.le h1->T.rels Z g l s.xs->cur2.toList.take ((s.xs.length+ts.length) * T.size)=l++f->
       (M #[t,t] ty #[v,.slice (D ad) ts.length c]).run P w = .ok (.slice (D ⟨w.heap.size,0,E⟩) (s.xs.length+ts.length) cap2) (w1.alloc (.cells cur2 e (0,0)))->
       ∃w' A' hA',(∃v',(M #[t,t] ty #[v,.slice (D ad) ts.length c]).run P w = .ok v' w'/\A'=[Priv.row T e v' ⟨s.xs++ts,s.nn || !ts.isEmpty⟩])/\Sep Z A' hA'/\hA'.sub w'/\Ext w hA w'/\∀b i,(hA' b i).isSome->(hA b i).isSome\/w.heap.size<=b:=by
    intro cur2 cap2 w1 g l e1 e2 e3 e4 hc1 hc2 hc3 hnn hgl hold htake B;have hsz1:w1.heap.size=w.heap.size:=by rw[e1]
    have hext:Ext w hA (w1.alloc (.cells cur2 e (0,0))):=by
     refine⟨by simp[qv,e2],by simp[qv,e3],by simp[qv,e4],by simp[e1],λb =>.same λhb=>by rw[zac _ _ _ Zc,e1],λa _ _=>?_⟩;rw[zc4];unfold qs;rw[e1]
    have hnew2:(w1.alloc (.cells cur2 e (0,0))).heap[w.heap.size]?=D (.cells cur2 e (0,0)):=by rw[<- hsz1];exact Ya _ _
    have hgg:(g.or gA).le hA:=zc.or_le (hgl.trans l1) (hgA.trans l2);have hdd:(Za w.heap.size e cur2).disj (g.or gA):=λb i=>by
     cases hx:Za w.heap.size e cur2 b i with
     |none=>exact .inl rfl
     |some y=>
      right;have:=(Yy (b:=b) (k:=i) (by rw[hx];rfl)).1;cases hy:(g.or gA) b i with
      |none=>rfl
      |some z=>have:=hlt b i (hgg.isSome (by simp[hy]));omega
    refine⟨_,_,(Za w.heap.size e cur2).or (g.or gA),⟨_,B,rfl⟩,Sep.one ?_,zc.or_sub (x8 hnew2) ?_,hext,λb i hx=>?_⟩
    · refine .inr <| .inr ⟨w.heap.size,cap2,cur2.toList,Za w.heap.size e cur2,g.or gA,je,?_,ji,hc3,by simp[hc1],zc.le_or _ _,by rw[w7];simp,λj u hj=>XR hj,zc.le_or_right hdd,hdd,?_⟩
      · rcases hnn with h | h
        all_goals grind
      ·simp only[jy];rw[htake];exact OTy.rels_append hold hrel (dd.mono hgl hgA)
    · refine zc.sub.mono (h:=g.or gA) (g:=g.or gA) ?_ (.refl _);intro b i y hy;have h3:=subA b i y (hgg _ _ _ hy);have h4:=Bit.at_lt h3;have h5:(w1.alloc (.cells cur2 e (0,0))).heap[b]?=w.heap[b]?:=by rw[zac _ _ _ Zc,e1]
      cases y<;>(unfold Bit.at at h3 |-;grind)
    · unfold zc.or at hx;cases hy:Za w.heap.size e cur2 b i with
      |some z=>have:=(Yy (b:=b) (k:=i) (by rw[hy];rfl)).1;right;omega
      |none=>rw[hy] at hx;left;exact hgg.isSome (by simpa[zc.or] using hx)
   have hmax:s.xs.length+ts.length<=maxLen:=by unfold maxLen;omega
   have grow:∀(old:Nat) (g:zc) (l:List Value) (row:Value),l.length=s.xs.length * T.size->old < s.xs.length+ts.length->ts≠[]\/s.nn=F->g.le h1->T.rels Z g l s.xs->v=row->
       (M #[t,t] ty #[row,.slice (D ad) ts.length c]).run P w = .ok (.slice (D ⟨w.heap.size,0,E⟩) (s.xs.length+ts.length) (grownCap w (s.xs.length+ts.length) old e))
         (w.drew.alloc (.cells (l.toArray++f.toArray++Builtin.zeroCells zv.cells (grownCap w (s.xs.length+ts.length) old e - (s.xs.length+ts.length))) e))->
       ∃w' A' hA',(∃v',(M #[t,t] ty #[v,.slice (D ad) ts.length c]).run P w = .ok v' w'/\A'=[Priv.row T e v' ⟨s.xs++ts,s.nn || !ts.isEmpty⟩])/\Sep Z A' hA'/\hA'.sub w'/\Ext w hA w'/\∀b i,(hA' b i).isSome->(hA b i).isSome\/w.heap.size<=b:=by
    intro old g l row hol hold hnn hgl hold2 hv B;subst hv;have hge:=grownCap_ge w (s.xs.length+ts.length) old e;have hnl2:f.length=ts.length * T.size:=hrel.1;refine fresh _ _ w.drew g l rfl rfl rfl rfl ?_ hge (grownCap_le_maxLen w _ old e hmax) hnn hgl hold2 ?_ B
    ·simp only[Array.size_append,qM,size_zeroCells,hzs,hol,hnl2,<- US];congr 1;omega
    ·simp only[Array.toList_append,Dc];rw[<- Dc,(jE:(s.xs.length+ts.length) * T.size=(l++f).length)];grind
   rcases k1 with⟨rfl,rfl⟩ | ⟨aq,rfl,rfl⟩ | ⟨q,cap,cur,hbk,gg,rfl,r2,r3,r4,r5,r0,r6,r7,r8,r9,r10⟩
   · by_cases hm0:ts.length=0
     · have hts:=hmt.2 hm0;subst hts;refine⟨w,_,hA,⟨.slice E 0 0,?_,rfl⟩,Sep.one ?_,subA,.refl w hA,λb i hx =>.inl hx⟩
       ·simp[M,UV hu,sizeOf,typeInfo,hi',X,Y,loadCells,loadCellsFrom]
       ·exact .inl ⟨rfl,rfl⟩
     ·have hr3:=run_append_nil (P:=P) w t ty e ti zv hu hi' hz ad ts.length c f hnl hcells Zc Zc jE;exact grow 0 zc.none [] _ je ji (.inl λhh=>hm0 (by simp[hh])) (zc.none_le _) OTy.rels_nil rfl jE
   · by_cases hm0:ts.length=0
     · have hts:=hmt.2 hm0;subst hts;refine⟨w,_,hA,⟨.slice (D aq) 0 0,?_,rfl⟩,Sep.one ?_,subA,.refl w hA,λb i hx =>.inl hx⟩
       ·simp[M,UV hu,sizeOf,typeInfo,hi',X,Y,loadCells,loadCellsFrom,storeCells]
       ·exact .inr (.inl ⟨aq,rfl,rfl⟩)
     ·have hr3:=run_append_grow (P:=P) w t ty e ti zv hu hi' hz aq 0 0 [] je je ad ts.length c f hnl hcells Zc Zc (growslice_fits Zc jE);exact grow 0 zc.none [] _ je ji (.inr rfl) (zc.none_le _) OTy.rels_nil rfl jE
   · have l0:hbk.le hA:=r0.trans l1;have hcurA:=zsq (subA.mono l0) r6 r7;have holds:∀j u,(cur.take (s.xs.length * T.size))[j]?=D u->w.cell? ((⟨q,0,E⟩:Addr).add j)=D u:=λj u hj=>by
       rw[Addr.add_eq _ rfl];rw[qE] at hj;split at hj
       ·simpa using(subA.mono l0).cell (r7 j u hj)
       ·cases hj
     by_cases hroom:s.xs.length+ts.length<=cap
     · have hfit:s.xs.length * ti.size+f.length<=cur.toArray.size:=by rw[hnl,hsz,<- US];simp only[qM];exact UM (Dk _ hroom) r5
       have B:=run_append_room (P:=P) w t ty e ti hu hi' q s.xs.length cap cur.toArray hcurA ad ts.length c f hnl hcells (OTy.rels_one hrel) hroom hfit;rw[hsz] at B hfit;have hlt3:∀j,j < f.length->s.xs.length * T.size+j < cur.length:=λj hj=>jE
       let⟨p1,p2⟩:=zfZ (q:=q) (off:=s.xs.length * T.size) (vs:=f) (subA.mono l0) hcurA jE (λj hj=>
        ⟨_,by rw[(Zc:s.xs.length * T.size+j+1=(s.xs.length * T.size+j)+1)];exact r7 _ _ (UJ (hlt3 j hj))⟩)
       have hdom:∀b i,((hbk.put q (s.xs.length * T.size) f) b i).isSome->(hbk b i).isSome:=λb i hx=>zc.put_dom (λj hj=>by
        rw[(Zc:s.xs.length * T.size+j+1=(s.xs.length * T.size+j)+1),r7 _ _ (UJ (hlt3 j hj))];rfl) hx
       have hgA2:hbk.disj (gg.or gA):=(zc.or_disj r9.symm ((dd.mono r0 hgA).symm)).symm;have hd2:(hbk.put q (s.xs.length * T.size) f).disj (gg.or gA):=λb i=>by
        cases hx:hbk.put q (s.xs.length * T.size) f b i with
        |none=>exact .inl rfl
        |some y=>
         have:=hdom b i (by rw[hx];rfl);rcases hgA2 b i with z | z
         all_goals grind
       have hgl:(gg.or gA).le hA:=zc.or_le (r8.trans l1) (hgA.trans l2);refine⟨_,_,(hbk.put q (s.xs.length * T.size) f).or (gg.or gA),⟨_,B,rfl⟩,Sep.one ?_,zc.or_sub p1 (p2.frag hgA2 (subA.mono hgl)),p2.mono l0,λb i hx=>?_⟩
       · have hcl:(cur.take (s.xs.length * T.size)).length=s.xs.length * T.size:=r10.1;have hnl2:f.length=ts.length * T.size:=hrel.1;refine .inr <| .inr ⟨q,cap,cur.take (s.xs.length * T.size)++f++cur.drop (s.xs.length * T.size+f.length),hbk.put q (s.xs.length * T.size) f,gg.or gA,je,by simp[r2],jE,r4,?_,zc.le_or _ _,?_,λj u hj=>?_,zc.le_or_right hd2,hd2,?_⟩
         ·grind
         ·rw[zc.put_out Zc,r6];grind
         · by_cases c1:j < s.xs.length * T.size
           ·rw[Dc,De Zc,Dh c1] at hj;rw[zc.put_out Zc];grind
           · by_cases c2:j < s.xs.length * T.size+f.length
             ·rw[Dc,Dd Zc,hcl,De Zc] at hj;rw[(Zc:j+1=s.xs.length * T.size+(j - s.xs.length * T.size)+1)];exact zc.put_in hj
             ·rw[Dd jE,Di] at hj;simp only[jy,hcl] at hj;rw[(Zc:s.xs.length * T.size+f.length+(j - (s.xs.length * T.size+f.length))=j)] at hj;rw[zc.put_out Zc];grind
         ·have hap:=OTy.rels_append r10 hrel (dd.mono r8 hgA);rw[jy,US,qC jE,Dn jE];exact hap
       · unfold zc.or at hx;cases hy:hbk.put q (s.xs.length * T.size) f b i with
         |some z=>left;exact l0.isSome (hdom b i (by rw[hy];rfl))
         |none=>rw[hy] at hx;left;exact hgl.isSome (by simpa[zc.or] using hx)
     ·have B:=run_append_grow (P:=P) w t ty e ti zv hu hi' hz ⟨q,0,E⟩ s.xs.length cap (cur.take (s.xs.length * T.size)) (by rw[hsz];exact r10.1) holds ad ts.length c f hnl hcells Zc Zc (growslice_fits Zc hb);exact grow cap gg _ _ r10.1 Zc (.inr r2) r8 r10 rfl B
 · rintro w' ⟨A',⟨v',B,rfl⟩,hi2⟩;unfold qb;have hrun':(execOp a.eval ⟨D d,.call {callee :=.builtin .append,args:= #[x,y],argTypes:= #[t,t]},ty,ps,af,g⟩).run P w = .ok (.value v') w':=by
     rw[hf.eval];simp[execOp,resolve,invoke,builtin,hx,hy,B]
   rw[hrun',qc];exact hK _ _ Z _ _ _ hp hi2 (hf.put (by simpa[Da] using hn) _) (h _ _ hg)
theorem zi3{T:Ty α}(hv:(tSl T).vrel Z u s)(w:World)(g:zc)(B:Y7 Z PV w)(sA:Sep Z A g)(hg:g.sub w):∃gA f,gA.le g/\T.o.rels Z gA f s.xs/\vC w u s.xs.length f:=by
 obtain⟨a,m,c,rfl,h1,h2,h3,h4,K,cells,l,R⟩:=YS.1 hv;refine⟨zc.none,cells,zc.none_le _,Ty.rels_o.2 l,?_⟩;cases a with
 |none=>
  obtain⟨rfl,rfl⟩:=K rfl;refine .inl ⟨rfl,h1.symm,?_⟩;have:=T.rels_len l;rw[<- h1] at this;grind
 |some a=>
  refine .inr ⟨a,c,by rw[h1],λj q hq=>?_⟩;let⟨ad,e,C⟩:=R j q hq;cases e;exact B.1.cell C
theorem zn.source{w:World}(r:zn T e u s Z h)(hs:h.sub w):∃gA c,gA.le h/\T.rels Z gA c s.xs/\vC w u s.xs.length c:=by
 rcases r with⟨rfl,rfl⟩ | ⟨C,rfl,rfl⟩ | ⟨q,l,cur,hb,K,rfl,r2,r3,r4,r5,r0,r6,R,r8,r9,B⟩
 rotate_left
 ·exact⟨zc.none,[],zc.none_le _,OTy.rels_nil,.inr ⟨C,0,rfl,λj u f=>by simp at f⟩⟩
 rotate_left
 ·exact⟨zc.none,[],zc.none_le _,OTy.rels_nil,.inl ⟨rfl,rfl,rfl⟩⟩
 ·refine⟨K,_,r8,B,.inr ⟨_,l,rfl,λj u f=>?_⟩⟩;rw[Addr.add_eq _ rfl];rw[qE] at f;split at f
  ·simpa using hs.cell (r0 _ _ _ (R j u f))
  ·cases f
theorem zn1{T:Ty α}(m:Nat)(l:PV[m]?=D (.row T.o e u s))(w:World)(g:zc)(K:Y7 Z PV w)(R:Sep Z A g)(hg:g.sub w):∃gA c,gA.le g/\T.o.rels Z gA c s.xs/\vC w u s.xs.length c:=by
 let⟨h,f,hs⟩:=K.get l;let⟨gA,c,_,C,B⟩:=zn.source f hs;exact⟨zc.none,c,zc.none_le _,Ty.rels_o.2 (Ty.rels_o.1 C),B⟩
theorem zeY(w:World)(g:zc)(B:Y7 Z PV w)(f:Sep Z [.row T e u s] g)(l:g.sub w):∃gA c,gA.le g/\T.rels Z gA c s.xs/\vC w u s.xs.length c:=
 zn.source f.one_of l
def Sl.set(s:Sl α)(i:Int)(x:α):Sl α:=⟨s.xs.set i.toNat x,s.nn⟩
omit [Dfr] in
def Priv.hole(A C:α->Priv):Priv where
 holds Z h:=∀τ g x k,Z.le τ->h.disj g->(A x).holds τ g->h.le k->g.le k->(C x).holds τ k
 mono l m r:=λτ g x k l2 d f B c=>r τ g x k (l.trans l2) (d.mono m (.refl _)) f (m.trans B) c
def zqC(T:OTy α)(a:Addr)(x:α)(Z:FS)(h:zc):Prop:=∃cs h1 h2,h1.le h/\h2.le h/\h1.disj h2/\Z2 a cs h1/\T.rel Z h2 cs x
omit [Dfr] in
def Priv.elem(T:OTy α)(a:Addr)(x:α):Priv where
 holds Z h:=zqC T a x Z h
 mono l m r:=by let⟨cs,h1,h2,c,l2,d,r1,r2⟩:=r;exact⟨cs,h1,h2,c.trans m,l2.trans m,d,r1,T.mono l (.refl _) r2⟩
theorem xw {cur:List Value}{o n:Nat}(l:o+n<=cur.length) (f:cs.length=n) (j:Nat) :
    (cur.take o++cs++cur.drop (o+n))[j]?=if o<=j/\j < o+n then cs[j - o]? else cur[j]?:=by
 have c:(cur.take o).length=o:=ji
 by_cases h1:j < o
 ·grind
 · by_cases h2:j < o+n
   ·rw[jv ⟨Zc,h2⟩,Dc,Dd Zc,c,De Zc]
   ·rw[jx Zc,Dd jE,Di];grind
theorem VB (r:zn T e v s Z h) (hq:za s i=D q) :
    Sep Z [.hole (λx =>.elem T (zi v (i.toNat * T.size)) x) (λx =>.row T e v (s.set i x)),.elem T (zi v (i.toNat * T.size)) q] h:=by
 have hlt:=za7 hq;rcases r with⟨_,rfl⟩ | ⟨_,_,rfl⟩ | ⟨b,cap,cur,hb,g,rfl,r2,r3,r4,r5,r0,r6,r7,r8,r9,r10⟩
 ·grind
 ·grind
 let⟨k1,hs,k2,k3,k4⟩:=r10;have hx:=(yP.1 hq).2;have hbound:i.toNat * T.size+T.size<=s.xs.length * T.size:=by
  have:(i.toNat+1) * T.size<=s.xs.length * T.size:=Dk _ Zc;grind
 have hcap:s.xs.length * T.size<=cap * T.size:=Dk _ r3;have hsel:((cur.take (s.xs.length * T.size)).drop (i.toNat * T.size)).take T.size=(cur.drop (i.toNat * T.size)).take T.size:=by
  rw[qk,W,Dm Zc]
 have hci:=k2 i.toNat q hx;rw[hsel] at hci;have hea:zi (.slice (D ⟨b,0,E⟩) s.xs.length cap) (i.toNat * T.size)=⟨b,i.toNat * T.size,E⟩:=by
  show(⟨b,0,E⟩:Addr).add _=_;rw[Addr.add_eq _ rfl];simp
 have hsb:∀j c m y,hs j c m=D y->hb c m=none:=λj c m y B=>by
  rcases r9 c m with z | z
  ·exact z
  ·rw[k4 j c m y B] at z;cases z
 classical
 let inn:Nat->Nat->Prop:=λc k=>c=b/\i.toNat * T.size < k/\k<=i.toNat * T.size+T.size
 let oth:Nat->Nat->Prop:=λc k=>∃j,j≠i.toNat/\(hs j c k).isSome
 let fo:zc:=λc k=>if inn c k then(if oth c k then h c k else E) else if(hb c k).isSome\/oth c k then h c k else E
 let fc:zc:=λc k=>if inn c k then hb c k else E
 have lo:fo.le h:=λc k x hx=>by
  simp only[fo] at hx;split at hx<;>split at hx<;>first | exact hx | cases hx
 have lc:fc.le h:=λc k x hx=>by
  simp only[fc] at hx;split at hx
  ·exact r0 _ _ _ hx
  ·cases hx
 have le2:(hs i.toNat).le h:=(k4 _).trans r8;have dce:fc.disj (hs i.toNat):=λc k=>by
  cases B:hs i.toNat c k with
  |none=>exact .inr rfl
  |some y=>grind
 have doe:fo.disj (fc.or (hs i.toNat)):=λc k=>by
  cases hi:hs i.toNat c k with
  |some y=>
   left;have ho:¬ oth c k:=by
    rintro⟨j,hj,hsm⟩;rcases k3 j i.toNat hj c k with z | z
    all_goals grind
   grind
  |none=>
   cases hc:fc c k with
   |none=>right;simp[zc.or,hc,hi]
   |some y=>
    left;simp only[fc] at hc;split at hc
    · rename_i R;have ho:¬ oth c k:=by
        rintro⟨j,hj,hsm⟩;let⟨z,hz⟩:=UN.1 hsm;grind
      grind
    ·cases hc
 have hcc:Z2 ⟨b,i.toNat * T.size,E⟩ ((cur.drop (i.toNat * T.size)).take T.size) fc:=by
  refine⟨rfl,λj u hj=>?_⟩;have hj':j < T.size:=by
   grind
  rw[Dh hj',Di] at hj;grind
 refine .cons (h1:=fo) (h2:=fc.or (hs i.toNat)) ?_ (Sep.one ⟨_,fc,hs i.toNat,zc.le_or _ _,zc.le_or_right dce,dce,jE,hci⟩) lo (zc.or_le lc le2) doe;intro τ g2 x k l2 dg ⟨cs,h1,h2,q1,q2,q3,q4,q5⟩ lk lg;rw[hea] at q4;have hcl:=T.len q5;have hget:=xw (cur:=cur) (o:=i.toNat * T.size) (n:=T.size) (cs:=cs) Zc hcl
 let hn:zc:=λc m=>if inn c m then h1 c m else hb c m
 let gn:zc:=λc m=>if(hn c m).isSome then E else k c m
 have hfo:∀c m y,hb c m=D y->¬ inn c m->fo c m=D y:=λc m y B R=>by
  simp only[fo,R,jp];rw[jv (.inl (by simp[B]))];exact r0 _ _ _ B
 have hfo2:∀j c m y,j≠i.toNat->hs j c m=D y->fo c m=D y:=λj c m y hj B=>by
  have ho:oth c m:=⟨j,hj,by simp[B]⟩;have e:fo c m=h c m:=by simp[fo,ho]
  rw[e];exact r8 _ _ _ (k4 _ _ _ _ B)
 have hnk:hn.le k:=λc m y B=>by
  simp only[hn] at B;split at B
  ·exact lg _ _ _ (q1 _ _ _ B)
  ·exact lk _ _ _ (hfo _ _ _ B (by assumption))
 have K:∀c m y,fo c m=D y->g2 c m=none:=λc m y B=>by
  rcases dg c m with z | z
  ·rw[z] at B;cases B
  ·exact z
 have C:∀{f:zc} {c m},f.le g2->g2 c m=E->f c m=none:=λ{f c m} l z=>by
  cases B:f c m with
  |none=>rfl
  |some y=>rw[l _ _ _ B] at z;cases z
 refine .inr <| .inr ⟨b,cap,cur.take (i.toNat * T.size)++cs++cur.drop (i.toNat * T.size+T.size),hn,gn,by simp[Sl.set],r2,by simpa[Sl.set] using r3,r4,?_,hnk,?_,λj u hj=>?_,?_,λc m=>?_,?_⟩
 ·simp only[jy,Dl,UR,hcl];omega
 ·simp only[hn];rw[jx (by intro hh;have:=hh.2.1;omega),r6];congr 2;simp only[jy,Dl,UR,hcl];omega
 · rw[hget] at hj;split at hj
   · rename_i R;simp only[hn];rw[jv ⟨rfl,Zc,Zc⟩];have:=q4.2 _ u hj;simp only at this
     rwa [(Zc:i.toNat * T.size+(j - i.toNat * T.size)+1=j+1)] at this
   ·rename_i R;simp only[hn];rw[jx (by intro hh;exact R ⟨by have:=hh.2.1;omega,by have:=hh.2.2;omega⟩)];exact r7 j u hj
 · intro c m y B;simp only[gn] at B;split at B
   ·cases B
   ·exact B
 · cases B:hn c m with
   |none=>exact .inl rfl
   |some y=>right;simp[gn,B]
 · have hlen:(s.set i x).xs.length=s.xs.length:=by simp[Sl.set]
   rw[hlen];refine⟨?_,λj=>if j=i.toNat then h2 else hs j,λj y B=>?_,λj j' hj=>?_,λj=>?_⟩
   ·rw[hlen,Dl,jy,jy,Dl,UR,hcl];omega
   · have hjl:j < s.xs.length:=by rw[<- hlen];exact(UC.1 B).1
     have hjb:j * T.size+T.size<=s.xs.length * T.size:=by
      have:(j+1) * T.size<=s.xs.length * T.size:=Dk _ hjl;rw[US] at this;omega
     rw[qk,W,Dm Zc];by_cases hji:j=i.toNat
     · subst hji;have:x=y:=by
         have hy2:=B;simp only[Sl.set] at hy2;rw[UI] at hy2;simp at hy2;exact hy2.2
       subst this;simp only[jq];have htl:(cur.take (i.toNat * T.size)).length=i.toNat * T.size:=ji
       rw[Dc,qP Zc,List.drop_of_length_le Zc,Dp,qC Zc,Dn Zc];exact q5
     · simp only [hji,jp];have hy2:s.xs[j]?=D y:=by
         simp only[Sl.set] at B
         rwa [List.getElem?_set_ne (λe=>hji e.symm)] at B
       have:=k2 j y hy2;rw[qk,W,Dm Zc] at this;have hsame:((cur.take (i.toNat * T.size)++cs++cur.drop (i.toNat * T.size+T.size)).drop (j * T.size)).take T.size=(cur.drop (j * T.size)).take T.size:=by
        apply UH;intro m;by_cases hm:m < T.size
        · rw[Dh hm,Dh hm,Di,Di,hget,jx];rintro⟨a1,a2⟩;rcases Nat.lt_or_gt_of_ne hji with hlt' | hlt'
          ·have:(j+1) * T.size<=i.toNat * T.size:=Dk _ hlt';rw[US] at this;omega
          ·have:(i.toNat+1) * T.size<=j * T.size:=Dk _ hlt';rw[US] at this;omega
        ·rw[UP ji,UP ji]
       rw[hsame];exact T.mono l2 (.refl _) this
   · show zc.disj (if j=i.toNat then h2 else hs j) (if j'=i.toNat then h2 else hs j');have key:∀a,a≠i.toNat->(hs a).disj h2:=λa ha c m=>by
       cases B:hs a c m with
       |none=>exact .inl rfl
       |some y=>right;exact C q2 (K _ _ _ (hfo2 a c m y ha B))
     split<;>split
     ·omega
     ·exact(key _ (by assumption)).symm
     ·exact key _ (by assumption)
     ·exact k3 _ _ hj
   · show zc.le (if j=i.toNat then h2 else hs j) gn;split
     · intro c m y B;have hno:hn c m=none:=by
         simp only[hn];split
         · rcases q3 c m with z | z
           ·exact z
           ·rw[z] at B;cases B
         · rename_i R;cases hz:hb c m with
           |none=>rfl
           |some z=>have:=C q2 (K _ _ _ (hfo _ _ _ hz R));rw[this] at B;cases B
       simp only[gn,hno];exact lg _ _ _ (q2 _ _ _ B)
     · rename_i hji;intro c m y B;have hf:=hfo2 j c m y hji B;have hno:hn c m=none:=by
         simp only[hn];split
         ·exact C q1 (K _ _ _ hf)
         ·exact hsb _ _ _ _ B
       simp only[gn,hno];exact lk _ _ _ hf
end
end
section
variable [Dfr]
class Opn{α:Type}(T:OTy α) where
 aux:Type
 cells:aux->α->List Value
 own:aux->α->List Priv
 facts:FS->aux->α->Prop
 spec:∀{Z:FS} {h:zc} {cs:List Value} {x:α},T.rel Z h cs x->∃u,cs=cells u x/\facts Z u x/\Sep Z (own u x) h
 back:∀{Z:FS} {h:zc} {u:aux} {x:α},facts Z u x->Sep Z (own u x) h->T.rel Z h (cells u x) x
omit [Dfr] in
instance {α:Type}{T:Ty α}[p:Plain T]:Opn T.o where
 aux:=Unit
 cells _ x:=p.cells x
 own _ _:=[]
 facts _ _ _:=True
 spec r:=⟨(),(p.spec _ _ _).1 r,trivial,.nil⟩
 back _ _:=(p.spec _ _ _).2 rfl
omit [Dfr] in
instance {α:Type}{T:Ty α}:Opn (tSl T).o where
 aux:=Value
 cells u _:=[u]
 own _ _:=[]
 facts Z u x:=(tSl T).vrel Z u x
 spec:=by
  rintro Z h cs x ⟨a,n,c,rfl,r⟩;exact⟨_,rfl,YS.2 ⟨a,n,c,rfl,r⟩,.nil⟩
 back:=by
  intro Z h u x f _;obtain⟨a,n,c,rfl,r⟩:=YS.1 f;exact⟨a,n,c,rfl,r⟩
omit [Dfr] in
instance {α:Type}{T:OTy α}{e:TypeId}:Opn (zxP T e) where
 aux:=Value
 cells u _:=[u]
 own u x:=[.row T e u x]
 facts _ _ _:=True
 spec:=by rintro Z h cs x ⟨v,rfl,r⟩;exact⟨v,rfl,trivial,.one r⟩
 back:=by intro Z h u x _ s;exact⟨u,rfl,s.one_of⟩
omit [Dfr] in
instance {α β:Type}{A:OTy α}{B:OTy β}[a:Opn A][b:Opn B]:Opn (zbA A B) where
 aux:=a.aux×b.aux
 cells u x:=a.cells u.1 x.1++b.cells u.2 x.2
 own u x:=a.own u.1 x.1++b.own u.2 x.2
 facts Z u x:=a.facts Z u.1 x.1/\b.facts Z u.2 x.2
 spec:=by
  rintro Z h cs x ⟨c,d,h1,h2,rfl,C,l2,l,p,q⟩;obtain⟨u,rfl,f1,s1⟩:=a.spec p;obtain⟨v,rfl,R,K⟩:=b.spec q;exact⟨(u,v),rfl,⟨f1,R⟩,s1.append K C l2 l⟩
 back:=by
  intro Z h u x f s;let⟨h1,h2,s1,K,C,l2,l⟩:=s.split;exact⟨_,_,h1,h2,rfl,C,l2,l,a.back f.1 s1,b.back f.2 K⟩
instance {α β:Type}{T:OTy α}{f:β->α}[a:Opn T]:Opn (T.comap f) where
 aux:=a.aux
 cells u x:=a.cells u (f x)
 own u x:=a.own u (f x)
 facts Z u x:=a.facts Z u (f x)
 spec r:=a.spec r
 back f s:=a.back f s
instance {α:Type}{T:OTy α}[a:Opn T]:Opn T.aggr where
 aux:=a.aux
 cells:=a.cells
 own:=a.own
 facts:=a.facts
 spec r:=a.spec r
 back f s:=a.back f s
class Fixd{α:Type}(T:OTy α)(T':outParam (Ty α)):Prop where
 size:T'.size=T.size
 up:∀{Z:FS} {h:zc} {cs:List Value} {x:α},T'.rel Z cs x->T.rel Z h cs x
 down:∀{Z:FS} {h:zc} {cs:List Value} {x:α},T.rel Z h cs x->T'.rel Z cs x
instance {α:Type}{T:Ty α}:Fixd T.o T:=⟨rfl,λr=>r,λr=>r⟩
omit [Dfr] in
instance {α β:Type}{A:OTy α}{B:OTy β}{A':Ty α}{f:Ty β}[a:Fixd A A'] [b:Fixd B f]:Fixd (zbA A B) (zby A' f):=⟨by simp[zbA,zby,a.size,b.size],by
    rintro Z h cs x ⟨c,d,rfl,p,q⟩;exact⟨c,d,zc.none,zc.none,rfl,zc.none_le _,zc.none_le _,zc.none_disj _,a.up p,b.up q⟩,by
    rintro Z h cs x ⟨c,d,h1,h2,rfl,_,_,_,p,q⟩;exact⟨c,d,rfl,a.down p,b.down q⟩⟩
instance {α β:Type}{T:OTy α}{T':Ty α}{f:β->α}[a:Fixd T T']:Fixd (T.comap f) (T'.comap f):=⟨a.size,λr=>a.up r,λr=>a.down r⟩
instance {α:Type}{T:OTy α}{T':Ty α}[a:Fixd T T']:Fixd T.aggr T'.aggr:=⟨a.size,λr=>a.up r,λr=>a.down r⟩
omit [Dfr] in
theorem Fixd.rels{T':Ty α}[f:Fixd T T']{Z:FS}{xs:List α}:T.rels Z h cs xs↔T'.rels Z cs xs:=by
 constructor
 ·rintro⟨h1,hs,h2,_⟩;exact Ty.rels_of (by rw[h1,f.size]) λi x c=>by rw[f.size];exact f.down (h2 i x c)
 ·intro r;exact⟨by rw[<- f.size];exact T'.rels_len r,λ_=>zc.none,λi x c=>by rw[<- f.size];exact f.up (T'.rels_get i r c),λ_ _ _=>zc.none_disj _,λ_=>zc.none_le _⟩
section
variable {ρ:Type}{n:Nat}{w0:Start}{w:World}{σ0 Z:FS}{p:U3 ρ}{G:ρ->Act->World->Prop}{L:List (Nat×Value)}{b:Nat->Value}{PV PV':List Priv}
variable {P:Program}{ops:Array Oper}{o:Oper}{rest:List Oper}
variable {H:U3 ρ->List (Nat×Value)->FS->List Priv->Prop}{d:Nat}{v:Value}{t t' ty:TypeId}{ps:String}{af:Array Edge}{g:U3 (Nat×Bool)}
variable {x y z:Operand}{k:IntKind}{i j:Int}
theorem Sl.set_same(f:za s i=D q):s.set i q=s:=by
 let⟨h0,h1⟩:=yP.1 f;unfold Sl.set;let⟨l,c⟩:=UC.1 h1;rw[<- c,List.set_getElem_self]
omit [Dfr] in
theorem zn0.nil:zn0 T Z h [] []:=⟨OTy.rels_nil,rfl,je⟩
theorem OTy.rels_single{x:α}(r:T.rel Z h cs x):T.rels Z h cs [x]:=by
 have c:=T.len r;refine⟨by simp[c],λi=>if i=0 then h else zc.none,λi y f=>?_,λi j l=>?_,λi=>?_⟩
 ·cases i with
  |zero=>
   grind
  |succ i=>simp at f
 ·show zc.disj (if i=0 then h else zc.none) (if j=0 then h else zc.none);split<;>split
  ·omega
  ·exact zc.disj_none _
  ·exact zc.none_disj _
  ·exact zc.none_disj _
 ·show zc.le (if i=0 then h else zc.none) h;split
  ·exact .refl _
  ·exact zc.none_le _
theorem wo{lo hi:Int}(h:z7 s lo hi=D s'):0<=lo/\lo<=hi/\hi<=s.xs.length/\s'=⟨(s.xs.take hi.toNat).drop lo.toNat,s.nn⟩:=by
 unfold z7 at h;grind
def YT(L:List (Nat×Value))(b:Nat->Value)(x:U3 Operand)(dflt i:Int):Prop:=
 match x with
 |none=>i=dflt
 |some x=>∃k,opv L b x = .int k i
theorem YG {w:World}{isS:Bool}{c:Nat}{i j:Int}(l:YT L b lo 0 i) (B:YT L b hi (m:Int) j) (h0:0<=i) (h1:i<=j) (h2:j<=c) :
    (qQ isS m c (lo.map (opv L b)) (hi.map (opv L b)) E).run P w = .ok (i.toNat,j.toNat,c) w:=by
 unfold qQ;cases hi with
 |none=>
  simp only[YT] at B;subst B;cases lo with
  |none=>simp only[YT] at l;subst l;simp
  |some lo=>
   let⟨kk,l⟩:=l;have hb:=λf=>run_sliceBound (P:=P) w kk i m f h0 h1
   simp[l,hb]
 |some hi=>
  let⟨K,B⟩:=B;have C:=λf=>run_sliceBound (P:=P) w K j c f Zc h2
  cases lo with
  |none=>simp only[YT] at l;subst l;simp[B,C]
  |some lo=>
   let⟨kk,l⟩:=l;have hb:=λf=>run_sliceBound (P:=P) w kk i j.toNat f h0 Zc
   simp[l,B,hb,C]
theorem zho {τ:FS}{T:Ty α}{i j:Int}(hu:P.underlying t=D (.slice e)) (R:P.info? e=D ti) (hz:ti.size=T.size)
    (hx:opv L b x=v) (hv:(tSl T).vrel τ v s) (hl:YT L b lo 0 i) (hh:YT L b hi s.len j) (hs:z7 s i j=D s') :
    zzW P Z PV L b ⟨D d,.slice t x lo hi E,ty,ps,af,g⟩ (λu=>(tSl T).vrel τ u s'):=by
 obtain⟨h1,h2,h3,rfl⟩:=wo hs;obtain⟨a,m,c,rfl,k1,k2,k3,k4,k5,cells,k6,k7⟩:=YS.1 hv;refine⟨.slice (if(c:Int)=i then a else a.map (·.add (i.toNat * T.size))) (j - i).toNat (c - i.toNat),?_,λw _=>?_⟩
 · refine YS.2 ⟨_,_,_,rfl,?_,?_,?_,?_,?_,(cells.take (j.toNat * T.size)).drop (i.toNat * T.size),?_,?_⟩
   ·grind
   ·grind
   ·omega
   ·omega
   · intro f;have:a=none:=by split at f<;>simpa using f
     grind
   ·exact T.rels_drop _ (T.rels_take _ k6)
   · intro q u B;rw[Di] at B;have l:i.toNat * T.size+q < j.toNat * T.size:=by
       grind
     rw[Dh l] at B;obtain⟨ad,rfl,hc⟩:=k7 _ _ B;have C:¬ (c:Int)=i:=by
      grind
     refine⟨ad.add (i.toNat * T.size),by simp[C],?_⟩;rw[Addr.add_add];exact hc
 · have hb:=YG (P:=P) (w:=w) (isS:=true) (m:=m) (c:=c) hl (by rw[k1];exact hh) h1 h2 Zc;have K:(U t (.slice a m c) (lo.map (opv L b)) (hi.map (opv L b)) E).run P w = .ok (.slice (if(c:Int)=i then a else a.map (·.add (i.toNat * T.size))) (j - i).toNat (c - i.toNat)) w:=by
     unfold U qH;simp only[UW,UV hu,UX];simp only[UW,UX,hb,sizeOf,typeInfo,UY,R,UU,hz];rw[(Zc:j.toNat - i.toNat=(j - i).toNat)];grind
   simp only[execOp,hx,UW,K,UX,UU,qx]
theorem zn2{s:ByteArray}{i c:Int}(h:Zg s i=D c):0<=i/\∃u:UInt8,s.data.toList[i.toNat]?=D u/\c=u.toNat:=by
 unfold Zg at h;split at h
 ·rename_i h0;cases f:s.data.toList[i.toNat]? with
  |none=>grind
  |some u=>grind
 ·cases h
theorem zhp {s:ByteArray}{c:Int}(R:P.underlying t=D .string) (C:opv L b x = .string s) (hy:opv L b y = .int k i) (K:Zg s i=D c) :
    z8 P Z PV L b ⟨D d,.index t x y,ty,ps,af,g⟩ (.int .u8 c):=λw _=>by
 obtain⟨h0,u,h1,rfl⟩:=zn2 K;have l:(s[i.toNat]?:U3 UInt8)=D u:=by
  rw[<- h1];let⟨B,_⟩:=UC.1 h1;have f:i.toNat < s.size:=by simpa using B
  rw[getElem?_pos s i.toNat f,UJ B];rfl
 simp[execOp,C,hy,Instr.index,asIntOf,UV R,h0,l]
theorem zio(s u:ByteArray):(s.toList == u.toList)=decide (s=u):=by
 rw[ByteArray.toList_eq,ByteArray.toList_eq];by_cases h:s=u
 ·subst h;simp
 ·have hd:¬ s.data=u.data:=λe=>h (by cases s;cases u;grind)
  simp[h,hd]
theorem zxT{s u:ByteArray}(c:opv L b x = .string s)(f:opv L b y = .string u):z8 P Z PV L b ⟨D d,.binOp .eql t x y t',ty,ps,af,g⟩ (.bool (decide (s=u))):=λw _=>by
 simp[execOp,c,f,eqGuard,binOp,qI,<- zio]
theorem zxU{s u:ByteArray}(c:opv L b x = .string s)(f:opv L b y = .string u):z8 P Z PV L b ⟨D d,.binOp .neq t x y t',ty,ps,af,g⟩ (.bool (decide (s≠u))):=λw _=>by
 have:(decide (s≠u)) = !decide (s=u):=jE
 rw[this,<- zio];simp[execOp,c,f,eqGuard,binOp,qI]
theorem zko{s s':ByteArray}{lo hi:Int}(h:ZI s lo hi=D s'):0<=lo/\lo<=hi/\hi<=s.size/\s'=s.extract lo.toNat hi.toNat:=by
 unfold ZI at h;grind
theorem zhq {s s':ByteArray}{i j:Int}(K:P.underlying t=D .string)
    (l:opv L b x = .string s) (B:YT L b lo 0 i) (C:YT L b hi s.size j) (hs:ZI s i j=D s') :
    z8 P Z PV L b ⟨D d,.slice t x lo hi E,ty,ps,af,g⟩ (.string s'):=λw _=>by
 obtain⟨h1,h2,R,rfl⟩:=zko hs;have hb:=YG (P:=P) (w:=w) (isS:=false) (m:=s.size) (c:=s.size) B C h1 h2 R;have f:(U t (.string s) (lo.map (opv L b)) (hi.map (opv L b)) E).run P w = .ok (.string (s.extract i.toNat j.toNat)) w:=by
  unfold U qH;simp only[UW,UV K,UX];simp[UX,hb]
 simp only[execOp,l,UW,f,UX,UU,qx]
def fieldsOf(d:TypeDesc):Array Field:=
 match d with
 | .struct fs=>fs
 |_=> #[]
def zae(f:List (Nat×Nat)):List Value->List (Nat×List Value)->U3 (List Value)
 |cs,[]=>D cs
 |cs,(i,c)::r=>match f[i]? with
  |none=>E
  |some (off,size)=>bif qK c.length size && qB (off+c.length) cs.length then zae f (cs.take off++c++cs.drop (off+c.length)) r else E
def zc6:List (Nat×Value)->List (Nat×List Value)->Prop
 |[],[]=>True
 |(i,v)::r,(j,c)::s=>i=j/\v.cells.toList=c/\zc6 r s
 |_,_=>False
theorem zkp (l:List (Nat×Nat)):∀(ps:List (Nat×Value)) (f:List (Nat×List Value)) (cs:Array Value) (r:List Value),zc6 ps f->zae l cs.toList f=D r->
    V (λi=>l[i]?) cs ps=D r.toArray
 |[],[],cs,r,_,h=>by simp[zae] at h;simp[V,<- h]
 |(i,v)::ps,(j,c)::f,cs,r,⟨e1,e2,e3⟩,h=>by
   subst e1;subst e2;simp only[zae] at h;simp only[V];cases hp:l[i]? with
   |none=>grind
   |some q=>
    let⟨off,size⟩:=q;rw[hp] at h;simp only at h |-
    cases B:(qK v.cells.toList.length size && qB (off+v.cells.toList.length) cs.toList.length) with
    |false=>grind
    |true=>
     rw[B] at h;simp only[gf] at B;have h1:v.cells.toList.length=size:=ge B.1;have h2:off+v.cells.toList.length<=cs.toList.length:=Dg B.2;have C:=zim v.cells.toList cs off 0 jE;rw[jx jE];have e0:(v.cells.zipIdx.foldl (λcs (x:Value×Nat)=>cs.setIfInBounds (off+x.2) x.1) cs)=(cs.toList.take off++v.cells.toList++cs.toList.drop (off+v.cells.toList.length)).toArray:=by
      apply Array.toList_inj.1;rw[<- qX];grind
     rw[show(v.cells.zipIdx.foldl (λcs x=>match x with | (c,j)=>cs.setIfInBounds (off+j) c) cs)=(v.cells.zipIdx.foldl (λcs (x:Value×Nat)=>cs.setIfInBounds (off+x.2) x.1) cs) from rfl,e0];exact zkp l ps f _ r e3 (by simpa using h)
theorem zwg {c:Array (Nat×Operand)}{vs:List (Nat×Value)}{K:List (Nat×List Value)}{B:List (Nat×Nat)}(hu:P.underlying t=D (.struct fs)) (hi:P.info? t=D ti) (hz:ti.zero=D zv)
    (hpl:fs.toList.map (λf=>(P.info? f.type).map λi=>(f.offset,i.size))=B.map D) (hp:(c.toList.map λq=>(q.1,opv L b q.2))=vs) (hc:zc6 vs K) (hf:zae B zv.cells.toList K=D cs) :
    z8 P Z PV L b ⟨D d,.build t c,ty,ps,af,g⟩ (.agg cs.toArray):=λw _=>by
 have hm:∀(l:List Field) (m:List (Nat×Nat)),l.map (λf=>(P.info? f.type).map λi=>(f.offset,i.size))=m.map D->
     (l.mapM (λf=>do pure (f.offset,<- sizeOf f.type):Field->Sem (Nat×Nat))).run P w = .ok m w:=by
  intro l
  induction l with
  |nil=>intro m h;cases m with
   |nil=>simp
   |cons=>simp at h
  |cons f l ih=>
   intro m h;cases m with
   |nil=>simp at h
   |cons q m=>
    simp only[UF,List.cons.injEq] at h;let⟨h1,h2⟩:=h;cases hi:P.info? f.type with
    |none=>grind
    |some ti=>
     rw[hi] at h1;simp only[UB,Option.some.injEq] at h1;have hh:((do pure (f.offset,<- sizeOf f.type):Sem (Nat×Nat))).run P w = .ok q w:=by simp[UW,sizeOf,typeInfo,hi,h1]
     rw[List.mapM_cons,UW,hh];simp only[UX,UW,ih m h2,UU]
 have R:(fs.mapM (λf=>do pure (f.offset,<- sizeOf f.type):Field->Sem (Nat×Nat))).run P w = .ok B.toArray w:=by
  rw[Array.mapM_eq_mapM_toList];have h2:=hm _ _ hpl;have h3:∀(s:Sem (List (Nat×Nat))) m,s.run P w = .ok m w->(List.toArray <$> s).run P w = .ok m.toArray w:=by
   intro s m hs;show(s.bind (λa=>Sem.pure a.toArray)).run P w=_;have:=UW (P:=P) (w:=w) s (λa=>(pure a.toArray:Sem (Array (Nat×Nat))));refine Eq.trans this ?_;rw[hs];simp
  grind
 have hpa:(c.map λ(q:Nat×Operand)=>(q.1,opv L b q.2)).toList=vs:=by rw[qU];exact hp
 have C:=zkp B vs K zv.cells cs hc hf;have:(qT t (c.map λq=>(q.1,opv L b q.2))).run P w = .ok (.agg cs.toArray) w:=by
  unfold qT;simp only[UW,zeroValue,typeInfo,UY,UX,hi,UU,hz,UV hu,R,hpa];rw[show(λi=>B.toArray[i]?)=λi=>B[i]? by funext i;simp];simp[C]
 simp only[execOp,UW,this,UX,UU]
theorem zwh {f:Field}{cs':List Value}(hu:P.underlying t=D (.struct fs)) (hf:fs[m]?=D f) (K:P.underlying f.type=D td) (hi:P.info? f.type=D ti)
    (R:opv L b x = .agg cs.toArray) (C:(cs.drop f.offset).take ti.size=cs') (hl:cs'.length=ti.size) (h1:Zh td=I->ti.size=1) (B:yF (Zh td) cs'=v) :
    z8 P Z PV L b ⟨D d,.field t x m,ty,ps,af,g⟩ v:=λw _=>by
 have l:(Go.isAgg f.type).run P w=Result.ok (Zh td) w:=by
  unfold Go.isAgg;rw[UW,UV K];cases td<;>rfl
 have:(qR t (.agg cs.toArray) m).run P w = .ok v w:=by
  unfold qR;simp only[UW,UV hu,UX,hf,asAgg,UU,part,l];subst C;cases hd:Zh td with
  |true=>
   rw[hd] at B;subst B;simp[UW,sizeOf,typeInfo,hi,yF]
  |false=>
   rw[hd] at B;have h1':=h1 hd;rw[h1'] at hl B;have:cs[f.offset]?=D v:=by
    rw[<- B];have c:f.offset < cs.length:=by
     rcases Nat.lt_or_ge f.offset cs.length with h | h
     all_goals grind
    rw[UJ c];simp only[yF,U8,Dq c,qL,Dr]
   simp[this]
 simp only[execOp,R,UW,this,UX,UU]
theorem zi4{f:IntKind}(l:P.underlying t=D td)(c:P.underlying t'=D (.int f))(B:opv L b x = .int k i):z8 P Z PV L b ⟨D d,.convert t t' x,ty,ps,af,g⟩ (.int f (f.wrap i)):=λw _=>by
 simp[execOp,B,convert,UV l,UV c,Conv.intToInt]
end
end
section
variable [Dfr]
def ZZ(T:OTy α)(off:Nat)(Tf:Ty β)(c:α->β):Prop:=∀Z h cs x,T.rel Z h cs x->Tf.rel Z ((cs.drop off).take Tf.size) (c x)
omit [Dfr] in
theorem ZZ.of{T:Ty α}{Tf:Ty β}{c:α->β}(f:XQ T off Tf c):ZZ T.o off Tf c:=λZ h cs x r=>f Z cs x r
theorem ZZ.self{T':Ty α}[f:Fixd T T']:ZZ T 0 T' id:=λZ h cs x r=>by
 have:=T'.len (f.down r);simp only[Ds,id];rw[<- this,Dt];exact f.down r
omit [Dfr] in
theorem ZZ.fst{A:OTy α}{B:OTy β}{l:α->γ}(f:ZZ A off Tf l)(C:off+Tf.size<=A.size):ZZ (zbA A B) off Tf (λx=>l x.1):=by
 rintro Z h cs x ⟨c,d,h1,h2,rfl,_,_,_,p,q⟩;have:=A.len p;rw[qP Zc,qC ji];exact f Z h1 c x.1 p
omit [Dfr] in
theorem ZZ.snd{A:OTy α}{B:OTy β}{l:β->γ}(f:ZZ B off Tf l):ZZ (zbA A B) (A.size+off) Tf (λx=>l x.2):=by
 rintro Z h cs x ⟨c,d,h1,h2,rfl,_,_,_,p,q⟩;have:=A.len p;rw[<- this,<- qo,qF];exact f Z h2 d x.2 q
omit [Dfr] in
theorem ZZ.comap{c:α->γ}{g:β->α}(f:ZZ T off Tf c):ZZ (T.comap g) off Tf (λx=>c (g x)):=λZ h cs x r=>f Z h cs (g x) r
section
variable {ρ:Type}{n:Nat}{w0:Start}{w:World}{σ0 Z:FS}{p:U3 ρ}{G:ρ->Act->World->Prop}{L:List (Nat×Value)}{b:Nat->Value}{PV PV':List Priv}
variable {P:Program}{ops:Array Oper}{o:Oper}{rest:List Oper}
variable {H:U3 ρ->List (Nat×Value)->FS->List Priv->Prop}{d:Nat}{v:Value}{t t' ty:TypeId}{ps:String}{af:Array Edge}{g:U3 (Nat×Bool)}
variable {x y z:Operand}{k:IntKind}{i j:Int}
omit [Dfr] in
theorem HeldOK.view{c:FS}{f:List Priv}(l:HeldOK c f Z PV)(B:∀h,Sep Z PV' h->Sep Z PV h):HeldOK c f Z PV':=⟨l.le,λh k=>l.all h (B h k)⟩
theorem za9 {Tf:Ty β}{c:α->β}(hr:zn T e v s Z h) (hs:h.sub w) (hq:za s i=D q) (hf:ZZ T off Tf c) (hoff:off+Tf.size<=T.size) :
    ∃cs,Tf.rel Z cs (c q)/\∀(j:Nat) (u:Value),cs[j]?=D u->w.cell? ((zi v (i.toNat * T.size+off)).add j)=D u:=by
 have hlt:=za7 hq;rcases hr with⟨_,rfl⟩ | ⟨_,_,rfl⟩ | ⟨gb,cap,cur,hb,gg,rfl,r2,r3,r4,r5,r0,r6,r7,r8,r9,B⟩
 ·grind
 ·grind
 let⟨k1,hs',k2,k3,k4⟩:=B;have K:=k2 i.toNat q (yP.1 hq).2;have f:=hf Z _ _ _ K;have hlen:=Tf.len f;refine⟨_,f,λj u C=>?_⟩;have l:j < Tf.size:=by
  grind
 rw[Dh l,Di,Dh Zc,Di] at C;have R:i.toNat * T.size+(off+j) < s.xs.length * T.size:=by
  grind
 rw[Dh R] at C;simp only[zi,Addr.add_add];rw[(Zc:i.toNat * T.size+off+j=i.toNat * T.size+(off+j))];rw[Addr.add_eq _ rfl];simpa using hs.cell (r0 _ _ _ (r7 _ _ C))
theorem vX{a:Addr}(c:opv L b x = .pointer (D a)):z8 P Z PV L b ⟨D d,.nilCheck x,ty,ps,af,g⟩ (.pointer (D a)):=λw _=>by
 simp[execOp,c]
theorem zcU{w:World}(c:P.underlying t=D (.pointer e)):(qy t (.pointer a) (.pointer E)).run P w = .ok (a.isNone) w:=by
 have key:∀d,(S (d+1) t (.pointer a) (.pointer E)).run P w = .ok (a.isNone) w:=λd=>by
  cases a<;>simp[S,UV c]
 exact key 9999
theorem zmz(f:P.underlying t=D (.pointer e))(l:opv L b x = .pointer a)(B:opv L b y = .pointer E){r:Bool}(c:a.isNone=r):z8 P Z PV L b ⟨D d,.binOp .eql t x y t',ty,ps,af,g⟩ (.bool r):=λw _=>by
 subst c;simp[execOp,l,B,eqGuard,binOp,zcU f]
theorem zmA(f:P.underlying t=D (.pointer e))(l:opv L b x = .pointer a)(B:opv L b y = .pointer E){r:Bool}(c:(!a.isNone)=r):z8 P Z PV L b ⟨D d,.binOp .neq t x y t',ty,ps,af,g⟩ (.bool r):=λw _=>by
 subst c;simp[execOp,l,B,eqGuard,binOp,zcU f]
theorem zkq {e':TypeId}{kk:Sl α->U3 ρ}(m:Nat) (hn:O d n=F) (hu:P.underlying t=D (.slice e)) (hi':P.info? e=D ti) (hz:ti.size=T.size)
    (hx:opv L b x=v) (hm:PV[m]?=D (.row T e' v s)) (hl:YT L b lo 0 0) (hh:YT L b hi s.len j)
    (h:∀s' v',z7 s 0 j=D s'->H (kk s') ((d,v')::L) Z (PV.set m (.row T e' v' s'))) :
    Xl P n w0 σ0 ⟨D d,.slice t x lo hi E,ty,ps,af,g⟩ ((z7 s 0 j).bind kk) L b Z PV H:=by
 intro r hp a w hinv hft K Q hK;cases hg:z7 s 0 j with
 |none=>grind
 |some s'=>
  rw[hg] at hp;obtain⟨h1,h2,h3,rfl⟩:=wo hg;let⟨hh0,hr,hsub⟩:=hinv.held.get hm;obtain⟨a0,c,rfl,k2,k3,k3',k4,k5⟩:=zn.form hr;have hb:=YG (P:=P) (w:=w) (isS:=true) (m:=s.xs.length) (c:=c) hl hh (by omega) h2 (by omega);have hs2:(U t (.slice a0 s.xs.length c) (lo.map (opv L b)) (hi.map (opv L b)) E).run P w = .ok (.slice a0 j.toNat c) w:=by
   unfold U qH;simp only[UW,UV hu,UX];simp only[UW,UX,hb,sizeOf,typeInfo,UY,hi',UU,hz];cases a0 with
   |none=>grind
   |some a0=> by_cases hc0:c=0
              ·grind
              ·rw[jx (by simp;omega)];simp[Addr.add]
  have hrun:(execOp a.eval ⟨D d,.slice t x lo hi E,ty,ps,af,g⟩).run P w = .ok (.value (.slice a0 j.toNat c)) w:=by
   rw[hft.eval];simp only[execOp,hx,UW,hs2,UX,UU,qx]
  unfold qb;rw[hrun,qc];refine hK _ _ Z _ _ w hp (hinv.change hm (p' :=.row T e' (.slice a0 j.toNat c) ⟨(s.xs.take j.toNat).drop (0:Int).toNat,s.nn⟩) λg1 hg1 hs1=>⟨g1,?_,hs1,.refl w g1,λb i hx =>.inl hx⟩) (hft.put (by simpa[Da] using hn) _) (h _ _ hg);have hg1:zn T e' (.slice a0 s.xs.length c) s Z g1:=hg1;have hj:j.toNat<=s.xs.length:=by omega
  have hlen:(s.xs.take j.toNat).length=j.toNat:=by simp;omega
  rcases hg1 with⟨q1,rfl⟩ | ⟨aq,q1,rfl⟩ | ⟨gb,cap,cur,hb',gg,q1,r2,r3,r4,r5,r0,r6,r7,r8,r9,r10⟩
  · obtain⟨rfl, -,rfl⟩:a0=E/\_/\c=0:=by injection q1 with a1 a2 a3;exact⟨a1,a2,a3⟩
    grind
  · obtain⟨rfl, -,rfl⟩:a0=D aq/\_/\c=0:=by injection q1 with a1 a2 a3;exact⟨a1,a2,a3⟩
    grind
  · obtain⟨rfl, -,rfl⟩:a0=D ⟨gb,0,E⟩/\_/\c=cap:=by injection q1 with a1 a2 a3;exact⟨a1,a2,a3⟩
    refine .inr (.inr ⟨gb,c,cur,hb',gg,by simp[hlen],r2,by grind,r4,r5,r0,r6,r7,r8,r9,?_⟩);have:=OTy.rels_take j.toNat r10;simp only[Int.toNat_zero,Ds,hlen]
    rwa [W,Dm (Dk _ hj)] at this
def Yi(P:Program)(t:TypeId)(d:Nat)(x y:Value)(r:Bool):Prop:=∀m w,(S (m+d) t x y).run P w = .ok r w
omit [Dfr] in
theorem Yi.int(c:P.underlying t=D (.int k)):Yi P t 1 (.int k i) (.int k j) (decide (i=j)):=λm w=>by
 have:(i == j)=decide (i=j):=jE
 simp[S,UV c,this]
omit [Dfr] in
theorem Yi.bool{e q:Bool}(c:P.underlying t=D .bool):Yi P t 1 (.bool e) (.bool q) (decide (e=q)):=λm w=>by
 have:(e == q)=decide (e=q):=jE
 simp[S,UV c,this]
omit [Dfr] in
theorem Yi.str{s u:ByteArray}(c:P.underlying t=D .string):Yi P t 1 (.string s) (.string u) (decide (s=u)):=λm w=>by
 have:(s == u)=decide (s=u):=by
  show ByteArray.beq s u=_;cases s with | mk s=>cases u with | mk u=>
  by_cases h:s=u
  ·subst h;simp[ByteArray.beq]
  ·simp[h,ByteArray.beq]
 simp[S,UV c,this]
def zkr(P:Program)(xs ys:Array Value)(d:Nat):List Field->Bool->Prop
 |[],r=>r=F
 | f :: fs, r => ∃ u v r1 r2, (∀ w, (part f.type xs f.offset).run P w = .ok u w) /\ (∀ w, (part f.type ys f.offset).run P w = .ok v w) /\ f.name ≠ "_" /\ Yi P f.type d u v r1 /\ zkr P xs ys d fs r2 /\ r = (r1 && r2)
omit [Dfr] in
theorem zkr.run{d:Nat}:∀{fs:List Field}{r:Bool},zkr P xs ys d fs r->∀m w,(qA (m+d) xs ys fs).run P w = .ok r w
 |[],r,h,m,w=>by rw[show r=F from h];simp[qA]
 |f::fs,r,⟨u,v,r1,r2,h1,h2,h3,h4,h5,h6⟩,m,w=>by
  subst h6;have:=zkr.run h5 m w;cases r1<;>simp[qA,h3,h1 w,h2 w,h4 m w,this]
omit [Dfr] in
theorem Yi.struct{d:Nat}{r:Bool}(c:P.underlying t=D (.struct fs))(hp:P.stoodInHeld t=I)(h:zkr P xs ys d fs.toList r):Yi P t (d+1) (.agg xs) (.agg ys) r:=λm w=>by
 have f:P.fieldsOf t=fs:=by simp[Program.fieldsOf,c]
 rw[(Zc:m+(d+1)=(m+d)+1),run_equalIn_struct w (m+d) t xs ys jE hp,f];exact h.run m w
omit [Dfr] in
theorem Yi.mono{d c:Nat}{r:Bool}(h:Yi P t d v u r)(hd:d<=c):Yi P t c v u r:=λm w=>by
 have:=h (m+(c - d)) w;grind
theorem zks {cs':List Value}(C:P.underlying t=D td) (hi:P.info? t=D ti)
    (B:(cs.drop off).take ti.size=cs') (K:cs'.length=ti.size) (h1:Zh td=I->ti.size=1) (l:yF (Zh td) cs'=v):∀w,(part t cs.toArray off).run P w = .ok v w:=λw=>by
 have f:(Go.isAgg t).run P w=Result.ok (Zh td) w:=by
  unfold Go.isAgg;rw[UW,UV C];cases td<;>rfl
 simp only[part,UW,f,UX];subst B;cases hd:Zh td with
 |true=>
  rw[hd] at l;subst l;simp[UW,sizeOf,typeInfo,hi,yF]
 |false=>
  rw[hd] at l;have h1':=h1 hd;rw[h1'] at K l;have:cs[off]?=D v:=by
   rw[<- l];have c:off < cs.length:=by
    grind
   rw[UJ c];simp only[yF,U8,Dq c,qL,Dr]
  simp[this]
theorem zkt{c:Nat}{r:Bool}(l:P.eqGuardType P.depth t=I)(f:opv L b x = .agg xs)(B:opv L b y = .agg ys)(hd:c<=10000)(h:Yi P t c (.agg xs) (.agg ys) r):z8 P Z PV L b ⟨D d,.binOp .eql t x y t',ty,ps,af,g⟩ (.bool r):=λw _=>by
 have:=h (10000 - c) w;rw[(Zc:10000 - c+c=10000)] at this;have h2:(qy t (.agg xs) (.agg ys)).run P w = .ok r w:=this;simp[execOp,f,B,eqGuard,l,binOp,h2]
theorem zku{c:Nat}{r:Bool}(l:P.eqGuardType P.depth t=I)(f:opv L b x = .agg xs)(B:opv L b y = .agg ys)(hd:c<=10000)(h:Yi P t c (.agg xs) (.agg ys) r):z8 P Z PV L b ⟨D d,.binOp .neq t x y t',ty,ps,af,g⟩ (.bool !r):=λw _=>by
 have:=h (10000 - c) w;rw[(Zc:10000 - c+c=10000)] at this;have h2:(qy t (.agg xs) (.agg ys)).run P w = .ok r w:=this;simp[execOp,f,B,eqGuard,l,binOp,h2]
end
end
section
variable [Dfr]
section
variable {ρ:Type}{n:Nat}{w0:Start}{σ0 Z:FS}{p:U3 ρ}{L:List (Nat×Value)}{b:Nat->Value}{PV:List Priv}{P:Program}{Q:ρ->Exit->Act->World->Prop}
end
end
section
variable [Dfr]
end
section
variable [Dfr]
section
variable {ρ:Type}{n:Nat}{w0:Start}{w:World}{σ0 Z:FS}{L:List (Nat×Value)}{b:Nat->Value}{PV PV':List Priv}{P:Program}
def ZU(tmps:Array Value):ResultVar->Sem Value
 | .tmp t=>pure (tmps.getD t undef)
 | .cell a t=>do loadVar t (<- asAddr (tmps.getD a undef))
theorem zmB{fn:Func}(h:fn.results = #[r1])(h1:(ZU tmps r1).run P w = .ok v1 w):(results fn tmps).run P w = .ok v1 w:=by
 have e:results fn tmps=(do let v <- ZU tmps r1;pure v):=by
  cases r1<;>simp[results,h,ZU]
 grind
theorem zmC {fn:Func}(h:fn.results = #[r1,r2]) (h1:(ZU tmps r1).run P w = .ok v1 w) (h2:(ZU tmps r2).run P w = .ok v2 w) :
    (results fn tmps).run P w = .ok (.tuple #[v1,v2]) w:=by
 have e:results fn tmps=(do let v <- ZU tmps r1;let u <- ZU tmps r2;pure (.tuple #[v,u])):=by
  cases r1<;>cases r2<;>simp[results,h,ZU]
 rw[e];simp[h1,h2]
theorem zmD {fn:Func}{c:ResultVar}{v3:Value}(h:fn.results = #[r1,r2,c]) (h1:(ZU tmps r1).run P w = .ok v1 w) (h2:(ZU tmps r2).run P w = .ok v2 w) (f:(ZU tmps c).run P w = .ok v3 w) :
    (results fn tmps).run P w = .ok (.tuple #[v1,v2,v3]) w:=by
 have e:results fn tmps=(do let v <- ZU tmps r1;let u <- ZU tmps r2;let z <- ZU tmps c;pure (.tuple #[v,u,z])):=by
  cases r1<;>cases r2<;>cases c<;>simp[results,h,ZU]
 rw[e];simp[h1,h2,f]
theorem zmE {fn:Func}{c f:ResultVar}{v3 v4:Value}(h:fn.results = #[r1,r2,c,f]) (h1:(ZU tmps r1).run P w = .ok v1 w) (h2:(ZU tmps r2).run P w = .ok v2 w) (B:(ZU tmps c).run P w = .ok v3 w) (l:(ZU tmps f).run P w = .ok v4 w) :
    (results fn tmps).run P w = .ok (.tuple #[v1,v2,v3,v4]) w:=by
 have e:results fn tmps=(do let v <- ZU tmps r1;let u <- ZU tmps r2;let z <- ZU tmps c;let y <- ZU tmps f;pure (.tuple #[v,u,z,y])):=by
  cases r1<;>cases r2<;>cases c<;>cases f<;>simp[results,h,ZU]
 rw[e];simp[h1,h2,B,l]
theorem zmF{fn:Func}(h:fn.results = #[]):(results fn tmps).run P w = .ok (.tuple #[]) w:=by
 simp[results,h]
variable {fn:Func}{post:ρ->FS->List Priv->Value->Prop}{r:ρ}
end
end
section
variable [Dfr]
end
section
variable [Dfr]
section
variable {ρ:Type}{n:Nat}{w0:Start}{σ0 Z:FS}{p:U3 ρ}{L:List (Nat×Value)}{b:Nat->Value}{PV PV':List Priv}{P:Program}
variable {H:U3 ρ->List (Nat×Value)->FS->List Priv->Prop}{d:Nat}{v:Value}{t t' ty:TypeId}{ps:String}{af:Array Edge}{g:U3 (Nat×Bool)}{x y:Operand}{k:IntKind}{i:Int}
end
end
section
variable [Dfr]
section
variable {ρ:Type}{n:Nat}{w0:Start}{σ0 Z:FS}{p:U3 ρ}{L:List (Nat×Value)}{b:Nat->Value}{PV PV':List Priv}{P:Program}
theorem Inv.past{w w':World}{τ B:FS}{A':List Priv}(hi:Inv w0 σ0 Z PV w)(c:Z.le τ)(k:Inv ⟨w,zc.none⟩ τ B A' w'):Inv w0 σ0 Z PV w':=by
 let⟨h,hs,l⟩:=hi.own;have f:Inv ⟨w,zc.none⟩ Z Z [] w':=⟨(c.trans k.le).sub k.sub,.refl Z,λ_ _ _ e =>.inl e,⟨zc.none,Sep.nil,λ_ _ _ (e:(none:U3 Bit)=D _)=>(by cases e),λ_ _ (e:(none:U3 Bit).isSome=F)=>by simp at e,λ_ _ (e:(none:U3 Bit).isSome=F)=>by simp at e⟩,k.ext⟩;exact hi.call (A':=[]) (C:=PV) (h1:=zc.none) (h2:=h) l hs (zc.none_le _) (.refl _) (zc.none_disj _) f
def vD(v:Value)(i j:Int)(size:Nat):Value:=
 match v with
 | .slice a _ c =>.slice (if(c:Int)=i then a else a.map (·.add (i.toNat * size))) (j - i).toNat (c - i.toNat)
 |v=>v
end
end
section
variable [Dfr]
section
variable {ρ:Type}{n:Nat}{w0:Start}{σ0 Z:FS}{p:U3 ρ}{L:List (Nat×Value)}{b:Nat->Value}{PV PV':List Priv}{P:Program}
variable {H:U3 ρ->List (Nat×Value)->FS->List Priv->Prop}{d:Nat}{v:Value}{t ty:TypeId}{ps:String}{af:Array Edge}{g:U3 (Nat×Bool)}{x:Operand}
end
end
section
section
variable {P:Program}{w0:Start}{σ0 Z:FS}{PV:List Priv}{w:World}
def Priv.obj(r:Nat)(o:Obj):Priv:=⟨λ_ h=>h r 0=D (.obj o),λ_ l e=>l _ _ _ e⟩
def Xf(r:Nat)(o:Obj):zc:=λb k=>if b=r/\k=0 then D (.obj o) else E
theorem zf1{r:Nat}{o:Obj}{b k:Nat}(h:(Xf r o b k).isSome=F):b=r/\k=0:=by
 unfold Xf at h;grind
theorem zeZ{r:Nat}{o:Obj}(c:xv o=I)(hb:w.heap[r]?=D o):(Xf r o).sub w:=λb k x e=>by
 unfold Xf at e;split at e
 ·rename_i h;cases e;obtain⟨rfl,rfl⟩:=h;exact⟨hb,rfl,c⟩
 ·cases e
theorem Inv.newObj{o:Obj}(c:xv o=I)(hi:Inv w0 σ0 Z PV w):Inv w0 σ0 Z (.obj w.heap.size o::PV) (w.alloc o):=by
 refine hi.cons (h1:=Xf w.heap.size o) (by show Xf _ _ _ _=_;simp[Xf]) (zeZ c (Ya _ _)) ⟨rfl,rfl,rfl,je,λb =>.same λhb=>zac _ _ _ hb,λa f _=>World.frozen?_alloc_old w _ a Zc⟩ λb i hb=>by rw[(zf1 hb).1];grind
theorem Inv.setObj{r:Nat}{o o':Obj}(ho:xv o=I)(C:xv o'=I)(hm:PV[m]?=D (.obj r o))(hi:Inv w0 σ0 Z PV w):Inv w0 σ0 Z (PV.set m (.obj r o')) {w with heap:=w.heap.setIfInBounds r o' }:=by
 refine hi.change hm λh1 K hs=>?_
 have K:h1 r 0=D (.obj o):=K;have hb:w.heap[r]?=D o:=(hs r 0 _ K).1;let⟨k1,k2⟩:=MapKept.heap_set (o':=o') hb;have B:∀a:Addr,qs {w with heap:=w.heap.setIfInBounds r o' } a=w.frozen? a:=λa=>by
  unfold qs;by_cases e:a.block=r
  ·rw[e];show(match(w.heap.setIfInBounds r o')[r]? with | some (.cells _ _ (lo,hi))=>decide (lo<=a.off) && decide (a.off < hi) | _=>I)=_;rw[k1,hb];have fz0:∀(x:Obj),xv x=I->(match D x with | some (.cells _ _ (lo,hi))=>decide (lo<=a.off) && decide (a.off < hi) | _=>I)=false:=λx l=>by
    cases x<;>first | rfl | (exact absurd l (by simp[xv]))
   grind
  ·show(match(w.heap.setIfInBounds r o')[a.block]? with | some (.cells _ _ (lo,hi))=>decide (lo<=a.off) && decide (a.off < hi) | _=>I)=_;grind
 refine⟨Xf r o',by show Xf _ _ _ _=_;simp[Xf],zeZ C k1,⟨rfl,rfl,rfl,je,λb=>?_,λa _ _=>B a⟩,λb i l=>?_⟩
 ·by_cases e:b=r
  ·subst e;refine⟨λc e f R=>?_,λx l hn=>?_⟩
   ·rw[hb] at R;cases R;cases ho
   grind
  ·exact .same λ_=>k2 b e
 ·obtain⟨rfl,rfl⟩:=zf1 l;grind
theorem Inv.objAt{r:Nat}{o:Obj}(B:PV[m]?=D (.obj r o))(hi:Inv w0 σ0 Z PV w):w.heap[r]?=D o:=by
 let⟨g,c,l⟩:=hi.own;let⟨hs,C,K,f⟩:=c;have h1:hs m r 0=D (.obj o):=C m _ B;exact(l.sub r 0 _ (f m _ _ _ h1)).1
end
end
end Go.Px
