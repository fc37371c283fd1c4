/- Part A2. -/
import Derived.Test.YthnflpoohleiaaaGreatDoorA1
import Derived.Laws.StructEq
import Derived.Laws.Pointers
set_option linter.unusedSectionVars false
set_option linter.unusedVariables false
set_option linter.unusedSimpArgs false
namespace Go.Px
open _root_.Array renaming toList_map->qV,range->qW,length_toList->qX,foldl_toList->qY
open Bool renaming true->F,false->I
open Go.Builtin renaming append_->M,lenOf->X,firstCells->Y
open Go.Instr renaming sliceAt->U,fill->V,slice->qH,sliceBounds->qR,field->qS,buildSlice->qT,build->qU
open Go.Op renaming equalIn->S,equal->qy,eqFields->qA,stringOp->qI
open Go.Oper renaming wp->qb,upon_value->qc
open Go.World renaming frozen?->qs,alloc->qv
open List renaming replicate->N,take_take->W,drop_take->qk,drop_drop->qo,take_of_length_le->qC,take_append_of_le_length->qD,getElem?_take->qE,drop_left->qF,drop->qG,take_succ_cons->qL,take->qM,size_toArray->qN,replicate_append_replicate->qO,flatten_append->qP,drop_append_of_le_length->qQ
open Nat renaming blt->O,ble->qB,min_eq_right->qJ,beq->qK
open _root_.Option renaming some->D,none->E,map_none->qx
variable{A:List Priv}{a:Uv Addr}{cs:List Value}{e:TypeId}{fs:Array Field}{h:zc}{hi lo:Uv Operand}{m off:Nat}{r1 r2:ResultVar}{td:TypeDesc}{ti:TypeInfo}{tmps xs ys:Array Value}{u v1 v2 zv:Value}{α β γ:Type}{T:OTy α}{Tf:Ty γ}{q:α}{s s':Sl α}
section
theorem Dl:∀{α:Type _}{l:List α},qM l.length l=l:=@List.take_length
theorem Dk:∀{α:Type _}{l:List α},qG 0 l=l:=@List.drop_zero
theorem Dj:∀{α:Type _}{a:α}{l:List α}{d:α},(a::l).headD d=a:=@List.headD_cons
theorem Di:∀{α : Type _} {i : Nat} {l : List α} (h : i < l.length),qG i l = l[i]::qG (i + 1) l:=@List.drop_eq_getElem_cons
theorem Dh:∀{α:Type _}(«as»:List α),[]++«as»=«as»:=@List.nil_append
theorem Dg:(!F)=false:=@Bool.not_true
theorem Df:∀{a b:Nat},a<=b->min a b=a:=@Nat.min_eq_left
theorem De:∀{α:Type _}{i:Nat}{l:List α},(qM i l).length=min i l.length:=@List.length_take
theorem Dd:∀{n m:Nat}(k:Nat),n<=m->n * k<=m * k:=@Nat.mul_le_mul_right
variable [Dfr]
theorem OTy.rels_append{Z:FS}{g g2:zc}{ds:List Value}{xs ys:List α}(r:T.rels Z g cs xs)(s:T.rels Z g2 ds ys)(d:g.disj g2):T.rels Z (g.or g2) (cs++ds) (xs++ys):=by
 let⟨h1,hs,h2,n,a⟩:=r;let⟨m,ks,k,l,c⟩:=s;refine⟨jE,λi=>if i < xs.length then hs i else ks (i - xs.length),λi x b=>?_,λi j e=>?_,λi=>?_⟩
 ·by_cases hi:i < xs.length
  ·rw[UX hi] at b;have f:(i+1) * T.size<=xs.length * T.size:=Dd _ hi;rw[UL] at f;simp only[hi,jq];grind
  ·rw[UW Zd] at b;simp only[hi,jp];have:=k _ x b;have h:i * T.size=cs.length+(i - xs.length) * T.size:=by rw[h1,<- UL];congr 1;omega
   rw[h,<- qo,qF];exact this
 ·show zc.disj (if i < xs.length then hs i else ks (i - xs.length)) (if j < xs.length then hs j else ks (j - xs.length));split<;>split
  ·grind
  ·exact d.mono (a i) (c _)
  ·exact(d.mono (a j) (c _)).symm
  grind
 ·show zc.le (if i < xs.length then hs i else ks (i - xs.length)) _;split
  ·exact(a i).trans (zc.le_or _ _)
  ·exact(c _).trans (zc.le_or_right d)
theorem OTy.rels_take{Z:FS}{g:zc}{xs:List α}(m:Nat)(r:T.rels Z g cs xs):T.rels Z g (cs.take (m * T.size)) (xs.take m):=by
 let⟨h1,hs,h2,c,b⟩:=r
 refine⟨by rw[De,De,h1];rcases Nat.le_total m xs.length with h | h
           ·rw[Df h,Df (Dd _ h)]
           ·rw[qJ h,qJ (Dd _ h)],hs,λi x a=>?_,c,b⟩
 rw[qE] at a;split at a
 ·rename_i hi;have d:(i+1) * T.size<=m * T.size:=Dd _ hi;rw[UL] at d;rw[qk,W,Df Zd];grind
 ·cases a
theorem OTy.rels_replicate{Z:FS}{c:List Value}(h:T.rel Z zc.none c q)(m:Nat):T.rels Z zc.none ((N m c).flatten) (N m q):=by
 have a:=T.len h;refine⟨by simp[a],λ_=>zc.none,λi x d=>?_,λ_ _ _=>zc.none_disj _,λ_ =>.refl _⟩;obtain⟨hi,rfl⟩:i < m/\q=x:=by
  grind
 have:(((N m c).flatten).drop (i * T.size)).take T.size=c:=by
  obtain⟨r,rfl⟩:∃r,m=i+1+r:=⟨m - (i+1),Zd⟩
  have b:((N i c).flatten).length=i * T.size:=by simp[a]
  rw[<- qO,<- qO,qP,qP,UV,<- b,qF];grind
 grind
theorem zsn{w:World}{q:Nat}{cur:List Value}(hs:h.sub w)(h0:h q 0=D (.shape e cur.length))(b:∀(j:Nat) (u:Value),cur[j]?=D u->h q (j+1)=D (.cell u)):w.heap[q]?=D (.cells cur.toArray e (0,0)):=by
 let⟨c,h1,_,i⟩:=hs _ _ _ h0;have:c=cur.toArray:=by
  apply Array.ext_getElem?;intro o;cases a:cur[o]? with
  |none=>
   grind
  |some u=>
   let⟨c',e',o',f,g,d⟩:=hs _ _ _ (b o u a);grind
 rw[h1,this]
section
variable {ρ:Type}{n:Nat}{w0:Start}{w:World}{σ0 Z:FS}{p:Uv ρ}{G:ρ->Act->World->Prop}{L:List (Nat×Value)}{b:Nat->Value}{PV PV':List Priv}
variable {P:Program}{ops:Array Oper}{o:Oper}{rest:List Oper}
variable {H:Uv ρ->List (Nat×Value)->FS->List Priv->Prop}{d:Nat}{v:Value}{t t' ty:TypeId}{ps:String}{af:Array Edge}{g:Uv (Nat×Bool)}
variable {x y z:Operand}{k:IntKind}{i j:Int}
theorem Inv.replace {R:World->List Priv->Prop}{C:List Priv}(hi:Inv w0 σ0 Z (A++C) w)
    (u:∀hA,Sep Z A hA->hA.sub w->∃w' A' e,R w' A'/\Sep Z A' e/\e.sub w'/\Ext w hA w'/\∀b i,(e b i).isSome->(hA b i).isSome\/w.heap.size<=b):∃w' A',R w' A'/\Inv w0 σ0 Z (A'++C) w':=by
 let⟨h,hs,f⟩:=hi.own;let⟨h1,h2,s1,s,n,g,p⟩:=hs.split;let⟨w',A',h1',t,B,r,m,l⟩:=u h1 s1 (f.sub.mono n);have hd:h1'.disj h2:=by
  intro b i;cases c:h1' b i with
  |none=>exact .inl rfl
  |some x=>
   right;rcases l b i (by simp[c]) with q | q
   · rcases p b i with z | z
     all_goals grind
   · cases k:h2 b i with
     |none=>rfl
     |some y=>have:=Bit.at_lt (f.sub b i y (g b i y k));omega
 have j:=f.mono n;have d:∀b i,b < w0.w.heap.size->(h1 b i).isSome->(w0.h b i).isSome:=λb i hb c=>by
  rcases j.mine b i c with q | q
  ·omega
  ·exact q
 refine⟨w',A',t,m.held j.apart hi.sub,hi.le,hi.fresh,⟨h1'.or h2,B.append s (zc.le_or _ _) (zc.le_or_right hd) hd,zc.or_sub r (m.frag p (f.sub.mono g)),λb o c=>?_,λb i c=>?_⟩,hi.ext.trans m d⟩
 all_goals
  unfold zc.or at c
 · cases a:h1' b (o+1) with
   |some y=>
    rcases l b (o+1) (by simp[a]) with q | q
    ·exact j.apart b o q
    · cases k:Z b o with
      |none=>rfl
      |some v=>have:=hi.lt k;omega
   |none=>rw[a] at c;exact(f.mono g).apart b o (by simpa using c)
 · cases a:h1' b i with
   |some y=>
    rcases l b i (by simp[a]) with q | q
    ·grind
    ·exact .inl (UF hi.ext.size q)
   |none=>rw[a] at c;exact(f.mono g).mine b i (by simpa using c)
theorem zhf(z:Array Value)(m:Nat)(d:0 < z.size):(madeCells z (m * z.size)).toList=(N m z.toList).flatten:=by
 apply UA;intro q;have a:(N m z.toList).flatten.length=m * z.size:=je
 by_cases b:q < m * z.size
 ·have h1:(madeCells z (m * z.size)).toList[q]?=D (z[q % z.size]!):=by
   simp[madeCells,b]
  rw[h1];clear h1 a
  induction m generalizing q with
  |zero=>simp at b
  |succ m c=>
   simp only[List.replicate_succ,List.flatten_cons];by_cases h:q < z.size
   ·rw[UX (by simpa using h),Nat.mod_eq_of_lt h];simp[h]
   ·rw[UW (by simpa using h)];simp only[qX];rw[<- c (q - z.size) jE];congr 2
    conv=>lhs;rw[(Zd:q=(q - z.size)+z.size)]
    rw[Nat.add_mod_right]
 ·rw[UI (by simp[size_madeCells];omega),UI (by rw[a];omega)]
theorem zfY{a:Nat}{i:Int}(h:xM a i q=D s):0<=i/\a * i.toNat<=140737488355328/\i<=140737488355328/\s=⟨N i.toNat q,F⟩:=by
 unfold xM at h;grind
def Yg(vs:List Value):List Value:=(vs.map λv=>v.cells.toList).flatten
theorem zmV {C:IntKind}{kk:Sl α->Uv ρ}(hn:O d n=F) (hu:P.underlying t=D (.slice e)) (A:P.info? e=D ti) (hz:ti.zero=D zv) (B:ti.size=T.size)
    (h0:O 0 T.size=F) (hx:opv L b x = .int k i) (hy:opv L b y = .int C i) (G:∀Z,T.rel Z zc.none zv.cells.toList q)
    (h:∀s v,xM ti.bytes i q=D s->H (kk s) ((d,v)::L) Z (.row T e v s::PV)) :
    Xk P n w0 σ0 ⟨D d,.makeSlice t x y,ty,ps,af,g⟩ ((xM ti.bytes i q).bind kk) L b Z PV H:=by
 intro r hp a w hi hf K Q hK;cases z:xM ti.bytes i q with
 |none=>grind
 |some s=>
  rw[z] at hp;obtain⟨h1,h2,h3,rfl⟩:=zfY z;obtain⟨m,rfl⟩:∃m:Nat,i=(m:Int):=⟨i.toNat,Zd⟩
  simp only[Int.toNat_natCast] at h2 z hp;have o:zv.cells.size=T.size:=by simpa using T.len (G Z)
  have hT:0 < T.size:=by simpa using h0
  have c:=run_make (P:=P) w t e ti zv hu A hz k C (m:Int) (m:Int) Zd Zd (Int.ofNat_le.2 (UF h2 jI:ti.bytes * m<=281474976710656)) Zd;simp only[Int.toNat_natCast] at c;have f:=zhf zv.cells m Zd;rw[o] at f;rw[B] at c;unfold qb;have l:(execOp a.eval ⟨D d,.makeSlice t x y,ty,ps,af,g⟩).run P w = .ok (.value (.slice (D ⟨w.heap.size,0,E⟩) m m)) (w.alloc (.cells (madeCells zv.cells (m * T.size)) e)):=by
   rw[hf.eval];simp[execOp,hx,hy,c]
  rw[l,qc];refine hK _ _ Z _ _ _ hp (hi.cons (p :=.row T e (.slice (D ⟨w.heap.size,0,E⟩) m m) ⟨N m q,F⟩) (h1:=Zb w.heap.size e (madeCells zv.cells (m * T.size))) ?_ (x7 (yY _ _)) (vx _ _ _ _) λb i hb=>by rw[(Yx hb).1];grind) (hf.put (by simpa[UT] using hn) _) (h _ _ (by rw[z]));have R:(madeCells zv.cells (m * T.size)).toList.length=m * T.size:=by rw[f];simp[o]
  refine .inr <| .inr ⟨w.heap.size,m,(madeCells zv.cells (m * T.size)).toList,_,zc.none,je,rfl,je,by unfold maxLen;omega,jE,.refl _,?_,λj u hj=>XQ hj,zc.none_le _,zc.disj_none _,?_⟩
  ·rw[wZ];simp
  ·simp only[List.length_replicate];rw[qC Zd,f];exact OTy.rels_replicate (G Z) m
def znS(T:OTy α)(Z:FS)(h:zc)(vs:List Value)(xs:List α):Prop:=T.rels Z h (Yg vs) xs/\vs.length=xs.length/\∀v∈vs,v.cells.size=T.size
def zbD:Nat->List Value->List (Nat×Value)
 |_,[]=>[]
 |m,v::r=>(m,v)::zbD (m+1) r
theorem zid (c:List Value):∀(cs:Array Value) (off k:Nat),off+k+c.length<=cs.size->
    ((c.zipIdx k).foldl (λa (q:Value×Nat)=>a.setIfInBounds (off+q.2) q.1) cs).toList=cs.toList.take (off+k)++c++cs.toList.drop (off+k+c.length):=by
 induction c with
 |nil=>intro cs off k h;simp
 |cons u c b=>
  intro cs off k h;simp only[jz] at h;simp only[List.zipIdx_cons,List.foldl_cons];rw[b _ off (k+1) ji];have h2:off+k < cs.toList.length:=ji
  simp only[Array.toList_setIfInBounds,jz];rw[(Zd:off+(k+1)=off+k+1),List.take_succ_eq_append_getElem ji];rw[List.take_set_of_le Zd,List.drop_set_of_lt Zd];grind
theorem zka (size:Nat):∀(vs:List Value) (m:Nat) (cs:Array Value),(∀v∈vs,v.cells.size=size)->(m+vs.length) * size<=cs.size->
    ∃r:Array Value,V (λi=>D (i * size,size)) cs (zbD m vs)=D r/\r.toList=cs.toList.take (m * size)++Yg vs++cs.toList.drop ((m+vs.length) * size)
 |[],m,cs,_,_=>⟨cs,rfl,by simp[Yg]⟩
 |v::vs,m,cs,h,hs=>by
  have g:=h v je;have k:(m+(vs.length+1)) * size=m * size+size+vs.length * size:=jE
  simp only[jz] at hs;have f:m * size+v.cells.size<=cs.size:=by rw[g];omega
  have b:=zid v.cells.toList cs (m * size) 0 ji;have e:(m+1) * size=m * size+size:=jE
  have c:v.cells.toList.length=size:=by simp[g]
  let⟨r,o,d⟩:=zka size vs (m+1) ((v.cells.toList.zipIdx 0).foldl (λa (q:Value×Nat)=>a.setIfInBounds (m * size+q.2) q.1) cs) (λu j=>h u (by simp[j])) (by
   have n:((v.cells.toList.zipIdx 0).foldl (λa (q:Value×Nat)=>a.setIfInBounds (m * size+q.2) q.1) cs).size=cs.size:=by
    rw[<- qX,b];simp;omega
   grind)
  refine⟨r,?_,?_⟩
  · have e0:(v.cells.zipIdx.foldl (λcs (x:Value×Nat)=>cs.setIfInBounds (m * size+x.2) x.1) cs)=(v.cells.toList.zipIdx 0).foldl (λa (q:Value×Nat)=>a.setIfInBounds (m * size+q.2) q.1) cs:=by
      rw[<- qY];simp
    simp only[zbD,V];grind
  · rw[d,b,e];simp only[UY,c];have h1:(cs.toList.take (m * size)++v.cells.toList).length=m * size+size:=jE
    have h2:(cs.toList.take (m * size)++v.cells.toList++cs.toList.drop (m * size+size)).take (m * size+size)=cs.toList.take (m * size)++v.cells.toList:=jE
    have l:(cs.toList.take (m * size)++v.cells.toList++cs.toList.drop (m * size+size)).drop ((m+1+vs.length) * size)=cs.toList.drop ((m+(v::vs).length) * size):=by
     rw[(jE:(m+1+vs.length) * size=(m * size+size)+vs.length * size),<- qo];rw[(jE:(cs.toList.take (m * size)++v.cells.toList++cs.toList.drop (m * size+size)).drop (m * size+size)=cs.toList.drop (m * size+size))];rw[qo];grind
    rw[h2,l];simp[Yg,UV]
theorem vK {c:Array (Nat×Operand)}{vs:List Value}{xs:List α}(A C:List Priv) (hn:O d n=F) (hu:P.underlying t=D (.slice e)) (B:P.info? e=D ti)
    (hz:ti.zero=D zv) (hsz:ti.size=T.size) (h24:qB (m * T.size) 16777216=F) (h0:O 0 T.size=F) (hp:(c.toList.map λq=>(q.1,opv L b q.2))=zbD 0 vs) (hm:vs.length=m)
    (hr:∀h,Sep Z A h->∃g,g.le h/\znS T Z g vs xs)
    (h:∀v,H p ((d,v)::L) Z (.row T e v ⟨xs,F⟩::C)):Xk P n w0 σ0 ⟨D d,.buildSlice t m c,ty,ps,af,g⟩ p L b Z (A++C) H:=by
 intro r hpr a w hi hf K Q hK;have hT:0 < T.size:=by simpa using h0
 have h24':m * T.size<=16777216:=by simpa using h24
 unfold qb;refine Exists.elim (hi.replace (R:=λw' A'=>(execOp a.eval ⟨D d,.buildSlice t m c,ty,ps,af,g⟩).run P w = .ok (.value (.slice (D ⟨w.heap.size,0,E⟩) m m)) w'/\A'=[Priv.row T e (.slice (D ⟨w.heap.size,0,E⟩) m m) ⟨xs,F⟩]) ?_) ?_
 · intro hA sA l;let⟨gA,o,hrel,hlen,s⟩:=hr hA sA;have hml:m=xs.length:=jE
   have hfl:(Yg vs).length=m * T.size:=by rw[hrel.1,hml]
   have hnew:∀b i,(gA b i).isSome->b < w.heap.size:=λb i f=>by
    let⟨x,f⟩:=UG.1 f;exact Bit.at_lt (l _ _ _ (o _ _ _ f))
   have hdj:(Zb w.heap.size e (Yg vs).toArray).disj gA:=λb i=>by
    cases f:Zb w.heap.size e (Yg vs).toArray b i with
    |none=>exact .inl rfl
    |some y=>
     right;have:=(Yx (b:=b) (k:=i) (by rw[f];rfl)).1;cases hy:gA b i with
     |none=>rfl
     |some z=>grind
   refine⟨w.alloc (.cells (Yg vs).toArray e (0,0)),_,(Zb w.heap.size e (Yg vs).toArray).or gA,⟨?_,rfl⟩,Sep.one ?_,zc.or_sub (x7 (yY _ _)) ((vx w _ _ zc.none).frag (zc.none_disj _) (l.mono o)),vx _ _ _ _,λb i f=>?_⟩
   · rw[hf.eval];have hpl:(c.map λ(q:Nat×Operand)=>(q.1,opv L b q.2)).toList=zbD 0 vs:=by rw[qV];exact hp
     have key:∀zero:Array Value,V (λi=>D (i * T.size,T.size)) ((qW (m * T.size)).map (zero[· % zero.size]!)) (c.map λ(q:Nat×Operand)=>(q.1,opv L b q.2)).toList=D (Yg vs).toArray:=by
      intro zero;let⟨r,hr1,hr2⟩:=zka T.size vs 0 ((qW (m * T.size)).map (zero[· % zero.size]!)) s (by simp[<- hm]);have hr3:r=(Yg vs).toArray:=by
       grind
      grind
     have hb:(qT t m (c.map λq=>(q.1,opv L b q.2))).run P w = .ok (.slice (D ⟨w.heap.size,0,E⟩) m m) (w.alloc (.cells (Yg vs).toArray e (0,0))):=by
      unfold qT;simp only[UP,UO hu,UQ,sizeOf,typeInfo,UR,B,UN,hsz];rw[jx Zd];by_cases h00:m * T.size=0
      ·rw[jv h00];simp only[UP,UN,UQ,key];simp[newRow,newObj,Sem.run]
      ·rw[jx h00];simp only[UP,UN,UQ,zeroValue,typeInfo,UR,B,hz,key];simp[newRow,newObj,Sem.run]
     simp only[execOp,UP,hb,UQ,UN]
   · refine .inr <| .inr ⟨w.heap.size,m,Yg vs,Zb w.heap.size e (Yg vs).toArray,gA,by rw[hml],rfl,jE,?_,jE,zc.le_or _ _,?_,λj u hj=>XQ (by simpa using hj),zc.le_or_right hdj,hdj,?_⟩
     ·have:m<=m * T.size:=Nat.le_mul_of_pos_right m hT;unfold maxLen;omega
     ·rw[wZ];simp
     grind
   · unfold zc.or at f;cases hy:Zb w.heap.size e (Yg vs).toArray b i with
     |some z=>have:=(Yx (b:=b) (k:=i) (by rw[hy];rfl)).1;right;omega
     |none=>rw[hy] at f;left;exact o.isSome (by simpa using f)
 ·rintro w' ⟨A',⟨G,rfl⟩,hi2⟩;rw[G,qc];exact hK p _ Z _ _ _ hpr hi2 (hf.put (by simpa[UT] using hn) _) (h _)
theorem zie{a:Nat}{ts:List α}(h:zo a s ts=D s'):(s.xs.length+ts.length) * a<=140737488355328/\s.xs.length+ts.length<=140737488355328/\s'=⟨s.xs++ts,s.nn || !ts.isEmpty⟩:=by
 unfold zo at h;grind
def vy(w:World)(u:Value)(m:Nat)(b:List Value):Prop:=
 (u = .slice E 0 0/\m=0/\b=[])\/∃a c,u = .slice (D a) m c/\∀(j:Nat) (q:Value),b[j]?=D q->w.cell? (a.add j)=D q
theorem zag {ts:List α}{kk:Sl α->Uv ρ}(A C:List Priv) (hn:O d n=F) (hu:P.underlying t=D (.slice e)) (hi':P.info? e=D ti)
    (hz:ti.zero=D zv) (hzs:zv.cells.size=T.size) (hsz:ti.size=T.size) (h0:O 0 T.size=F) (p:opv L b x=v) (hy:opv L b y=u)
    (hs:∀w g,Y5 Z (.row T e v s::(A++C)) w->Sep Z A g->g.sub w->∃gA f,gA.le g/\T.rels Z gA f ts/\vy w u ts.length f)
    (h:∀s' v',zo ti.bytes s ts=D s'->H (kk s') ((d,v')::L) Z (.row T e v' s'::C)) :
    Xk P n w0 σ0 ⟨D d,.call {callee :=.builtin .append,args:= #[x,y],argTypes:= #[t,t]},ty,ps,af,g⟩ ((zo ti.bytes s ts).bind kk) L b Z (.row T e v s::(A++C)) H:=by
 intro r hp a w hi hf K Q hK;cases hg:zo ti.bytes s ts with
 |none=>grind
 |some s'=>
 rw[hg] at hp;obtain⟨hb,hb2,rfl⟩:=zie hg;have hT:0 < T.size:=by simpa using h0
 have hheld:=hi.held;have hi0:Inv w0 σ0 Z ((.row T e v s::A)++C) w:=hi;refine Exists.elim (hi0.replace (R:=λw' A'=>∃v',(M #[t,t] ty #[v,u]).run P w = .ok v' w'/\A'=[Priv.row T e v' ⟨s.xs++ts,s.nn || !ts.isEmpty⟩]) ?_) ?_
 · intro hA sA l;let⟨h1,h2,k1,k2,l1,l2,dd⟩:=Sep.uncons sA;have k1:zn T e v s Z h1:=k1;let⟨gA,f,hgA,G,hsrc⟩:=hs w h2 hheld k2 (l.mono l2);have hlt:∀b i,(hA b i).isSome->b < w.heap.size:=λb i p=>by
     let⟨x,p⟩:=UG.1 p;exact Bit.at_lt (l _ _ _ p)
   rcases hsrc with⟨rfl,hl0,rfl⟩ | ⟨ad,c,rfl,B⟩
   · have hts:ts=[]:=UJ hl0;subst hts;refine⟨w,_,hA,⟨v,?_,rfl⟩,Sep.one ?_,l,.refl w hA,λb i p =>.inl p⟩
     · rcases k1 with⟨rfl,rfl⟩ | ⟨q,rfl,rfl⟩ | ⟨q,cap,cur,hb',gg,rfl,r2,r3,r4,r5,r0,r6,r7,r8,r9,r10⟩
       ·simp[M,UO hu,sizeOf,typeInfo,hi',X,Y]
       ·simp[M,UO hu,sizeOf,typeInfo,hi',X,Y,storeCells]
       ·simp[M,UO hu,sizeOf,typeInfo,hi',X,Y,r3,storeCells]
     ·simp only[List.append_nil,List.isEmpty_nil,Dg,Bool.or_false];exact Priv.mono _ (.refl _) l1 k1
   have hnl:f.length=ts.length * ti.size:=by rw[hsz];exact G.1
   have hmt:(ts=[])↔ts.length=0:=jE
   have fresh:∀(cur2:Array Value) (cap2:Nat) (w1:World) (g:zc) (o:List Value),w1.heap=w.heap->w1.os=w.os->w1.output=w.output->w1.tape=w.tape->
       cur2.size=cap2 * T.size->s.xs.length+ts.length<=cap2->cap2<=maxLen->ts≠[]\/s.nn=F->g.le h1->T.rels Z g o s.xs->cur2.toList.take ((s.xs.length+ts.length) * T.size)=o++f->
       (M #[t,t] ty #[v,.slice (D ad) ts.length c]).run P w = .ok (.slice (D ⟨w.heap.size,0,E⟩) (s.xs.length+ts.length) cap2) (w1.alloc (.cells cur2 e (0,0)))->
       ∃w' A' hA',(∃v',(M #[t,t] ty #[v,.slice (D ad) ts.length c]).run P w = .ok v' w'/\A'=[Priv.row T e v' ⟨s.xs++ts,s.nn || !ts.isEmpty⟩])/\Sep Z A' hA'/\hA'.sub w'/\Ext w hA w'/\∀b i,(hA' b i).isSome->(hA b i).isSome\/w.heap.size<=b:=by
    intro cur2 cap2 w1 g o e1 e2 e3 e4 hc1 hc2 hc3 hnn hgl hold htake m;have hsz1:w1.heap.size=w.heap.size:=by rw[e1]
    have hext:Ext w hA (w1.alloc (.cells cur2 e (0,0))):=by
     refine⟨by simp[qv,e2],by simp[qv,e3],by simp[qv,e4],by simp[e1],λb =>.same λhb=>by rw[zaf _ _ _ Zd,e1],λa _ _=>?_⟩;rw[zc7];unfold qs;rw[e1]
    have hnew2:(w1.alloc (.cells cur2 e (0,0))).heap[w.heap.size]?=D (.cells cur2 e (0,0)):=by rw[<- hsz1];exact yY _ _
    have hgg:(g.or gA).le hA:=zc.or_le (hgl.trans l1) (hgA.trans l2);have hdd:(Zb w.heap.size e cur2).disj (g.or gA):=λb i=>by
     cases p:Zb w.heap.size e cur2 b i with
     |none=>exact .inl rfl
     |some y=>
      right;have:=(Yx (b:=b) (k:=i) (by rw[p];rfl)).1;cases hy:(g.or gA) b i with
      |none=>rfl
      |some z=>have:=hlt b i (hgg.isSome (by simp[hy]));omega
    refine⟨_,_,(Zb w.heap.size e cur2).or (g.or gA),⟨_,m,rfl⟩,Sep.one ?_,zc.or_sub (x7 hnew2) ?_,hext,λb i p=>?_⟩
    · refine .inr <| .inr ⟨w.heap.size,cap2,cur2.toList,Zb w.heap.size e cur2,g.or gA,je,?_,ji,hc3,by simp[hc1],zc.le_or _ _,by rw[wZ];simp,λj u hj=>XQ hj,zc.le_or_right hdd,hdd,?_⟩
      · rcases hnn with h | h
        all_goals grind
      ·simp only[jy];rw[htake];exact OTy.rels_append hold G (dd.mono hgl hgA)
    · refine zc.sub.mono (h:=g.or gA) (g:=g.or gA) ?_ (.refl _);intro b i y hy;have h3:=l b i y (hgg _ _ _ hy);have h4:=Bit.at_lt h3;have h5:(w1.alloc (.cells cur2 e (0,0))).heap[b]?=w.heap[b]?:=by rw[zaf _ _ _ Zd,e1]
      cases y<;>(unfold Bit.at at h3 |-;grind)
    · unfold zc.or at p;cases hy:Zb w.heap.size e cur2 b i with
      |some z=>have:=(Yx (b:=b) (k:=i) (by rw[hy];rfl)).1;right;omega
      |none=>rw[hy] at p;left;exact hgg.isSome (by simpa[zc.or] using p)
   have hmax:s.xs.length+ts.length<=maxLen:=by unfold maxLen;omega
   have grow:∀(old:Nat) (g:zc) (o:List Value) (row:Value),o.length=s.xs.length * T.size->old < s.xs.length+ts.length->ts≠[]\/s.nn=F->g.le h1->T.rels Z g o s.xs->v=row->
       (M #[t,t] ty #[row,.slice (D ad) ts.length c]).run P w = .ok (.slice (D ⟨w.heap.size,0,E⟩) (s.xs.length+ts.length) (grownCap w (s.xs.length+ts.length) old e))
         (w.drew.alloc (.cells (o.toArray++f.toArray++Builtin.zeroCells zv.cells (grownCap w (s.xs.length+ts.length) old e - (s.xs.length+ts.length))) e))->
       ∃w' A' hA',(∃v',(M #[t,t] ty #[v,.slice (D ad) ts.length c]).run P w = .ok v' w'/\A'=[Priv.row T e v' ⟨s.xs++ts,s.nn || !ts.isEmpty⟩])/\Sep Z A' hA'/\hA'.sub w'/\Ext w hA w'/\∀b i,(hA' b i).isSome->(hA b i).isSome\/w.heap.size<=b:=by
    intro old g o row hol hold hnn hgl hold2 hv m;subst hv;have hge:=grownCap_ge w (s.xs.length+ts.length) old e;have hnl2:f.length=ts.length * T.size:=G.1;refine fresh _ _ w.drew g o rfl rfl rfl rfl ?_ hge (grownCap_le_maxLen w _ old e hmax) hnn hgl hold2 ?_ m
    ·simp only[Array.size_append,qN,size_zeroCells,hzs,hol,hnl2,<- UL];congr 1;omega
    ·simp only[Array.toList_append,UV];rw[<- UV,(jE:(s.xs.length+ts.length) * T.size=(o++f).length)];grind
   rcases k1 with⟨rfl,rfl⟩ | ⟨aq,rfl,rfl⟩ | ⟨q,cap,cur,hbk,gg,rfl,r2,r3,r4,r5,r0,r6,r7,r8,r9,r10⟩
   · by_cases hm0:ts.length=0
     · have hts:=hmt.2 hm0;subst hts;refine⟨w,_,hA,⟨.slice E 0 0,?_,rfl⟩,Sep.one ?_,l,.refl w hA,λb i p =>.inl p⟩
       ·simp[M,UO hu,sizeOf,typeInfo,hi',X,Y,loadCells,loadCellsFrom]
       ·exact .inl ⟨rfl,rfl⟩
     ·have hr3:=run_append_nil (P:=P) w t ty e ti zv hu hi' hz ad ts.length c f hnl B Zd Zd jE;exact grow 0 zc.none [] _ je ji (.inl λhh=>hm0 (by simp[hh])) (zc.none_le _) OTy.rels_nil rfl jE
   · by_cases hm0:ts.length=0
     · have hts:=hmt.2 hm0;subst hts;refine⟨w,_,hA,⟨.slice (D aq) 0 0,?_,rfl⟩,Sep.one ?_,l,.refl w hA,λb i p =>.inl p⟩
       ·simp[M,UO hu,sizeOf,typeInfo,hi',X,Y,loadCells,loadCellsFrom,storeCells]
       ·exact .inr (.inl ⟨aq,rfl,rfl⟩)
     ·have hr3:=run_append_grow (P:=P) w t ty e ti zv hu hi' hz aq 0 0 [] je je ad ts.length c f hnl B Zd Zd (growslice_fits Zd jE);exact grow 0 zc.none [] _ je ji (.inr rfl) (zc.none_le _) OTy.rels_nil rfl jE
   · have l0:hbk.le hA:=r0.trans l1;have hcurA:=zsn (l.mono l0) r6 r7;have holds:∀j u,(cur.take (s.xs.length * T.size))[j]?=D u->w.cell? ((⟨q,0,E⟩:Addr).add j)=D u:=λj u hj=>by
       rw[Addr.add_eq _ rfl];rw[qE] at hj;split at hj
       ·simpa using(l.mono l0).cell (r7 j u hj)
       ·cases hj
     by_cases hroom:s.xs.length+ts.length<=cap
     · have hfit:s.xs.length * ti.size+f.length<=cur.toArray.size:=by rw[hnl,hsz,<- UL];simp only[qN];exact UF (Dd _ hroom) r5
       have m:=run_append_room (P:=P) w t ty e ti hu hi' q s.xs.length cap cur.toArray hcurA ad ts.length c f hnl B (OTy.rels_one G) hroom hfit;rw[hsz] at m hfit;have hlt3:∀j,j < f.length->s.xs.length * T.size+j < cur.length:=λj hj=>jE
       let⟨p1,p2⟩:=zfX (q:=q) (off:=s.xs.length * T.size) (vs:=f) (l.mono l0) hcurA jE (λj hj=>
        ⟨_,by rw[(Zd:s.xs.length * T.size+j+1=(s.xs.length * T.size+j)+1)];exact r7 _ _ (UC (hlt3 j hj))⟩)
       have hdom:∀b i,((hbk.put q (s.xs.length * T.size) f) b i).isSome->(hbk b i).isSome:=λb i p=>zc.put_dom (λj hj=>by
        rw[(Zd:s.xs.length * T.size+j+1=(s.xs.length * T.size+j)+1),r7 _ _ (UC (hlt3 j hj))];rfl) p
       have hgA2:hbk.disj (gg.or gA):=(zc.or_disj r9.symm ((dd.mono r0 hgA).symm)).symm;have hd2:(hbk.put q (s.xs.length * T.size) f).disj (gg.or gA):=λb i=>by
        cases p:hbk.put q (s.xs.length * T.size) f b i with
        |none=>exact .inl rfl
        |some y=>
         have:=hdom b i (by rw[p];rfl);rcases hgA2 b i with z | z
         all_goals grind
       have hgl:(gg.or gA).le hA:=zc.or_le (r8.trans l1) (hgA.trans l2);refine⟨_,_,(hbk.put q (s.xs.length * T.size) f).or (gg.or gA),⟨_,m,rfl⟩,Sep.one ?_,zc.or_sub p1 (p2.frag hgA2 (l.mono hgl)),p2.mono l0,λb i p=>?_⟩
       · have hcl:(cur.take (s.xs.length * T.size)).length=s.xs.length * T.size:=r10.1;have hnl2:f.length=ts.length * T.size:=G.1;refine .inr <| .inr ⟨q,cap,cur.take (s.xs.length * T.size)++f++cur.drop (s.xs.length * T.size+f.length),hbk.put q (s.xs.length * T.size) f,gg.or gA,je,by simp[r2],jE,r4,?_,zc.le_or _ _,?_,λj u hj=>?_,zc.le_or_right hd2,hd2,?_⟩
         ·grind
         ·rw[zc.put_out Zd,r6];grind
         · by_cases c1:j < s.xs.length * T.size
           ·rw[UV,UX Zd,Da c1] at hj;rw[zc.put_out Zd];grind
           · by_cases c2:j < s.xs.length * T.size+f.length
             ·rw[UV,UW Zd,hcl,UX Zd] at hj;rw[(Zd:j+1=s.xs.length * T.size+(j - s.xs.length * T.size)+1)];exact zc.put_in hj
             ·rw[UW jE,Db] at hj;simp only[jy,hcl] at hj;rw[(Zd:s.xs.length * T.size+f.length+(j - (s.xs.length * T.size+f.length))=j)] at hj;rw[zc.put_out Zd];grind
         ·have hap:=OTy.rels_append r10 G (dd.mono r8 hgA);rw[jy,UL,qD jE,qC jE];exact hap
       · unfold zc.or at p;cases hy:hbk.put q (s.xs.length * T.size) f b i with
         |some z=>left;exact l0.isSome (hdom b i (by rw[hy];rfl))
         |none=>rw[hy] at p;left;exact hgl.isSome (by simpa[zc.or] using p)
     ·have m:=run_append_grow (P:=P) w t ty e ti zv hu hi' hz ⟨q,0,E⟩ s.xs.length cap (cur.take (s.xs.length * T.size)) (by rw[hsz];exact r10.1) holds ad ts.length c f hnl B Zd Zd (growslice_fits Zd hb);exact grow cap gg _ _ r10.1 Zd (.inr r2) r8 r10 rfl m
 · rintro w' ⟨A',⟨v',m,rfl⟩,hi2⟩;unfold qb;have hrun':(execOp a.eval ⟨D d,.call {callee :=.builtin .append,args:= #[x,y],argTypes:= #[t,t]},ty,ps,af,g⟩).run P w = .ok (.value v') w':=by
     rw[hf.eval];simp[execOp,resolve,invoke,builtin,p,hy,m]
   rw[hrun',qc];exact hK _ _ Z _ _ _ hp hi2 (hf.put (by simpa[UT] using hn) _) (h _ _ hg)
theorem ziT{T:Ty α}(n:(tSl T).vrel Z u s)(w:World)(g:zc)(i:Y5 Z PV w)(t:Sep Z A g)(r:g.sub w):∃gA b,gA.le g/\T.o.rels Z gA b s.xs/\vy w u s.xs.length b:=by
 obtain⟨a,m,c,rfl,h1,h2,x,p,k,cells,d,l⟩:=YF.1 n;refine⟨zc.none,cells,zc.none_le _,Ty.rels_o.2 d,?_⟩;cases a with
 |none=>
  obtain⟨rfl,rfl⟩:=k rfl;refine .inl ⟨rfl,h1.symm,?_⟩;have:=T.rels_len d;rw[<- h1] at this;grind
 |some a=>
  refine .inr ⟨a,c,by rw[h1],λj q f=>?_⟩;let⟨v,e,h⟩:=l j q f;cases e;exact i.1.cell h
theorem zn.source{w:World}(r:zn T e u s Z h)(hs:h.sub w):∃gA a,gA.le h/\T.rels Z gA a s.xs/\vy w u s.xs.length a:=by
 rcases r with⟨rfl,rfl⟩ | ⟨f,rfl,rfl⟩ | ⟨q,d,cur,hb,g,rfl,r2,n,m,l,r0,p,k,i,o,c⟩
 rotate_left
 ·exact⟨zc.none,[],zc.none_le _,OTy.rels_nil,.inr ⟨f,0,rfl,λj u b=>by simp at b⟩⟩
 rotate_left
 ·exact⟨zc.none,[],zc.none_le _,OTy.rels_nil,.inl ⟨rfl,rfl,rfl⟩⟩
 ·refine⟨g,_,i,c,.inr ⟨_,d,rfl,λj u b=>?_⟩⟩;rw[Addr.add_eq _ rfl];rw[qE] at b;split at b
  ·simpa using hs.cell (r0 _ _ _ (k j u b))
  ·cases b
theorem znT{T:Ty α}(m:Nat)(d:PV[m]?=D (.row T.o e u s))(w:World)(g:zc)(f:Y5 Z PV w)(j:Sep Z A g)(k:g.sub w):∃gA a,gA.le g/\T.o.rels Z gA a s.xs/\vy w u s.xs.length a:=by
 let⟨h,c,hs⟩:=f.get d;let⟨gA,a,_,i,b⟩:=zn.source c hs;exact⟨zc.none,a,zc.none_le _,Ty.rels_o.2 (Ty.rels_o.1 i),b⟩
theorem zeY(w:World)(g:zc)(d:Y5 Z PV w)(b:Sep Z [.row T e u s] g)(c:g.sub w):∃gA a,gA.le g/\T.rels Z gA a s.xs/\vy w u s.xs.length a:=
 zn.source b.one_of c
def Sl.set(s:Sl α)(i:Int)(x:α):Sl α:=⟨s.xs.set i.toNat x,s.nn⟩
omit [Dfr] in
def Priv.hole(A C:α->Priv):Priv where
 holds Z h:=∀τ g x k,Z.le τ->h.disj g->(A x).holds τ g->h.le k->g.le k->(C x).holds τ k
 mono l m r:=λτ g x k l2 d c a b=>r τ g x k (l.trans l2) (d.mono m (.refl _)) c (m.trans a) b
def zqw(T:OTy α)(a:Addr)(x:α)(Z:FS)(h:zc):Prop:=∃cs h1 h2,h1.le h/\h2.le h/\h1.disj h2/\Z3 a cs h1/\T.rel Z h2 cs x
omit [Dfr] in
def Priv.elem(T:OTy α)(a:Addr)(x:α):Priv where
 holds Z h:=zqw T a x Z h
 mono l m r:=by let⟨cs,h1,h2,b,l2,d,r1,r2⟩:=r;exact⟨cs,h1,h2,b.trans m,l2.trans m,d,r1,T.mono l (.refl _) r2⟩
theorem xu {cur:List Value}{o n:Nat}(b:o+n<=cur.length) (c:cs.length=n) (j:Nat) :
    (cur.take o++cs++cur.drop (o+n))[j]?=if o<=j/\j < o+n then cs[j - o]? else cur[j]?:=by
 have a:(cur.take o).length=o:=ji
 by_cases h1:j < o
 ·grind
 · by_cases h2:j < o+n
   ·rw[jv ⟨Zd,h2⟩,UV,UW Zd,a,UX Zd]
   ·rw[jx Zd,UW jE,Db];grind
theorem VD (r:zn T e v s Z h) (hq:za s i=D q) :
    Sep Z [.hole (λx =>.elem T (zi v (i.toNat * T.size)) x) (λx =>.row T e v (s.set i x)),.elem T (zi v (i.toNat * T.size)) q] h:=by
 have hlt:=zba hq;rcases r with⟨_,rfl⟩ | ⟨_,_,rfl⟩ | ⟨b,cap,cur,hb,g,rfl,r2,r3,r4,r5,r0,r6,r7,r8,r9,r10⟩
 ·grind
 ·grind
 let⟨k1,hs,k2,k3,k4⟩:=r10;have G:=(yO.1 hq).2;have hbound:i.toNat * T.size+T.size<=s.xs.length * T.size:=by
  have:(i.toNat+1) * T.size<=s.xs.length * T.size:=Dd _ Zd;grind
 have hcap:s.xs.length * T.size<=cap * T.size:=Dd _ r3;have hsel:((cur.take (s.xs.length * T.size)).drop (i.toNat * T.size)).take T.size=(cur.drop (i.toNat * T.size)).take T.size:=by
  rw[qk,W,Df Zd]
 have hci:=k2 i.toNat q G;rw[hsel] at hci;have hea:zi (.slice (D ⟨b,0,E⟩) s.xs.length cap) (i.toNat * T.size)=⟨b,i.toNat * T.size,E⟩:=by
  show(⟨b,0,E⟩:Addr).add _=_;rw[Addr.add_eq _ rfl];simp
 have hsb:∀j c m y,hs j c m=D y->hb c m=none:=λj c m y d=>by
  rcases r9 c m with z | z
  ·exact z
  ·rw[k4 j c m y d] at z;cases z
 classical
 let Q:Nat->Nat->Prop:=λc k=>c=b/\i.toNat * T.size < k/\k<=i.toNat * T.size+T.size
 let L:Nat->Nat->Prop:=λc k=>∃j,j≠i.toNat/\(hs j c k).isSome
 let fo:zc:=λc k=>if Q c k then(if L c k then h c k else E) else if(hb c k).isSome\/L c k then h c k else E
 let R:zc:=λc k=>if Q c k then hb c k else E
 have lo:fo.le h:=λc k x G=>by
  simp only[fo] at G;split at G<;>split at G<;>first | exact G | cases G
 have lc:R.le h:=λc k x G=>by
  simp only[R] at G;split at G
  ·exact r0 _ _ _ G
  ·cases G
 have le2:(hs i.toNat).le h:=(k4 _).trans r8;have dce:R.disj (hs i.toNat):=λc k=>by
  cases d:hs i.toNat c k with
  |none=>exact .inr rfl
  |some y=>grind
 have doe:fo.disj (R.or (hs i.toNat)):=λc k=>by
  cases hi:hs i.toNat c k with
  |some y=>
   left;have ho:¬ L c k:=by
    rintro⟨j,B,hsm⟩;rcases k3 j i.toNat B c k with z | z
    all_goals grind
   grind
  |none=>
   cases hc:R c k with
   |none=>right;simp[zc.or,hc,hi]
   |some y=>
    left;simp only[R] at hc;split at hc
    · rename_i w;have ho:¬ L c k:=by
        rintro⟨j,B,hsm⟩;let⟨z,hz⟩:=UG.1 hsm;grind
      grind
    ·cases hc
 have hcc:Z3 ⟨b,i.toNat * T.size,E⟩ ((cur.drop (i.toNat * T.size)).take T.size) R:=by
  refine⟨rfl,λj u B=>?_⟩;have hj':j < T.size:=by
   grind
  rw[Da hj',Db] at B;grind
 refine .cons (h1:=fo) (h2:=R.or (hs i.toNat)) ?_ (Sep.one ⟨_,R,hs i.toNat,zc.le_or _ _,zc.le_or_right dce,dce,jE,hci⟩) lo (zc.or_le lc le2) doe;intro τ g2 x k l2 dg ⟨cs,h1,h2,q1,q2,q3,q4,q5⟩ lk lg;rw[hea] at q4;have hcl:=T.len q5;have hget:=xu (cur:=cur) (o:=i.toNat * T.size) (n:=T.size) (cs:=cs) Zd hcl
 let H:zc:=λc m=>if Q c m then h1 c m else hb c m
 let gn:zc:=λc m=>if(H c m).isSome then E else k c m
 have hfo:∀c m y,hb c m=D y->¬ Q c m->fo c m=D y:=λc m y d w=>by
  simp only[fo,w,jp];rw[jv (.inl (by simp[d]))];exact r0 _ _ _ d
 have hfo2:∀j c m y,j≠i.toNat->hs j c m=D y->fo c m=D y:=λj c m y B d=>by
  have ho:L c m:=⟨j,B,by simp[d]⟩;have e:fo c m=h c m:=by simp[fo,ho]
  rw[e];exact r8 _ _ _ (k4 _ _ _ _ d)
 have hnk:H.le k:=λc m y d=>by
  simp only[H] at d;split at d
  ·exact lg _ _ _ (q1 _ _ _ d)
  ·exact lk _ _ _ (hfo _ _ _ d (by assumption))
 have t:∀c m y,fo c m=D y->g2 c m=none:=λc m y d=>by
  rcases dg c m with z | z
  ·rw[z] at d;cases d
  ·exact z
 have p:∀{f:zc} {c m},f.le g2->g2 c m=E->f c m=none:=λ{f c m} l z=>by
  cases d:f c m with
  |none=>rfl
  |some y=>rw[l _ _ _ d] at z;cases z
 refine .inr <| .inr ⟨b,cap,cur.take (i.toNat * T.size)++cs++cur.drop (i.toNat * T.size+T.size),H,gn,by simp[Sl.set],r2,by simpa[Sl.set] using r3,r4,?_,hnk,?_,λj u B=>?_,?_,λc m=>?_,?_⟩
 ·simp only[jy,De,UK,hcl];omega
 ·simp only[H];rw[jx (by intro hh;have:=hh.2.1;omega),r6];congr 2;simp only[jy,De,UK,hcl];omega
 · rw[hget] at B;split at B
   · rename_i w;simp only[H];rw[jv ⟨rfl,Zd,Zd⟩];have:=q4.2 _ u B;simp only at this
     rwa [(Zd:i.toNat * T.size+(j - i.toNat * T.size)+1=j+1)] at this
   ·rename_i w;simp only[H];rw[jx (by intro hh;exact w ⟨by have:=hh.2.1;omega,by have:=hh.2.2;omega⟩)];exact r7 j u B
 · intro c m y d;simp only[gn] at d;split at d
   ·cases d
   ·exact d
 · cases d:H c m with
   |none=>exact .inl rfl
   |some y=>right;simp[gn,d]
 · have P:(s.set i x).xs.length=s.xs.length:=by simp[Sl.set]
   rw[P];refine⟨?_,λj=>if j=i.toNat then h2 else hs j,λj y d=>?_,λj j' B=>?_,λj=>?_⟩
   ·rw[P,De,jy,jy,De,UK,hcl];omega
   · have hjl:j < s.xs.length:=by rw[<- P];exact(U5.1 d).1
     have hjb:j * T.size+T.size<=s.xs.length * T.size:=by
      have:(j+1) * T.size<=s.xs.length * T.size:=Dd _ hjl;rw[UL] at this;omega
     rw[qk,W,Df Zd];by_cases C:j=i.toNat
     · subst C;have:x=y:=by
         have A:=d;simp only[Sl.set] at A;rw[UB] at A;simp at A;exact A.2
       subst this;simp only[jq];have htl:(cur.take (i.toNat * T.size)).length=i.toNat * T.size:=ji
       rw[UV,qQ Zd,List.drop_of_length_le Zd,Dh,qD Zd,qC Zd];exact q5
     · simp only [C,jp];have A:s.xs[j]?=D y:=by
         simp only[Sl.set] at d
         rwa [List.getElem?_set_ne (λe=>C e.symm)] at d
       have:=k2 j y A;rw[qk,W,Df Zd] at this;have hsame:((cur.take (i.toNat * T.size)++cs++cur.drop (i.toNat * T.size+T.size)).drop (j * T.size)).take T.size=(cur.drop (j * T.size)).take T.size:=by
        apply UA;intro m;by_cases hm:m < T.size
        · rw[Da hm,Da hm,Db,Db,hget,jx];rintro⟨a1,a2⟩;rcases Nat.lt_or_gt_of_ne C with K | K
          ·have:(j+1) * T.size<=i.toNat * T.size:=Dd _ K;rw[UL] at this;omega
          ·have:(i.toNat+1) * T.size<=j * T.size:=Dd _ K;rw[UL] at this;omega
        ·rw[UI ji,UI ji]
       rw[hsame];exact T.mono l2 (.refl _) this
   · show zc.disj (if j=i.toNat then h2 else hs j) (if j'=i.toNat then h2 else hs j');have key:∀a,a≠i.toNat->(hs a).disj h2:=λa ha c m=>by
       cases d:hs a c m with
       |none=>exact .inl rfl
       |some y=>right;exact p q2 (t _ _ _ (hfo2 a c m y ha d))
     split<;>split
     ·omega
     ·exact(key _ (by assumption)).symm
     ·exact key _ (by assumption)
     ·exact k3 _ _ B
   · show zc.le (if j=i.toNat then h2 else hs j) gn;split
     · intro c m y d;have hno:H c m=none:=by
         simp only[H];split
         · rcases q3 c m with z | z
           ·exact z
           ·rw[z] at d;cases d
         · rename_i w;cases hz:hb c m with
           |none=>rfl
           |some z=>have:=p q2 (t _ _ _ (hfo _ _ _ hz w));rw[this] at d;cases d
       simp only[gn,hno];exact lg _ _ _ (q2 _ _ _ d)
     · rename_i C;intro c m y d;have hf:=hfo2 j c m y C d;have hno:H c m=none:=by
         simp only[H];split
         ·exact p q1 (t _ _ _ hf)
         ·exact hsb _ _ _ _ d
       simp only[gn,hno];exact lk _ _ _ hf
end
end
section
variable [Dfr]
class Opn{α:Type}(T:OTy α) where
 aux:Type
 cells:aux->α->List Value
 own:aux->α->List Priv
 facts:FS->aux->α->Prop
 spec:∀{Z:FS} {h:zc} {cs:List Value} {x:α},T.rel Z h cs x->∃u,cs=cells u x/\facts Z u x/\Sep Z (own u x) h
 back:∀{Z:FS} {h:zc} {u:aux} {x:α},facts Z u x->Sep Z (own u x) h->T.rel Z h (cells u x) x
omit [Dfr] in
instance {α:Type}{T:Ty α}[p:Plain T]:Opn T.o where
 aux:=Unit
 cells _ x:=p.cells x
 own _ _:=[]
 facts _ _ _:=True
 spec r:=⟨(),(p.spec _ _ _).1 r,trivial,.nil⟩
 back _ _:=(p.spec _ _ _).2 rfl
omit [Dfr] in
instance {α:Type}{T:Ty α}:Opn (tSl T).o where
 aux:=Value
 cells u _:=[u]
 own _ _:=[]
 facts Z u x:=(tSl T).vrel Z u x
 spec:=by
  rintro Z h cs x ⟨a,n,c,rfl,r⟩;exact⟨_,rfl,YF.2 ⟨a,n,c,rfl,r⟩,.nil⟩
 back:=by
  intro Z h u x f _;obtain⟨a,n,c,rfl,r⟩:=YF.1 f;exact⟨a,n,c,rfl,r⟩
omit [Dfr] in
instance {α:Type}{T:OTy α}{e:TypeId}:Opn (zxK T e) where
 aux:=Value
 cells u _:=[u]
 own u x:=[.row T e u x]
 facts _ _ _:=True
 spec:=by rintro Z h cs x ⟨v,rfl,r⟩;exact⟨v,rfl,trivial,.one r⟩
 back:=by intro Z h u x _ s;exact⟨u,rfl,s.one_of⟩
omit [Dfr] in
instance {α β:Type}{A:OTy α}{B:OTy β}[a:Opn A][b:Opn B]:Opn (zbC A B) where
 aux:=a.aux×b.aux
 cells u x:=a.cells u.1 x.1++b.cells u.2 x.2
 own u x:=a.own u.1 x.1++b.own u.2 x.2
 facts Z u x:=a.facts Z u.1 x.1/\b.facts Z u.2 x.2
 spec:=by
  rintro Z h cs x ⟨c,d,h1,h2,rfl,g,l2,i,p,q⟩;obtain⟨u,rfl,k,s1⟩:=a.spec p;obtain⟨v,rfl,j,e⟩:=b.spec q;exact⟨(u,v),rfl,⟨k,j⟩,s1.append e g l2 i⟩
 back:=by
  intro Z h u x f s;let⟨h1,h2,s1,e,g,l2,i⟩:=s.split;exact⟨_,_,h1,h2,rfl,g,l2,i,a.back f.1 s1,b.back f.2 e⟩
instance {α β:Type}{T:OTy α}{f:β->α}[a:Opn T]:Opn (T.comap f) where
 aux:=a.aux
 cells u x:=a.cells u (f x)
 own u x:=a.own u (f x)
 facts Z u x:=a.facts Z u (f x)
 spec r:=a.spec r
 back f s:=a.back f s
instance {α:Type}{T:OTy α}[a:Opn T]:Opn T.aggr where
 aux:=a.aux
 cells:=a.cells
 own:=a.own
 facts:=a.facts
 spec r:=a.spec r
 back f s:=a.back f s
class Fixd{α:Type}(T:OTy α)(T':outParam (Ty α)):Prop where
 size:T'.size=T.size
 up:∀{Z:FS} {h:zc} {cs:List Value} {x:α},T'.rel Z cs x->T.rel Z h cs x
 down:∀{Z:FS} {h:zc} {cs:List Value} {x:α},T.rel Z h cs x->T'.rel Z cs x
instance {α:Type}{T:Ty α}:Fixd T.o T:=⟨rfl,λr=>r,λr=>r⟩
omit [Dfr] in
instance {α β:Type}{A:OTy α}{B:OTy β}{A':Ty α}{e:Ty β}[a:Fixd A A'] [b:Fixd B e]:Fixd (zbC A B) (zbA A' e):=⟨by simp[zbC,zbA,a.size,b.size],by
    rintro Z h cs x ⟨c,d,rfl,p,q⟩;exact⟨c,d,zc.none,zc.none,rfl,zc.none_le _,zc.none_le _,zc.none_disj _,a.up p,b.up q⟩,by
    rintro Z h cs x ⟨c,d,h1,h2,rfl,_,_,_,p,q⟩;exact⟨c,d,rfl,a.down p,b.down q⟩⟩
instance {α β:Type}{T:OTy α}{T':Ty α}{f:β->α}[a:Fixd T T']:Fixd (T.comap f) (T'.comap f):=⟨a.size,λr=>a.up r,λr=>a.down r⟩
instance {α:Type}{T:OTy α}{T':Ty α}[a:Fixd T T']:Fixd T.aggr T'.aggr:=⟨a.size,λr=>a.up r,λr=>a.down r⟩
omit [Dfr] in
theorem Fixd.rels{T':Ty α}[f:Fixd T T']{Z:FS}{xs:List α}:T.rels Z h cs xs↔T'.rels Z cs xs:=by
 constructor
 ·rintro⟨h1,hs,h2,_⟩;exact Ty.rels_of (by rw[h1,f.size]) λi x a=>by rw[f.size];exact f.down (h2 i x a)
 ·intro r;exact⟨by rw[<- f.size];exact T'.rels_len r,λ_=>zc.none,λi x a=>by rw[<- f.size];exact f.up (T'.rels_get i r a),λ_ _ _=>zc.none_disj _,λ_=>zc.none_le _⟩
section
variable {ρ:Type}{n:Nat}{w0:Start}{w:World}{σ0 Z:FS}{p:Uv ρ}{G:ρ->Act->World->Prop}{L:List (Nat×Value)}{b:Nat->Value}{PV PV':List Priv}
variable {P:Program}{ops:Array Oper}{o:Oper}{rest:List Oper}
variable {H:Uv ρ->List (Nat×Value)->FS->List Priv->Prop}{d:Nat}{v:Value}{t t' ty:TypeId}{ps:String}{af:Array Edge}{g:Uv (Nat×Bool)}
variable {x y z:Operand}{k:IntKind}{i j:Int}
theorem Sl.set_same(a:za s i=D q):s.set i q=s:=by
 let⟨h0,h1⟩:=yO.1 a;unfold Sl.set;let⟨c,b⟩:=U5.1 h1;rw[<- b,List.set_getElem_self]
omit [Dfr] in
theorem znS.nil:znS T Z h [] []:=⟨OTy.rels_nil,rfl,je⟩
theorem OTy.rels_single{x:α}(r:T.rel Z h cs x):T.rels Z h cs [x]:=by
 have a:=T.len r;refine⟨by simp[a],λi=>if i=0 then h else zc.none,λi y b=>?_,λi j c=>?_,λi=>?_⟩
 ·cases i with
  |zero=>
   grind
  |succ i=>simp at b
 ·show zc.disj (if i=0 then h else zc.none) (if j=0 then h else zc.none);split<;>split
  ·omega
  ·exact zc.disj_none _
  ·exact zc.none_disj _
  ·exact zc.none_disj _
 ·show zc.le (if i=0 then h else zc.none) h;split
  ·exact .refl _
  ·exact zc.none_le _
theorem wo{lo hi:Int}(h:z8 s lo hi=D s'):0<=lo/\lo<=hi/\hi<=s.xs.length/\s'=⟨(s.xs.take hi.toNat).drop lo.toNat,s.nn⟩:=by
 unfold z8 at h;grind
def YR(L:List (Nat×Value))(b:Nat->Value)(x:Uv Operand)(dflt i:Int):Prop:=
 match x with
 |none=>i=dflt
 |some x=>∃k,opv L b x = .int k i
theorem YG {w:World}{isS:Bool}{c:Nat}{i j:Int}(d:YR L b lo 0 i) (e:YR L b hi (m:Int) j) (h0:0<=i) (h1:i<=j) (h2:j<=c) :
    (qR isS m c (lo.map (opv L b)) (hi.map (opv L b)) E).run P w = .ok (i.toNat,j.toNat,c) w:=by
 unfold qR;cases hi with
 |none=>
  simp only[YR] at e;subst e;cases lo with
  |none=>simp only[YR] at d;subst d;simp
  |some lo=>
   let⟨kk,d⟩:=d;have hb:=λa=>run_sliceBound (P:=P) w kk i m a h0 h1
   simp[d,hb]
 |some hi=>
  let⟨g,e⟩:=e;have f:=λa=>run_sliceBound (P:=P) w g j c a Zd h2
  cases lo with
  |none=>simp only[YR] at d;subst d;simp[e,f]
  |some lo=>
   let⟨kk,d⟩:=d;have hb:=λa=>run_sliceBound (P:=P) w kk i j.toNat a h0 Zd
   simp[d,e,hb,f]
theorem zhg {τ:FS}{T:Ty α}{i j:Int}(G:P.underlying t=D (.slice e)) (h:P.info? e=D ti) (p:ti.size=T.size)
    (r:opv L b x=v) (C:(tSl T).vrel τ v s) (z:YR L b lo 0 i) (B:YR L b hi s.len j) (hs:z8 s i j=D s') :
    zzN P Z PV L b ⟨D d,.slice t x lo hi E,ty,ps,af,g⟩ (λu=>(tSl T).vrel τ u s'):=by
 obtain⟨h1,h2,h3,rfl⟩:=wo hs;obtain⟨a,m,c,rfl,H,k2,R,k4,k5,cells,Q,A⟩:=YF.1 C;refine⟨.slice (if(c:Int)=i then a else a.map (·.add (i.toNat * T.size))) (j - i).toNat (c - i.toNat),?_,λw _=>?_⟩
 · refine YF.2 ⟨_,_,_,rfl,?_,?_,?_,?_,?_,(cells.take (j.toNat * T.size)).drop (i.toNat * T.size),?_,?_⟩
   ·grind
   ·grind
   ·omega
   ·omega
   · intro f;have:a=none:=by split at f<;>simpa using f
     grind
   ·exact T.rels_drop _ (T.rels_take _ Q)
   · intro q u o;rw[Db] at o;have l:i.toNat * T.size+q < j.toNat * T.size:=by
       grind
     rw[Da l] at o;obtain⟨y,rfl,K⟩:=A _ _ o;have n:¬ (c:Int)=i:=by
      grind
     refine⟨y.add (i.toNat * T.size),by simp[n],?_⟩;rw[Addr.add_add];exact K
 · have hb:=YG (P:=P) (w:=w) (isS:=true) (m:=m) (c:=c) z (by rw[H];exact B) h1 h2 Zd;have k:(U t (.slice a m c) (lo.map (opv L b)) (hi.map (opv L b)) E).run P w = .ok (.slice (if(c:Int)=i then a else a.map (·.add (i.toNat * T.size))) (j - i).toNat (c - i.toNat)) w:=by
     unfold U qH;simp only[UP,UO G,UQ];simp only[UP,UQ,hb,sizeOf,typeInfo,UR,h,UN,p];rw[(Zd:j.toNat - i.toNat=(j - i).toNat)];grind
   simp only[execOp,r,UP,k,UQ,UN,qx]
theorem znU{s:ByteArray}{i c:Int}(h:Zh s i=D c):0<=i/\∃u:UInt8,s.data.toList[i.toNat]?=D u/\c=u.toNat:=by
 unfold Zh at h;split at h
 ·rename_i h0;cases a:s.data.toList[i.toNat]? with
  |none=>grind
  |some u=>grind
 ·cases h
theorem zhh {s:ByteArray}{c:Int}(h:P.underlying t=D .string) (j:opv L b x = .string s) (l:opv L b y = .int k i) (m:Zh s i=D c) :
    Za P Z PV L b ⟨D d,.index t x y,ty,ps,af,g⟩ (.int .u8 c):=λw _=>by
 obtain⟨h0,u,h1,rfl⟩:=znU m;have e:(s[i.toNat]?:Uv UInt8)=D u:=by
  rw[<- h1];let⟨f,_⟩:=U5.1 h1;have a:i.toNat < s.size:=by simpa using f
  rw[getElem?_pos s i.toNat a,UC f];rfl
 simp[execOp,j,l,Instr.index,asIntOf,UO h,h0,e]
theorem zif(s u:ByteArray):(s.toList == u.toList)=decide (s=u):=by
 rw[ByteArray.toList_eq,ByteArray.toList_eq];by_cases h:s=u
 ·subst h;simp
 ·have hd:¬ s.data=u.data:=λe=>h (by cases s;cases u;grind)
  simp[h,hd]
theorem zxO{s u:ByteArray}(a:opv L b x = .string s)(c:opv L b y = .string u):Za P Z PV L b ⟨D d,.binOp .eql t x y t',ty,ps,af,g⟩ (.bool (decide (s=u))):=λw _=>by
 simp[execOp,a,c,eqGuard,binOp,qI,<- zif]
theorem zxP{s u:ByteArray}(a:opv L b x = .string s)(c:opv L b y = .string u):Za P Z PV L b ⟨D d,.binOp .neq t x y t',ty,ps,af,g⟩ (.bool (decide (s≠u))):=λw _=>by
 have:(decide (s≠u)) = !decide (s=u):=jE
 rw[this,<- zif];simp[execOp,a,c,eqGuard,binOp,qI]
theorem zkb{s s':ByteArray}{lo hi:Int}(h:ZI s lo hi=D s'):0<=lo/\lo<=hi/\hi<=s.size/\s'=s.extract lo.toNat hi.toNat:=by
 unfold ZI at h;grind
theorem zhi {s s':ByteArray}{i j:Int}(e:P.underlying t=D .string)
    (f:opv L b x = .string s) (h:YR L b lo 0 i) (k:YR L b hi s.size j) (hs:ZI s i j=D s') :
    Za P Z PV L b ⟨D d,.slice t x lo hi E,ty,ps,af,g⟩ (.string s'):=λw _=>by
 obtain⟨h1,h2,l,rfl⟩:=zkb hs;have hb:=YG (P:=P) (w:=w) (isS:=false) (m:=s.size) (c:=s.size) h k h1 h2 l;have a:(U t (.string s) (lo.map (opv L b)) (hi.map (opv L b)) E).run P w = .ok (.string (s.extract i.toNat j.toNat)) w:=by
  unfold U qH;simp only[UP,UO e,UQ];simp[UQ,hb]
 simp only[execOp,f,UP,a,UQ,UN,qx]
def fieldsOf(d:TypeDesc):Array Field:=
 match d with
 | .struct fs=>fs
 |_=> #[]
def zah(a:List (Nat×Nat)):List Value->List (Nat×List Value)->Uv (List Value)
 |cs,[]=>D cs
 |cs,(i,c)::r=>match a[i]? with
  |none=>E
  |some (off,size)=>bif qK c.length size && qB (off+c.length) cs.length then zah a (cs.take off++c++cs.drop (off+c.length)) r else E
def zc9:List (Nat×Value)->List (Nat×List Value)->Prop
 |[],[]=>True
 |(i,v)::r,(j,c)::s=>i=j/\v.cells.toList=c/\zc9 r s
 |_,_=>False
theorem zkc (a:List (Nat×Nat)):∀(ps:List (Nat×Value)) (b:List (Nat×List Value)) (cs:Array Value) (r:List Value),zc9 ps b->zah a cs.toList b=D r->
    V (λi=>a[i]?) cs ps=D r.toArray
 |[],[],cs,r,_,h=>by simp[zah] at h;simp[V,<- h]
 |(i,v)::ps,(j,c)::b,cs,r,⟨e1,e2,e3⟩,h=>by
   subst e1;subst e2;simp only[zah] at h;simp only[V];cases hp:a[i]? with
   |none=>grind
   |some q=>
    let⟨off,size⟩:=q;rw[hp] at h;simp only at h |-
    cases d:(qK v.cells.toList.length size && qB (off+v.cells.toList.length) cs.toList.length) with
    |false=>grind
    |true=>
     rw[d] at h;simp only[gf] at d;have h1:v.cells.toList.length=size:=ge d.1;have h2:off+v.cells.toList.length<=cs.toList.length:=UZ d.2;have e:=zid v.cells.toList cs off 0 jE;rw[jx jE];have e0:(v.cells.zipIdx.foldl (λcs (x:Value×Nat)=>cs.setIfInBounds (off+x.2) x.1) cs)=(cs.toList.take off++v.cells.toList++cs.toList.drop (off+v.cells.toList.length)).toArray:=by
      apply Array.toList_inj.1;rw[<- qY];grind
     rw[show(v.cells.zipIdx.foldl (λcs x=>match x with | (c,j)=>cs.setIfInBounds (off+j) c) cs)=(v.cells.zipIdx.foldl (λcs (x:Value×Nat)=>cs.setIfInBounds (off+x.2) x.1) cs) from rfl,e0];exact zkc a ps b _ r e3 (by simpa using h)
theorem zwa {c:Array (Nat×Operand)}{vs:List (Nat×Value)}{j:List (Nat×List Value)}{e:List (Nat×Nat)}(u:P.underlying t=D (.struct fs)) (hi:P.info? t=D ti) (r:ti.zero=D zv)
    (hpl:fs.toList.map (λf=>(P.info? f.type).map λi=>(f.offset,i.size))=e.map D) (hp:(c.toList.map λq=>(q.1,opv L b q.2))=vs) (y:zc9 vs j) (p:zah e zv.cells.toList j=D cs) :
    Za P Z PV L b ⟨D d,.build t c,ty,ps,af,g⟩ (.agg cs.toArray):=λw _=>by
 have v:∀(l:List Field) (m:List (Nat×Nat)),l.map (λf=>(P.info? f.type).map λi=>(f.offset,i.size))=m.map D->
     (l.mapM (λf=>do pure (f.offset,<- sizeOf f.type):Field->Sem (Nat×Nat))).run P w = .ok m w:=by
  intro l
  induction l with
  |nil=>intro m h;cases m with
   |nil=>simp
   |cons=>simp at h
  |cons f l z=>
   intro m h;cases m with
   |nil=>simp at h
   |cons q m=>
    simp only[U8,List.cons.injEq] at h;let⟨h1,h2⟩:=h;cases hi:P.info? f.type with
    |none=>grind
    |some ti=>
     rw[hi] at h1;simp only[U4,Option.some.injEq] at h1;have x:((do pure (f.offset,<- sizeOf f.type):Sem (Nat×Nat))).run P w = .ok q w:=by simp[UP,sizeOf,typeInfo,hi,h1]
     rw[List.mapM_cons,UP,x];simp only[UQ,UP,z m h2,UN]
 have o:(fs.mapM (λf=>do pure (f.offset,<- sizeOf f.type):Field->Sem (Nat×Nat))).run P w = .ok e.toArray w:=by
  rw[Array.mapM_eq_mapM_toList];have h2:=v _ _ hpl;have A:∀(s:Sem (List (Nat×Nat))) m,s.run P w = .ok m w->(List.toArray <$> s).run P w = .ok m.toArray w:=by
   intro s m hs;show(s.bind (λa=>Sem.pure a.toArray)).run P w=_;have:=UP (P:=P) (w:=w) s (λa=>(pure a.toArray:Sem (Array (Nat×Nat))));refine Eq.trans this ?_;rw[hs];simp
  grind
 have n:(c.map λ(q:Nat×Operand)=>(q.1,opv L b q.2)).toList=vs:=by rw[qV];exact hp
 have k:=zkc e vs j zv.cells cs y p;have:(qU t (c.map λq=>(q.1,opv L b q.2))).run P w = .ok (.agg cs.toArray) w:=by
  unfold qU;simp only[UP,zeroValue,typeInfo,UR,UQ,hi,UN,r,UO u,o,n];rw[show(λi=>e.toArray[i]?)=λi=>e[i]? by funext i;simp];simp[k]
 simp only[execOp,UP,this,UQ,UN]
theorem zwb {f:Field}{cs':List Value}(l:P.underlying t=D (.struct fs)) (k:fs[m]?=D f) (j:P.underlying f.type=D td) (hi:P.info? f.type=D ti)
    (n:opv L b x = .agg cs.toArray) (i:(cs.drop f.offset).take ti.size=cs') (o:cs'.length=ti.size) (h1:Zi td=I->ti.size=1) (e:yD (Zi td) cs'=v) :
    Za P Z PV L b ⟨D d,.field t x m,ty,ps,af,g⟩ v:=λw _=>by
 have c:(Go.isAgg f.type).run P w=Result.ok (Zi td) w:=by
  unfold Go.isAgg;rw[UP,UO j];cases td<;>rfl
 have:(qS t (.agg cs.toArray) m).run P w = .ok v w:=by
  unfold qS;simp only[UP,UO l,UQ,k,asAgg,UN,part,c];subst i;cases hd:Zi td with
  |true=>
   rw[hd] at e;subst e;simp[UP,sizeOf,typeInfo,hi,yD]
  |false=>
   rw[hd] at e;have h1':=h1 hd;rw[h1'] at o e;have:cs[f.offset]?=D v:=by
    rw[<- e];have a:f.offset < cs.length:=by
     rcases Nat.lt_or_ge f.offset cs.length with h | h
     all_goals grind
    rw[UC a];simp only[yD,U0,Di a,qL,Dj]
   simp[this]
 simp only[execOp,n,UP,this,UQ,UN]
theorem ziU{a:IntKind}(f:P.underlying t=D td)(c:P.underlying t'=D (.int a))(e:opv L b x = .int k i):Za P Z PV L b ⟨D d,.convert t t' x,ty,ps,af,g⟩ (.int a (a.wrap i)):=λw _=>by
 simp[execOp,e,convert,UO f,UO c,Conv.intToInt]
end
end
section
variable [Dfr]
def Z0(T:OTy α)(off:Nat)(Tf:Ty β)(a:α->β):Prop:=∀Z h cs x,T.rel Z h cs x->Tf.rel Z ((cs.drop off).take Tf.size) (a x)
omit [Dfr] in
theorem Z0.of{T:Ty α}{Tf:Ty β}{a:α->β}(f:XP T off Tf a):Z0 T.o off Tf a:=λZ h cs x r=>f Z cs x r
theorem Z0.self{T':Ty α}[f:Fixd T T']:Z0 T 0 T' id:=λZ h cs x r=>by
 have:=T'.len (f.down r);simp only[Dk,id];rw[<- this,Dl];exact f.down r
omit [Dfr] in
theorem Z0.fst{A:OTy α}{B:OTy β}{a:α->γ}(f:Z0 A off Tf a)(b:off+Tf.size<=A.size):Z0 (zbC A B) off Tf (λx=>a x.1):=by
 rintro Z h cs x ⟨c,d,h1,h2,rfl,_,_,_,p,q⟩;have:=A.len p;rw[qQ Zd,qD ji];exact f Z h1 c x.1 p
omit [Dfr] in
theorem Z0.snd{A:OTy α}{B:OTy β}{a:β->γ}(f:Z0 B off Tf a):Z0 (zbC A B) (A.size+off) Tf (λx=>a x.2):=by
 rintro Z h cs x ⟨c,d,h1,h2,rfl,_,_,_,p,q⟩;have:=A.len p;rw[<- this,<- qo,qF];exact f Z h2 d x.2 q
omit [Dfr] in
theorem Z0.comap{a:α->γ}{g:β->α}(f:Z0 T off Tf a):Z0 (T.comap g) off Tf (λx=>a (g x)):=λZ h cs x r=>f Z h cs (g x) r
section
variable {ρ:Type}{n:Nat}{w0:Start}{w:World}{σ0 Z:FS}{p:Uv ρ}{G:ρ->Act->World->Prop}{L:List (Nat×Value)}{b:Nat->Value}{PV PV':List Priv}
variable {P:Program}{ops:Array Oper}{o:Oper}{rest:List Oper}
variable {H:Uv ρ->List (Nat×Value)->FS->List Priv->Prop}{d:Nat}{v:Value}{t t' ty:TypeId}{ps:String}{af:Array Edge}{g:Uv (Nat×Bool)}
variable {x y z:Operand}{k:IntKind}{i j:Int}
omit [Dfr] in
theorem HeldOK.view{a:FS}{b:List Priv}(c:HeldOK a b Z PV)(d:∀h,Sep Z PV' h->Sep Z PV h):HeldOK a b Z PV':=⟨c.le,λh k=>c.all h (d h k)⟩
theorem zbc {Tf:Ty β}{a:α->β}(p:zn T e v s Z h) (hs:h.sub w) (l:za s i=D q) (x:Z0 T off Tf a) (n:off+Tf.size<=T.size) :
    ∃cs,Tf.rel Z cs (a q)/\∀(j:Nat) (u:Value),cs[j]?=D u->w.cell? ((zi v (i.toNat * T.size+off)).add j)=D u:=by
 have r:=zba l;rcases p with⟨_,rfl⟩ | ⟨_,_,rfl⟩ | ⟨G,y,cur,hb,L,rfl,r2,B,R,Q,r0,C,o,P,H,d⟩
 ·grind
 ·grind
 let⟨k1,z,t,A,K⟩:=d;have g:=t i.toNat q (yO.1 l).2;have b:=x Z _ _ _ g;have m:=Tf.len b;refine⟨_,b,λj u f=>?_⟩;have c:j < Tf.size:=by
  grind
 rw[Da c,Db,Da Zd,Db] at f;have k:i.toNat * T.size+(off+j) < s.xs.length * T.size:=by
  grind
 rw[Da k] at f;simp only[zi,Addr.add_add];rw[(Zd:i.toNat * T.size+off+j=i.toNat * T.size+(off+j))];rw[Addr.add_eq _ rfl];simpa using hs.cell (r0 _ _ _ (o _ _ f))
theorem vW{a:Addr}(c:opv L b x = .pointer (D a)):Za P Z PV L b ⟨D d,.nilCheck x,ty,ps,af,g⟩ (.pointer (D a)):=λw _=>by
 simp[execOp,c]
theorem zcX{w:World}(b:P.underlying t=D (.pointer e)):(qy t (.pointer a) (.pointer E)).run P w = .ok (a.isNone) w:=by
 have key:∀d,(S (d+1) t (.pointer a) (.pointer E)).run P w = .ok (a.isNone) w:=λd=>by
  cases a<;>simp[S,UO b]
 exact key 9999
theorem zmp(f:P.underlying t=D (.pointer e))(c:opv L b x = .pointer a)(i:opv L b y = .pointer E){r:Bool}(h:a.isNone=r):Za P Z PV L b ⟨D d,.binOp .eql t x y t',ty,ps,af,g⟩ (.bool r):=λw _=>by
 subst h;simp[execOp,c,i,eqGuard,binOp,zcX f]
theorem zmq(f:P.underlying t=D (.pointer e))(c:opv L b x = .pointer a)(i:opv L b y = .pointer E){r:Bool}(h:(!a.isNone)=r):Za P Z PV L b ⟨D d,.binOp .neq t x y t',ty,ps,af,g⟩ (.bool r):=λw _=>by
 subst h;simp[execOp,c,i,eqGuard,binOp,zcX f]
theorem zkd {e':TypeId}{kk:Sl α->Uv ρ}(m:Nat) (hn:O d n=F) (hu:P.underlying t=D (.slice e)) (hi':P.info? e=D ti) (hz:ti.size=T.size)
    (hx:opv L b x=v) (hm:PV[m]?=D (.row T e' v s)) (hl:YR L b lo 0 0) (hh:YR L b hi s.len j)
    (h:∀s' v',z8 s 0 j=D s'->H (kk s') ((d,v')::L) Z (PV.set m (.row T e' v' s'))) :
    Xk P n w0 σ0 ⟨D d,.slice t x lo hi E,ty,ps,af,g⟩ ((z8 s 0 j).bind kk) L b Z PV H:=by
 intro r hp a w hinv hft K Q hK;cases hg:z8 s 0 j with
 |none=>grind
 |some s'=>
  rw[hg] at hp;obtain⟨h1,h2,h3,rfl⟩:=wo hg;let⟨hh0,hr,hsub⟩:=hinv.held.get hm;obtain⟨a0,c,rfl,k2,k3,k3',k4,k5⟩:=zn.form hr;have hb:=YG (P:=P) (w:=w) (isS:=true) (m:=s.xs.length) (c:=c) hl hh (by omega) h2 (by omega);have hs2:(U t (.slice a0 s.xs.length c) (lo.map (opv L b)) (hi.map (opv L b)) E).run P w = .ok (.slice a0 j.toNat c) w:=by
   unfold U qH;simp only[UP,UO hu,UQ];simp only[UP,UQ,hb,sizeOf,typeInfo,UR,hi',UN,hz];cases a0 with
   |none=>grind
   |some a0=> by_cases hc0:c=0
              ·grind
              ·rw[jx (by simp;omega)];simp[Addr.add]
  have hrun:(execOp a.eval ⟨D d,.slice t x lo hi E,ty,ps,af,g⟩).run P w = .ok (.value (.slice a0 j.toNat c)) w:=by
   rw[hft.eval];simp only[execOp,hx,UP,hs2,UQ,UN,qx]
  unfold qb;rw[hrun,qc];refine hK _ _ Z _ _ w hp (hinv.change hm (p' :=.row T e' (.slice a0 j.toNat c) ⟨(s.xs.take j.toNat).drop (0:Int).toNat,s.nn⟩) λg1 hg1 hs1=>⟨g1,?_,hs1,.refl w g1,λb i hx =>.inl hx⟩) (hft.put (by simpa[UT] using hn) _) (h _ _ hg);have hg1:zn T e' (.slice a0 s.xs.length c) s Z g1:=hg1;have hj:j.toNat<=s.xs.length:=by omega
  have hlen:(s.xs.take j.toNat).length=j.toNat:=by simp;omega
  rcases hg1 with⟨q1,rfl⟩ | ⟨aq,q1,rfl⟩ | ⟨gb,cap,cur,hb',gg,q1,r2,r3,r4,r5,r0,r6,r7,r8,r9,r10⟩
  · obtain⟨rfl, -,rfl⟩:a0=E/\_/\c=0:=by injection q1 with a1 a2 a3;exact⟨a1,a2,a3⟩
    grind
  · obtain⟨rfl, -,rfl⟩:a0=D aq/\_/\c=0:=by injection q1 with a1 a2 a3;exact⟨a1,a2,a3⟩
    grind
  · obtain⟨rfl, -,rfl⟩:a0=D ⟨gb,0,E⟩/\_/\c=cap:=by injection q1 with a1 a2 a3;exact⟨a1,a2,a3⟩
    refine .inr (.inr ⟨gb,c,cur,hb',gg,by simp[hlen],r2,by grind,r4,r5,r0,r6,r7,r8,r9,?_⟩);have:=OTy.rels_take j.toNat r10;simp only[Int.toNat_zero,Dk,hlen]
    rwa [W,Df (Dd _ hj)] at this
def Yh(P:Program)(t:TypeId)(d:Nat)(x y:Value)(r:Bool):Prop:=∀m w,(S (m+d) t x y).run P w = .ok r w
omit [Dfr] in
theorem Yh.int(a:P.underlying t=D (.int k)):Yh P t 1 (.int k i) (.int k j) (decide (i=j)):=λm w=>by
 have:(i == j)=decide (i=j):=jE
 simp[S,UO a,this]
omit [Dfr] in
theorem Yh.bool{e q:Bool}(a:P.underlying t=D .bool):Yh P t 1 (.bool e) (.bool q) (decide (e=q)):=λm w=>by
 have:(e == q)=decide (e=q):=jE
 simp[S,UO a,this]
omit [Dfr] in
theorem Yh.str{s u:ByteArray}(a:P.underlying t=D .string):Yh P t 1 (.string s) (.string u) (decide (s=u)):=λm w=>by
 have:(s == u)=decide (s=u):=by
  show ByteArray.beq s u=_;cases s with | mk s=>cases u with | mk u=>
  by_cases h:s=u
  ·subst h;simp[ByteArray.beq]
  ·simp[h,ByteArray.beq]
 simp[S,UO a,this]
def zke(P:Program)(xs ys:Array Value)(d:Nat):List Field->Bool->Prop
 |[],r=>r=F
 | f :: fs, r => ∃ u v r1 r2, (∀ w, (part f.type xs f.offset).run P w = .ok u w) /\ (∀ w, (part f.type ys f.offset).run P w = .ok v w) /\ f.name ≠ "_" /\ Yh P f.type d u v r1 /\ zke P xs ys d fs r2 /\ r = (r1 && r2)
omit [Dfr] in
theorem zke.run{d:Nat}:∀{fs:List Field}{r:Bool},zke P xs ys d fs r->∀m w,(qA (m+d) xs ys fs).run P w = .ok r w
 |[],r,h,m,w=>by rw[show r=F from h];simp[qA]
 |f::fs,r,⟨u,v,r1,r2,h1,h2,h3,h4,h5,h6⟩,m,w=>by
  subst h6;have:=zke.run h5 m w;cases r1<;>simp[qA,h3,h1 w,h2 w,h4 m w,this]
omit [Dfr] in
theorem Yh.struct{d:Nat}{r:Bool}(b:P.underlying t=D (.struct fs))(hp:P.stoodInHeld t=I)(h:zke P xs ys d fs.toList r):Yh P t (d+1) (.agg xs) (.agg ys) r:=λm w=>by
 have a:P.fieldsOf t=fs:=by simp[Program.fieldsOf,b]
 rw[(Zd:m+(d+1)=(m+d)+1),run_equalIn_struct w (m+d) t xs ys jE hp,a];exact h.run m w
omit [Dfr] in
theorem Yh.mono{d a:Nat}{r:Bool}(h:Yh P t d v u r)(hd:d<=a):Yh P t a v u r:=λm w=>by
 have:=h (m+(a - d)) w;grind
theorem zkf {cs':List Value}(e:P.underlying t=D td) (hi:P.info? t=D ti)
    (d:(cs.drop off).take ti.size=cs') (f:cs'.length=ti.size) (h1:Zi td=I->ti.size=1) (c:yD (Zi td) cs'=v):∀w,(part t cs.toArray off).run P w = .ok v w:=λw=>by
 have b:(Go.isAgg t).run P w=Result.ok (Zi td) w:=by
  unfold Go.isAgg;rw[UP,UO e];cases td<;>rfl
 simp only[part,UP,b,UQ];subst d;cases hd:Zi td with
 |true=>
  rw[hd] at c;subst c;simp[UP,sizeOf,typeInfo,hi,yD]
 |false=>
  rw[hd] at c;have h1':=h1 hd;rw[h1'] at f c;have:cs[off]?=D v:=by
   rw[<- c];have a:off < cs.length:=by
    grind
   rw[UC a];simp only[yD,U0,Di a,qL,Dj]
  simp[this]
theorem zkg{a:Nat}{r:Bool}(c:P.eqGuardType P.depth t=I)(e:opv L b x = .agg xs)(f:opv L b y = .agg ys)(hd:a<=10000)(h:Yh P t a (.agg xs) (.agg ys) r):Za P Z PV L b ⟨D d,.binOp .eql t x y t',ty,ps,af,g⟩ (.bool r):=λw _=>by
 have:=h (10000 - a) w;rw[(Zd:10000 - a+a=10000)] at this;have h2:(qy t (.agg xs) (.agg ys)).run P w = .ok r w:=this;simp[execOp,e,f,eqGuard,c,binOp,h2]
theorem zkh{a:Nat}{r:Bool}(c:P.eqGuardType P.depth t=I)(e:opv L b x = .agg xs)(f:opv L b y = .agg ys)(hd:a<=10000)(h:Yh P t a (.agg xs) (.agg ys) r):Za P Z PV L b ⟨D d,.binOp .neq t x y t',ty,ps,af,g⟩ (.bool !r):=λw _=>by
 have:=h (10000 - a) w;rw[(Zd:10000 - a+a=10000)] at this;have h2:(qy t (.agg xs) (.agg ys)).run P w = .ok r w:=this;simp[execOp,e,f,eqGuard,c,binOp,h2]
end
end
section
variable [Dfr]
section
variable {ρ:Type}{n:Nat}{w0:Start}{σ0 Z:FS}{p:Uv ρ}{L:List (Nat×Value)}{b:Nat->Value}{PV:List Priv}{P:Program}{Q:ρ->Exit->Act->World->Prop}
end
end
section
variable [Dfr]
end
section
variable [Dfr]
section
variable {ρ:Type}{n:Nat}{w0:Start}{w:World}{σ0 Z:FS}{L:List (Nat×Value)}{b:Nat->Value}{PV PV':List Priv}{P:Program}
def ZV(tmps:Array Value):ResultVar->Sem Value
 | .tmp t=>pure (tmps.getD t undef)
 | .cell a t=>do loadVar t (<- asAddr (tmps.getD a undef))
theorem zmr{fn:Func}(h:fn.results = #[r1])(h1:(ZV tmps r1).run P w = .ok v1 w):(results fn tmps).run P w = .ok v1 w:=by
 have e:results fn tmps=(do let v <- ZV tmps r1;pure v):=by
  cases r1<;>simp[results,h,ZV]
 grind
theorem zms {fn:Func}(h:fn.results = #[r1,r2]) (h1:(ZV tmps r1).run P w = .ok v1 w) (h2:(ZV tmps r2).run P w = .ok v2 w) :
    (results fn tmps).run P w = .ok (.tuple #[v1,v2]) w:=by
 have e:results fn tmps=(do let v <- ZV tmps r1;let u <- ZV tmps r2;pure (.tuple #[v,u])):=by
  cases r1<;>cases r2<;>simp[results,h,ZV]
 rw[e];simp[h1,h2]
theorem zmt {fn:Func}{a:ResultVar}{v3:Value}(h:fn.results = #[r1,r2,a]) (h1:(ZV tmps r1).run P w = .ok v1 w) (h2:(ZV tmps r2).run P w = .ok v2 w) (b:(ZV tmps a).run P w = .ok v3 w) :
    (results fn tmps).run P w = .ok (.tuple #[v1,v2,v3]) w:=by
 have e:results fn tmps=(do let v <- ZV tmps r1;let u <- ZV tmps r2;let z <- ZV tmps a;pure (.tuple #[v,u,z])):=by
  cases r1<;>cases r2<;>cases a<;>simp[results,h,ZV]
 rw[e];simp[h1,h2,b]
theorem zmu {fn:Func}{b a:ResultVar}{v3 v4:Value}(h:fn.results = #[r1,r2,b,a]) (h1:(ZV tmps r1).run P w = .ok v1 w) (h2:(ZV tmps r2).run P w = .ok v2 w) (d:(ZV tmps b).run P w = .ok v3 w) (c:(ZV tmps a).run P w = .ok v4 w) :
    (results fn tmps).run P w = .ok (.tuple #[v1,v2,v3,v4]) w:=by
 have e:results fn tmps=(do let v <- ZV tmps r1;let u <- ZV tmps r2;let z <- ZV tmps b;let y <- ZV tmps a;pure (.tuple #[v,u,z,y])):=by
  cases r1<;>cases r2<;>cases b<;>cases a<;>simp[results,h,ZV]
 rw[e];simp[h1,h2,d,c]
theorem zmv{fn:Func}(h:fn.results = #[]):(results fn tmps).run P w = .ok (.tuple #[]) w:=by
 simp[results,h]
variable {fn:Func}{post:ρ->FS->List Priv->Value->Prop}{r:ρ}
end
end
section
variable [Dfr]
end
section
variable [Dfr]
section
variable {ρ:Type}{n:Nat}{w0:Start}{σ0 Z:FS}{p:Uv ρ}{L:List (Nat×Value)}{b:Nat->Value}{PV PV':List Priv}{P:Program}
variable {H:Uv ρ->List (Nat×Value)->FS->List Priv->Prop}{d:Nat}{v:Value}{t t' ty:TypeId}{ps:String}{af:Array Edge}{g:Uv (Nat×Bool)}{x y:Operand}{k:IntKind}{i:Int}
end
end
section
variable [Dfr]
section
variable {ρ:Type}{n:Nat}{w0:Start}{σ0 Z:FS}{p:Uv ρ}{L:List (Nat×Value)}{b:Nat->Value}{PV PV':List Priv}{P:Program}
theorem Inv.past{w w':World}{τ c:FS}{A':List Priv}(hi:Inv w0 σ0 Z PV w)(a:Z.le τ)(k:Inv ⟨w,zc.none⟩ τ c A' w'):Inv w0 σ0 Z PV w':=by
 let⟨h,hs,d⟩:=hi.own;have b:Inv ⟨w,zc.none⟩ Z Z [] w':=⟨(a.trans k.le).sub k.sub,.refl Z,λ_ _ _ e =>.inl e,⟨zc.none,Sep.nil,λ_ _ _ (e:(none:Uv Bit)=D _)=>(by cases e),λ_ _ (e:(none:Uv Bit).isSome=F)=>by simp at e,λ_ _ (e:(none:Uv Bit).isSome=F)=>by simp at e⟩,k.ext⟩;exact hi.call (A':=[]) (C:=PV) (h1:=zc.none) (h2:=h) d hs (zc.none_le _) (.refl _) (zc.none_disj _) b
def vz(v:Value)(i j:Int)(size:Nat):Value:=
 match v with
 | .slice a _ c =>.slice (if(c:Int)=i then a else a.map (·.add (i.toNat * size))) (j - i).toNat (c - i.toNat)
 |v=>v
end
end
section
variable [Dfr]
section
variable {ρ:Type}{n:Nat}{w0:Start}{σ0 Z:FS}{p:Uv ρ}{L:List (Nat×Value)}{b:Nat->Value}{PV PV':List Priv}{P:Program}
variable {H:Uv ρ->List (Nat×Value)->FS->List Priv->Prop}{d:Nat}{v:Value}{t ty:TypeId}{ps:String}{af:Array Edge}{g:Uv (Nat×Bool)}{x:Operand}
end
end
section
section
variable {P:Program}{w0:Start}{σ0 Z:FS}{PV:List Priv}{w:World}
def Priv.obj(r:Nat)(o:Obj):Priv:=⟨λ_ h=>h r 0=D (.obj o),λ_ l e=>l _ _ _ e⟩
def Xe(r:Nat)(o:Obj):zc:=λb k=>if b=r/\k=0 then D (.obj o) else E
theorem zfZ{r:Nat}{o:Obj}{b k:Nat}(h:(Xe r o b k).isSome=F):b=r/\k=0:=by
 unfold Xe at h;grind
theorem zeZ{r:Nat}{o:Obj}(a:xr o=I)(hb:w.heap[r]?=D o):(Xe r o).sub w:=λb k x e=>by
 unfold Xe at e;split at e
 ·rename_i h;cases e;obtain⟨rfl,rfl⟩:=h;exact⟨hb,rfl,a⟩
 ·cases e
theorem Inv.newObj{o:Obj}(c:xr o=I)(hi:Inv w0 σ0 Z PV w):Inv w0 σ0 Z (.obj w.heap.size o::PV) (w.alloc o):=by
 refine hi.cons (h1:=Xe w.heap.size o) (by show Xe _ _ _ _=_;simp[Xe]) (zeZ c (yY _ _)) ⟨rfl,rfl,rfl,je,λb =>.same λhb=>zaf _ _ _ hb,λa d _=>World.frozen?_alloc_old w _ a Zd⟩ λb i hb=>by rw[(zfZ hb).1];grind
theorem Inv.setObj{r:Nat}{o o':Obj}(s:xr o=I)(h:xr o'=I)(p:PV[m]?=D (.obj r o))(hi:Inv w0 σ0 Z PV w):Inv w0 σ0 Z (PV.set m (.obj r o')) {w with heap:=w.heap.setIfInBounds r o' }:=by
 refine hi.change p λh1 j hs=>?_
 have j:h1 r 0=D (.obj o):=j;have hb:w.heap[r]?=D o:=(hs r 0 _ j).1;let⟨k,q⟩:=MapKept.heap_set (o':=o') hb;have g:∀a:Addr,qs {w with heap:=w.heap.setIfInBounds r o' } a=w.frozen? a:=λa=>by
  unfold qs;by_cases e:a.block=r
  ·rw[e];show(match(w.heap.setIfInBounds r o')[r]? with | some (.cells _ _ (lo,hi))=>decide (lo<=a.off) && decide (a.off < hi) | _=>I)=_;rw[k,hb];have n:∀(x:Obj),xr x=I->(match D x with | some (.cells _ _ (lo,hi))=>decide (lo<=a.off) && decide (a.off < hi) | _=>I)=false:=λx d=>by
    cases x<;>first | rfl | (exact absurd d (by simp[xr]))
   grind
  ·show(match(w.heap.setIfInBounds r o')[a.block]? with | some (.cells _ _ (lo,hi))=>decide (lo<=a.off) && decide (a.off < hi) | _=>I)=_;grind
 refine⟨Xe r o',by show Xe _ _ _ _=_;simp[Xe],zeZ h k,⟨rfl,rfl,rfl,je,λb=>?_,λa _ _=>g a⟩,λb i d=>?_⟩
 ·by_cases e:b=r
  ·subst e;refine⟨λc e f l=>?_,λx d t=>?_⟩
   ·rw[hb] at l;cases l;cases s
   grind
  ·exact .same λ_=>q b e
 ·obtain⟨rfl,rfl⟩:=zfZ d;grind
theorem Inv.objAt{r:Nat}{o:Obj}(e:PV[m]?=D (.obj r o))(hi:Inv w0 σ0 Z PV w):w.heap[r]?=D o:=by
 let⟨g,a,c⟩:=hi.own;let⟨hs,d,f,b⟩:=a;have h1:hs m r 0=D (.obj o):=d m _ e;exact(c.sub r 0 _ (b m _ _ _ h1)).1
end
end
end Go.Px
