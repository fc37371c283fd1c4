/- Part A2. -/
import Derived.Test.YtnkjgenigoecjaaGreatDoorA1
import Derived.Laws.StructEq
import Derived.Laws.Pointers
set_option linter.unusedSectionVars false
set_option linter.unusedVariables false
set_option linter.unusedSimpArgs false
namespace Go.Px
open _root_.Array renaming toList_map->qU,range->qV,length_toList->qW,foldl_toList->qX
open Bool renaming true->F,false->I
open Go.Builtin renaming append_->M,lenOf->X,firstCells->Y
open Go.Instr renaming sliceAt->U,fill->V,slice->qH,sliceBounds->qQ,field->qR,buildSlice->qS,build->qT
open Go.Op renaming equalIn->S,equal->qy,eqFields->qA,stringOp->qI
open Go.Oper renaming wp->qb,upon_value->qc
open Go.World renaming frozen?->qs,alloc->qv
open List renaming replicate->N,take_take->W,drop_take->qk,drop_drop->qo,take_append_of_le_length->qC,take->qD,getElem?_take->qE,drop_left->qF,drop->qG,take_succ_cons->qL,size_toArray->qM,replicate_append_replicate->qN,flatten_append->qO,drop_append_of_le_length->qP
open Nat renaming blt->O,ble->qB,min_eq_right->qJ,beq->qK
open _root_.Option renaming some->D,none->E,map_none->qx
variable{A:List Priv}{a:U7 Addr}{cs:List Value}{e:TypeId}{fs:Array Field}{h:zc}{hi lo:U7 Operand}{m off:Nat}{r1 r2:ResultVar}{td:TypeDesc}{ti:TypeInfo}{tmps xs ys:Array Value}{u v1 v2 zv:Value}{α β γ:Type}{T:OTy α}{Tf:Ty γ}{q:α}{s s':Sl α}
section
theorem Dw:∀{α:Type _}{l:List α},qD l.length l=l:=@List.take_length
theorem Dv:∀{α:Type _}{l:List α},qG 0 l=l:=@List.drop_zero
theorem Du:∀{α:Type _}{a:α}{l:List α}{d:α},(a::l).headD d=a:=@List.headD_cons
theorem Dt:∀{α : Type _} {i : Nat} {l : List α} (h : i < l.length),qG i l = l[i]::qG (i + 1) l:=@List.drop_eq_getElem_cons
theorem Ds:∀{α:Type _}(«as»:List α),[]++«as»=«as»:=@List.nil_append
theorem Dr:(!F)=false:=@Bool.not_true
theorem Dq:∀{α:Type _}{i:Nat}{l:List α},l.length<=i->qD i l=l:=@List.take_of_length_le
theorem Dp:∀{a b:Nat},a<=b->min a b=a:=@Nat.min_eq_left
theorem Do:∀{α:Type _}{i:Nat}{l:List α},(qD i l).length=min i l.length:=@List.length_take
theorem Dn:∀{n m:Nat}(k:Nat),n<=m->n * k<=m * k:=@Nat.mul_le_mul_right
variable [Dfr]
theorem OTy.rels_append{Z:FS}{g g2:zc}{ds:List Value}{xs ys:List α}(r:T.rels Z g cs xs)(s:T.rels Z g2 ds ys)(dd:g.disj g2):T.rels Z (g.or g2) (cs++ds) (xs++ys):=by
 let⟨h1,hs,h2,h3,h4⟩:=r;let⟨k1,ks,k2,k3,k4⟩:=s;refine⟨by grind,λi=>if i < xs.length then hs i else ks (i - xs.length),λi x hx=>?_,λi j hij=>?_,λi=>?_⟩
 ·by_cases hi:i < xs.length
  ·rw[Dh hi] at hx;have hm:(i+1) * T.size<=xs.length * T.size:=Dn _ hi;rw[UV] at hm;simp only[hi,jq];grind
  ·rw[Dg (by omega)] at hx;simp only[hi,jp];have:=k2 _ x hx;have he:i * T.size=cs.length+(i - xs.length) * T.size:=by rw[h1,<- UV];congr 1;omega
   rw[he,<- qo,qF];exact this
 ·show zc.disj (if i < xs.length then hs i else ks (i - xs.length)) (if j < xs.length then hs j else ks (j - xs.length));split<;>split
  ·grind
  ·exact dd.mono (h4 i) (k4 _)
  ·exact(dd.mono (h4 j) (k4 _)).symm
  grind
 ·show zc.le (if i < xs.length then hs i else ks (i - xs.length)) _;split
  ·exact(h4 i).trans (zc.le_or _ _)
  ·exact(k4 _).trans (zc.le_or_right dd)
theorem OTy.rels_take{Z:FS}{g:zc}{xs:List α}(m:Nat)(r:T.rels Z g cs xs):T.rels Z g (cs.take (m * T.size)) (xs.take m):=by
 let⟨h1,hs,h2,h3,h4⟩:=r
 refine⟨by rw[Do,Do,h1];rcases Nat.le_total m xs.length with h | h
           ·rw[Dp h,Dp (Dn _ h)]
           ·rw[qJ h,qJ (Dn _ h)],hs,λi x hx=>?_,h3,h4⟩
 rw[qE] at hx;split at hx
 ·rename_i hi;have hm:(i+1) * T.size<=m * T.size:=Dn _ hi;rw[UV] at hm;rw[qk,W,Dp (by omega)];grind
 ·cases hx
theorem OTy.rels_replicate{Z:FS}{c:List Value}(h:T.rel Z zc.none c q)(m:Nat):T.rels Z zc.none ((N m c).flatten) (N m q):=by
 have hl:=T.len h;refine⟨by simp[hl],λ_=>zc.none,λi x hx=>?_,λ_ _ _=>zc.none_disj _,λ_ =>.refl _⟩;obtain⟨hi,rfl⟩:i < m/\q=x:=by
  grind
 have:(((N m c).flatten).drop (i * T.size)).take T.size=c:=by
  obtain⟨r,rfl⟩:∃r,m=i+1+r:=⟨m - (i+1),by omega⟩
  have e1:((N i c).flatten).length=i * T.size:=by simp[hl]
  rw[<- qN,<- qN,qO,qO,Df,<- e1,qF];grind
 grind
theorem ztc{w:World}{q:Nat}{cur:List Value}(hs:h.sub w)(h0:h q 0=D (.shape e cur.length))(hc:∀(j:Nat) (u:Value),cur[j]?=D u->h q (j+1)=D (.cell u)):w.heap[q]?=D (.cells cur.toArray e (0,0)):=by
 let⟨c,h1,_,h3⟩:=hs _ _ _ h0;have:c=cur.toArray:=by
  apply Array.ext_getElem?;intro o;cases hu:cur[o]? with
  |none=>
   grind
  |some u=>
   let⟨c',e',o',k1,k2,k3⟩:=hs _ _ _ (hc o u hu);grind
 rw[h1,this]
section
variable {ρ:Type}{n:Nat}{w0:Start}{w:World}{σ0 Z:FS}{p:U7 ρ}{G:ρ->Act->World->Prop}{L:List (Nat×Value)}{b:Nat->Value}{PV PV':List Priv}
variable {P:Program}{ops:Array Oper}{o:Oper}{rest:List Oper}
variable {H:U7 ρ->List (Nat×Value)->FS->List Priv->Prop}{d:Nat}{v:Value}{t t' ty:TypeId}{ps:String}{af:Array Edge}{g:U7 (Nat×Bool)}
variable {x y z:Operand}{k:IntKind}{i j:Int}
theorem Inv.replace {R:World->List Priv->Prop}{C:List Priv}(hi:Inv w0 σ0 Z (A++C) w)
    (hw:∀hA,Sep Z A hA->hA.sub w->∃w' A' hA',R w' A'/\Sep Z A' hA'/\hA'.sub w'/\Ext w hA w'/\∀b i,(hA' b i).isSome->(hA b i).isSome\/w.heap.size<=b):∃w' A',R w' A'/\Inv w0 σ0 Z (A'++C) w':=by
 let⟨h,hs,hg⟩:=hi.own;let⟨h1,h2,s1,s2,e2,e3,e4⟩:=hs.split;let⟨w',A',h1',hR,f1,f2,f3,f4⟩:=hw h1 s1 (hg.sub.mono e2);have hd:h1'.disj h2:=by
  intro b i;cases hx:h1' b i with
  |none=>exact .inl rfl
  |some x=>
   right;rcases f4 b i (by simp[hx]) with q | q
   · rcases e4 b i with z | z
     all_goals grind
   · cases hy:h2 b i with
     |none=>rfl
     |some y=>have:=Bit.at_lt (hg.sub b i y (e3 b i y hy));omega
 have g1:=hg.mono e2;have hmine:∀b i,b < w0.w.heap.size->(h1 b i).isSome->(w0.h b i).isSome:=λb i hb hx=>by
  rcases g1.mine b i hx with q | q
  ·omega
  ·exact q
 refine⟨w',A',hR,f3.held g1.apart hi.sub,hi.le,hi.fresh,⟨h1'.or h2,f1.append s2 (zc.le_or _ _) (zc.le_or_right hd) hd,zc.or_sub f2 (f3.frag e4 (hg.sub.mono e3)),λb o hx=>?_,λb i hx=>?_⟩,hi.ext.trans f3 hmine⟩
 all_goals
  unfold zc.or at hx
 · cases hx1:h1' b (o+1) with
   |some y=>
    rcases f4 b (o+1) (by simp[hx1]) with q | q
    ·exact g1.apart b o q
    · cases hy:Z b o with
      |none=>rfl
      |some v=>have:=hi.lt hy;omega
   |none=>rw[hx1] at hx;exact(hg.mono e3).apart b o (by simpa using hx)
 · cases hx1:h1' b i with
   |some y=>
    rcases f4 b i (by simp[hx1]) with q | q
    ·grind
    ·exact .inl (UP hi.ext.size q)
   |none=>rw[hx1] at hx;exact(hg.mono e3).mine b i (by simpa using hx)
theorem zhn(z:Array Value)(m:Nat)(hz:0 < z.size):(madeCells z (m * z.size)).toList=(N m z.toList).flatten:=by
 apply UK;intro q;have hl:(N m z.toList).flatten.length=m * z.size:=by simp
 by_cases hq:q < m * z.size
 ·have h1:(madeCells z (m * z.size)).toList[q]?=D (z[q % z.size]!):=by
   simp[madeCells,hq]
  rw[h1];clear h1 hl
  induction m generalizing q with
  |zero=>simp at hq
  |succ m ih=>
   simp only[List.replicate_succ,List.flatten_cons];by_cases h:q < z.size
   ·rw[Dh (by simpa using h),Nat.mod_eq_of_lt h];simp[h]
   ·rw[Dg (by simpa using h)];simp only[qW];rw[<- ih (q - z.size) (by grind)];congr 2
    conv=>lhs;rw[show q=(q - z.size)+z.size by omega]
    rw[Nat.add_mod_right]
 ·rw[US (by simp[size_madeCells];omega),US (by rw[hl];omega)]
theorem zf0{bytes:Nat}{i:Int}(h:XQ bytes i q=D s):0<=i/\bytes * i.toNat<=140737488355328/\i<=140737488355328/\s=⟨N i.toNat q,F⟩:=by
 unfold XQ at h;grind
def Ye(vs:List Value):List Value:=(vs.map λv=>v.cells.toList).flatten
theorem znj {k':IntKind}{kk:Sl α->U7 ρ}(hn:O d n=F) (hu:P.underlying t=D (.slice e)) (hi':P.info? e=D ti) (hz:ti.zero=D zv) (hsz:ti.size=T.size)
    (h0:O 0 T.size=F) (hx:opv L b x = .int k i) (hy:opv L b y = .int k' i) (hr:∀Z,T.rel Z zc.none zv.cells.toList q)
    (h:∀s v,XQ ti.bytes i q=D s->H (kk s) ((d,v)::L) Z (.row T e v s::PV)) :
    Xl P n w0 σ0 ⟨D d,.makeSlice t x y,ty,ps,af,g⟩ ((XQ ti.bytes i q).bind kk) L b Z PV H:=by
 intro r hp a w hi hf K Q hK;cases hm:XQ ti.bytes i q with
 |none=>grind
 |some s=>
  rw[hm] at hp;obtain⟨h1,h2,h3,rfl⟩:=zf0 hm;obtain⟨m,rfl⟩:∃m:Nat,i=(m:Int):=⟨i.toNat,by omega⟩
  simp only[Int.toNat_natCast] at h2 hm hp;have hzs:zv.cells.size=T.size:=by simpa using T.len (hr Z)
  have hT:0 < T.size:=by simpa using h0
  have hrun:=run_make (P:=P) w t e ti zv hu hi' hz k k' (m:Int) (m:Int) (by omega) (by omega) (Int.ofNat_le.2 (UP h2 (by decide):ti.bytes * m<=281474976710656)) (by omega);simp only[Int.toNat_natCast] at hrun;have hfl:=zhn zv.cells m (by omega);rw[hzs] at hfl;rw[hsz] at hrun;unfold qb;have hrun':(execOp a.eval ⟨D d,.makeSlice t x y,ty,ps,af,g⟩).run P w = .ok (.value (.slice (D ⟨w.heap.size,0,E⟩) m m)) (w.alloc (.cells (madeCells zv.cells (m * T.size)) e)):=by
   rw[hf.eval];simp[execOp,hx,hy,hrun]
  rw[hrun',qc];refine hK _ _ Z _ _ _ hp (hi.cons (p :=.row T e (.slice (D ⟨w.heap.size,0,E⟩) m m) ⟨N m q,F⟩) (h1:=Za w.heap.size e (madeCells zv.cells (m * T.size))) ?_ (x7 (yV _ _)) (vq _ _ _ _) λb i hb=>by rw[(Yu hb).1];grind) (hf.put (by simpa[Dd] using hn) _) (h _ _ (by rw[hm]));have hlen:(madeCells zv.cells (m * T.size)).toList.length=m * T.size:=by rw[hfl];simp[hzs]
  refine .inr <| .inr ⟨w.heap.size,m,(madeCells zv.cells (m * T.size)).toList,_,zc.none,by simp,rfl,by simp,by unfold maxLen;omega,by grind,.refl _,?_,λj u hj=>XS hj,zc.none_le _,zc.disj_none _,?_⟩
  ·rw[wY];simp
  ·simp only[List.length_replicate];rw[Dq (by omega),hfl];exact OTy.rels_replicate (hr Z) m
def zob(T:OTy α)(Z:FS)(h:zc)(vs:List Value)(xs:List α):Prop:=T.rels Z h (Ye vs) xs/\vs.length=xs.length/\∀v∈vs,v.cells.size=T.size
def zbA:Nat->List Value->List (Nat×Value)
 |_,[]=>[]
 |m,v::r=>(m,v)::zbA (m+1) r
theorem zik (c:List Value):∀(cs:Array Value) (off k:Nat),off+k+c.length<=cs.size->
    ((c.zipIdx k).foldl (λa (q:Value×Nat)=>a.setIfInBounds (off+q.2) q.1) cs).toList=cs.toList.take (off+k)++c++cs.toList.drop (off+k+c.length):=by
 induction c with
 |nil=>intro cs off k h;simp
 |cons u c ih=>
  intro cs off k h;simp only[jz] at h;simp only[List.zipIdx_cons,List.foldl_cons];rw[ih _ off (k+1) (by simp;omega)];have h2:off+k < cs.toList.length:=by simp;omega
  simp only[Array.toList_setIfInBounds,jz];rw[show off+(k+1)=off+k+1 by omega,List.take_succ_eq_append_getElem (by simp;omega)];rw[List.take_set_of_le (by omega),List.drop_set_of_lt (by omega)];grind
theorem zkB (size:Nat):∀(vs:List Value) (m:Nat) (cs:Array Value),(∀v∈vs,v.cells.size=size)->(m+vs.length) * size<=cs.size->
    ∃r:Array Value,V (λi=>D (i * size,size)) cs (zbA m vs)=D r/\r.toList=cs.toList.take (m * size)++Ye vs++cs.toList.drop ((m+vs.length) * size)
 |[],m,cs,_,_=>⟨cs,rfl,by simp[Ye]⟩
 |v::vs,m,cs,h,hs=>by
  have hv:=h v (by simp);have hvs:(m+(vs.length+1)) * size=m * size+size+vs.length * size:=by grind
  simp only[jz] at hs;have hfit:m * size+v.cells.size<=cs.size:=by rw[hv];omega
  have hfold:=zik v.cells.toList cs (m * size) 0 (by simp;omega);have hmz:(m+1) * size=m * size+size:=by grind
  have hcells:v.cells.toList.length=size:=by simp[hv]
  let⟨r,hr,hrl⟩:=zkB size vs (m+1) ((v.cells.toList.zipIdx 0).foldl (λa (q:Value×Nat)=>a.setIfInBounds (m * size+q.2) q.1) cs) (λu hu=>h u (by simp[hu])) (by
   have hsz:((v.cells.toList.zipIdx 0).foldl (λa (q:Value×Nat)=>a.setIfInBounds (m * size+q.2) q.1) cs).size=cs.size:=by
    rw[<- qW,hfold];simp;omega
   grind)
  refine⟨r,?_,?_⟩
  · have e0:(v.cells.zipIdx.foldl (λcs (x:Value×Nat)=>cs.setIfInBounds (m * size+x.2) x.1) cs)=(v.cells.toList.zipIdx 0).foldl (λa (q:Value×Nat)=>a.setIfInBounds (m * size+q.2) q.1) cs:=by
      rw[<- qX];simp
    simp only[zbA,V];grind
  · rw[hrl,hfold,hmz];simp only[Di,hcells];have h1:(cs.toList.take (m * size)++v.cells.toList).length=m * size+size:=by grind
    have h2:(cs.toList.take (m * size)++v.cells.toList++cs.toList.drop (m * size+size)).take (m * size+size)=cs.toList.take (m * size)++v.cells.toList:=by grind
    have h3:(cs.toList.take (m * size)++v.cells.toList++cs.toList.drop (m * size+size)).drop ((m+1+vs.length) * size)=cs.toList.drop ((m+(v::vs).length) * size):=by
     rw[show(m+1+vs.length) * size=(m * size+size)+vs.length * size by grind,<- qo];rw[show(cs.toList.take (m * size)++v.cells.toList++cs.toList.drop (m * size+size)).drop (m * size+size)=cs.toList.drop (m * size+size) by grind];rw[qo];grind
    rw[h2,h3];simp[Ye,Df]
theorem vE {parts:Array (Nat×Operand)}{vs:List Value}{xs:List α}(A C:List Priv) (hn:O d n=F) (hu:P.underlying t=D (.slice e)) (hi':P.info? e=D ti)
    (hz:ti.zero=D zv) (hsz:ti.size=T.size) (h24:qB (m * T.size) 16777216=F) (h0:O 0 T.size=F) (hp:(parts.toList.map λq=>(q.1,opv L b q.2))=zbA 0 vs) (hm:vs.length=m)
    (hr:∀h,Sep Z A h->∃g,g.le h/\zob T Z g vs xs)
    (h:∀v,H p ((d,v)::L) Z (.row T e v ⟨xs,F⟩::C)):Xl P n w0 σ0 ⟨D d,.buildSlice t m parts,ty,ps,af,g⟩ p L b Z (A++C) H:=by
 intro r hpr a w hi hf K Q hK;have hT:0 < T.size:=by simpa using h0
 have h24':m * T.size<=16777216:=by simpa using h24
 unfold qb;refine Exists.elim (hi.replace (R:=λw' A'=>(execOp a.eval ⟨D d,.buildSlice t m parts,ty,ps,af,g⟩).run P w = .ok (.value (.slice (D ⟨w.heap.size,0,E⟩) m m)) w'/\A'=[Priv.row T e (.slice (D ⟨w.heap.size,0,E⟩) m m) ⟨xs,F⟩]) ?_) ?_
 · intro hA sA subA;let⟨gA,hgA,hrel,hlen,hsize⟩:=hr hA sA;have hml:m=xs.length:=by grind
   have hfl:(Ye vs).length=m * T.size:=by rw[hrel.1,hml]
   have hnew:∀b i,(gA b i).isSome->b < w.heap.size:=λb i hx=>by
    let⟨x,hx⟩:=UQ.1 hx;exact Bit.at_lt (subA _ _ _ (hgA _ _ _ hx))
   have hdj:(Za w.heap.size e (Ye vs).toArray).disj gA:=λb i=>by
    cases hx:Za w.heap.size e (Ye vs).toArray b i with
    |none=>exact .inl rfl
    |some y=>
     right;have:=(Yu (b:=b) (k:=i) (by rw[hx];rfl)).1;cases hy:gA b i with
     |none=>rfl
     |some z=>grind
   refine⟨w.alloc (.cells (Ye vs).toArray e (0,0)),_,(Za w.heap.size e (Ye vs).toArray).or gA,⟨?_,rfl⟩,Sep.one ?_,zc.or_sub (x7 (yV _ _)) ((vq w _ _ zc.none).frag (zc.none_disj _) (subA.mono hgA)),vq _ _ _ _,λb i hx=>?_⟩
   · rw[hf.eval];have hpl:(parts.map λ(q:Nat×Operand)=>(q.1,opv L b q.2)).toList=zbA 0 vs:=by rw[qU];exact hp
     have key:∀zero:Array Value,V (λi=>D (i * T.size,T.size)) ((qV (m * T.size)).map (zero[· % zero.size]!)) (parts.map λ(q:Nat×Operand)=>(q.1,opv L b q.2)).toList=D (Ye vs).toArray:=by
      intro zero;let⟨r,hr1,hr2⟩:=zkB T.size vs 0 ((qV (m * T.size)).map (zero[· % zero.size]!)) hsize (by simp[<- hm]);have hr3:r=(Ye vs).toArray:=by
       grind
      grind
     have hb:(qS t m (parts.map λq=>(q.1,opv L b q.2))).run P w = .ok (.slice (D ⟨w.heap.size,0,E⟩) m m) (w.alloc (.cells (Ye vs).toArray e (0,0))):=by
      unfold qS;simp only[UZ,UY hu,Da,sizeOf,typeInfo,Db,hi',UX,hsz];rw[jx (by omega)];by_cases h00:m * T.size=0
      ·rw[jv h00];simp only[UZ,UX,Da,key];simp[newRow,newObj,Sem.run]
      ·rw[jx h00];simp only[UZ,UX,Da,zeroValue,typeInfo,Db,hi',hz,key];simp[newRow,newObj,Sem.run]
     simp only[execOp,UZ,hb,Da,UX]
   · refine .inr <| .inr ⟨w.heap.size,m,Ye vs,Za w.heap.size e (Ye vs).toArray,gA,by rw[hml],rfl,by grind,?_,by grind,zc.le_or _ _,?_,λj u hj=>XS (by simpa using hj),zc.le_or_right hdj,hdj,?_⟩
     ·have:m<=m * T.size:=Nat.le_mul_of_pos_right m hT;unfold maxLen;omega
     ·rw[wY];simp
     grind
   · unfold zc.or at hx;cases hy:Za w.heap.size e (Ye vs).toArray b i with
     |some z=>have:=(Yu (b:=b) (k:=i) (by rw[hy];rfl)).1;right;omega
     |none=>rw[hy] at hx;left;exact hgA.isSome (by simpa using hx)
 ·rintro w' ⟨A',⟨hrun,rfl⟩,hi2⟩;rw[hrun,qc];exact hK p _ Z _ _ _ hpr hi2 (hf.put (by simpa[Dd] using hn) _) (h _)
theorem zil{bytes:Nat}{ts:List α}(h:zo bytes s ts=D s'):(s.xs.length+ts.length) * bytes<=140737488355328/\s.xs.length+ts.length<=140737488355328/\s'=⟨s.xs++ts,s.nn || !ts.isEmpty⟩:=by
 unfold zo at h;grind
def vt(w:World)(u:Value)(m:Nat)(news:List Value):Prop:=
 (u = .slice E 0 0/\m=0/\news=[])\/∃a c,u = .slice (D a) m c/\∀(j:Nat) (q:Value),news[j]?=D q->w.cell? (a.add j)=D q
theorem zaa {ts:List α}{kk:Sl α->U7 ρ}(A C:List Priv) (hn:O d n=F) (hu:P.underlying t=D (.slice e)) (hi':P.info? e=D ti)
    (hz:ti.zero=D zv) (hzs:zv.cells.size=T.size) (hsz:ti.size=T.size) (h0:O 0 T.size=F) (hx:opv L b x=v) (hy:opv L b y=u)
    (hs:∀w g,Y4 Z (.row T e v s::(A++C)) w->Sep Z A g->g.sub w->∃gA news,gA.le g/\T.rels Z gA news ts/\vt w u ts.length news)
    (h:∀s' v',zo ti.bytes s ts=D s'->H (kk s') ((d,v')::L) Z (.row T e v' s'::C)) :
    Xl P n w0 σ0 ⟨D d,.call {callee :=.builtin .append,args:= #[x,y],argTypes:= #[t,t]},ty,ps,af,g⟩ ((zo ti.bytes s ts).bind kk) L b Z (.row T e v s::(A++C)) H:=by
 intro r hp a w hi hf K Q hK;cases hg:zo ti.bytes s ts with
 |none=>grind
 |some s'=>
 rw[hg] at hp;obtain⟨hb,hb2,rfl⟩:=zil hg;have hT:0 < T.size:=by simpa using h0
 have hheld:=hi.held;have hi0:Inv w0 σ0 Z ((.row T e v s::A)++C) w:=hi;refine Exists.elim (hi0.replace (R:=λw' A'=>∃v',(M #[t,t] ty #[v,u]).run P w = .ok v' w'/\A'=[Priv.row T e v' ⟨s.xs++ts,s.nn || !ts.isEmpty⟩]) ?_) ?_
 · intro hA sA subA;let⟨h1,h2,k1,k2,l1,l2,dd⟩:=Sep.uncons sA;have k1:zn T e v s Z h1:=k1;let⟨gA,news,hgA,hrel,hsrc⟩:=hs w h2 hheld k2 (subA.mono l2);have hlt:∀b i,(hA b i).isSome->b < w.heap.size:=λb i hx=>by
     let⟨x,hx⟩:=UQ.1 hx;exact Bit.at_lt (subA _ _ _ hx)
   rcases hsrc with⟨rfl,hl0,rfl⟩ | ⟨ad,c,rfl,hcells⟩
   · have hts:ts=[]:=UT hl0;subst hts;refine⟨w,_,hA,⟨v,?_,rfl⟩,Sep.one ?_,subA,.refl w hA,λb i hx =>.inl hx⟩
     · rcases k1 with⟨rfl,rfl⟩ | ⟨q,rfl,rfl⟩ | ⟨q,cap,cur,hb',gg,rfl,r2,r3,r4,r5,r0,r6,r7,r8,r9,r10⟩
       ·simp[M,UY hu,sizeOf,typeInfo,hi',X,Y]
       ·simp[M,UY hu,sizeOf,typeInfo,hi',X,Y,storeCells]
       ·simp[M,UY hu,sizeOf,typeInfo,hi',X,Y,r3,storeCells]
     ·simp only[List.append_nil,List.isEmpty_nil,Dr,Bool.or_false];exact Priv.mono _ (.refl _) l1 k1
   have hnl:news.length=ts.length * ti.size:=by rw[hsz];exact hrel.1
   have hmt:(ts=[])↔ts.length=0:=by grind
   have fresh:∀(cur2:Array Value) (cap2:Nat) (w1:World) (g:zc) (olds:List Value),w1.heap=w.heap->w1.os=w.os->w1.output=w.output->w1.tape=w.tape->
       cur2.size=cap2 * T.size->s.xs.length+ts.length<=cap2->cap2<=maxLen->ts≠[]\/s.nn=F->g.le h1->T.rels Z g olds s.xs->cur2.toList.take ((s.xs.length+ts.length) * T.size)=olds++news->
       (M #[t,t] ty #[v,.slice (D ad) ts.length c]).run P w = .ok (.slice (D ⟨w.heap.size,0,E⟩) (s.xs.length+ts.length) cap2) (w1.alloc (.cells cur2 e (0,0)))->
       ∃w' A' hA',(∃v',(M #[t,t] ty #[v,.slice (D ad) ts.length c]).run P w = .ok v' w'/\A'=[Priv.row T e v' ⟨s.xs++ts,s.nn || !ts.isEmpty⟩])/\Sep Z A' hA'/\hA'.sub w'/\Ext w hA w'/\∀b i,(hA' b i).isSome->(hA b i).isSome\/w.heap.size<=b:=by
    intro cur2 cap2 w1 g olds e1 e2 e3 e4 hc1 hc2 hc3 hnn hgl hold htake hrun;have hsz1:w1.heap.size=w.heap.size:=by rw[e1]
    have hext:Ext w hA (w1.alloc (.cells cur2 e (0,0))):=by
     refine⟨by simp[qv,e2],by simp[qv,e3],by simp[qv,e4],by simp[e1],λb =>.same λhb=>by rw[V9 _ _ _ (by omega),e1],λa _ _=>?_⟩;rw[zc4];unfold qs;rw[e1]
    have hnew2:(w1.alloc (.cells cur2 e (0,0))).heap[w.heap.size]?=D (.cells cur2 e (0,0)):=by rw[<- hsz1];exact yV _ _
    have hgg:(g.or gA).le hA:=zc.or_le (hgl.trans l1) (hgA.trans l2);have hdd:(Za w.heap.size e cur2).disj (g.or gA):=λb i=>by
     cases hx:Za w.heap.size e cur2 b i with
     |none=>exact .inl rfl
     |some y=>
      right;have:=(Yu (b:=b) (k:=i) (by rw[hx];rfl)).1;cases hy:(g.or gA) b i with
      |none=>rfl
      |some z=>have:=hlt b i (hgg.isSome (by simp[hy]));omega
    refine⟨_,_,(Za w.heap.size e cur2).or (g.or gA),⟨_,hrun,rfl⟩,Sep.one ?_,zc.or_sub (x7 hnew2) ?_,hext,λb i hx=>?_⟩
    · refine .inr <| .inr ⟨w.heap.size,cap2,cur2.toList,Za w.heap.size e cur2,g.or gA,by simp,?_,by simp;omega,hc3,by simp[hc1],zc.le_or _ _,by rw[wY];simp,λj u hj=>XS hj,zc.le_or_right hdd,hdd,?_⟩
      · rcases hnn with h | h
        all_goals grind
      ·simp only[jy];rw[htake];exact OTy.rels_append hold hrel (dd.mono hgl hgA)
    · refine zc.sub.mono (h:=g.or gA) (g:=g.or gA) ?_ (.refl _);intro b i y hy;have h3:=subA b i y (hgg _ _ _ hy);have h4:=Bit.at_lt h3;have h5:(w1.alloc (.cells cur2 e (0,0))).heap[b]?=w.heap[b]?:=by rw[V9 _ _ _ (by omega),e1]
      cases y<;>(unfold Bit.at at h3 |-;grind)
    · unfold zc.or at hx;cases hy:Za w.heap.size e cur2 b i with
      |some z=>have:=(Yu (b:=b) (k:=i) (by rw[hy];rfl)).1;right;omega
      |none=>rw[hy] at hx;left;exact hgg.isSome (by simpa[zc.or] using hx)
   have hmax:s.xs.length+ts.length<=maxLen:=by unfold maxLen;omega
   have grow:∀(old:Nat) (g:zc) (olds:List Value) (row:Value),olds.length=s.xs.length * T.size->old < s.xs.length+ts.length->ts≠[]\/s.nn=F->g.le h1->T.rels Z g olds s.xs->v=row->
       (M #[t,t] ty #[row,.slice (D ad) ts.length c]).run P w = .ok (.slice (D ⟨w.heap.size,0,E⟩) (s.xs.length+ts.length) (grownCap w (s.xs.length+ts.length) old e))
         (w.drew.alloc (.cells (olds.toArray++news.toArray++Builtin.zeroCells zv.cells (grownCap w (s.xs.length+ts.length) old e - (s.xs.length+ts.length))) e))->
       ∃w' A' hA',(∃v',(M #[t,t] ty #[v,.slice (D ad) ts.length c]).run P w = .ok v' w'/\A'=[Priv.row T e v' ⟨s.xs++ts,s.nn || !ts.isEmpty⟩])/\Sep Z A' hA'/\hA'.sub w'/\Ext w hA w'/\∀b i,(hA' b i).isSome->(hA b i).isSome\/w.heap.size<=b:=by
    intro old g olds row hol hold hnn hgl hold2 hv hrun;subst hv;have hge:=grownCap_ge w (s.xs.length+ts.length) old e;have hnl2:news.length=ts.length * T.size:=hrel.1;refine fresh _ _ w.drew g olds rfl rfl rfl rfl ?_ hge (grownCap_le_maxLen w _ old e hmax) hnn hgl hold2 ?_ hrun
    ·simp only[Array.size_append,qM,size_zeroCells,hzs,hol,hnl2,<- UV];congr 1;omega
    ·simp only[Array.toList_append,Df];rw[<- Df,show(s.xs.length+ts.length) * T.size=(olds++news).length by grind];grind
   rcases k1 with⟨rfl,rfl⟩ | ⟨aq,rfl,rfl⟩ | ⟨q,cap,cur,hbk,gg,rfl,r2,r3,r4,r5,r0,r6,r7,r8,r9,r10⟩
   · by_cases hm0:ts.length=0
     · have hts:=hmt.2 hm0;subst hts;refine⟨w,_,hA,⟨.slice E 0 0,?_,rfl⟩,Sep.one ?_,subA,.refl w hA,λb i hx =>.inl hx⟩
       ·simp[M,UY hu,sizeOf,typeInfo,hi',X,Y,loadCells,loadCellsFrom]
       ·exact .inl ⟨rfl,rfl⟩
     ·have hr3:=run_append_nil (P:=P) w t ty e ti zv hu hi' hz ad ts.length c news hnl hcells (by omega) (by omega) (by grind);exact grow 0 zc.none [] _ (by simp) (by simp;omega) (.inl λhh=>hm0 (by simp[hh])) (zc.none_le _) OTy.rels_nil rfl (by grind)
   · by_cases hm0:ts.length=0
     · have hts:=hmt.2 hm0;subst hts;refine⟨w,_,hA,⟨.slice (D aq) 0 0,?_,rfl⟩,Sep.one ?_,subA,.refl w hA,λb i hx =>.inl hx⟩
       ·simp[M,UY hu,sizeOf,typeInfo,hi',X,Y,loadCells,loadCellsFrom,storeCells]
       ·exact .inr (.inl ⟨aq,rfl,rfl⟩)
     ·have hr3:=run_append_grow (P:=P) w t ty e ti zv hu hi' hz aq 0 0 [] (by simp) (by simp) ad ts.length c news hnl hcells (by omega) (by omega) (growslice_fits (by omega) (by grind));exact grow 0 zc.none [] _ (by simp) (by simp;omega) (.inr rfl) (zc.none_le _) OTy.rels_nil rfl (by grind)
   · have l0:hbk.le hA:=r0.trans l1;have hcurA:=ztc (subA.mono l0) r6 r7;have holds:∀j u,(cur.take (s.xs.length * T.size))[j]?=D u->w.cell? ((⟨q,0,E⟩:Addr).add j)=D u:=λj u hj=>by
       rw[Addr.add_eq _ rfl];rw[qE] at hj;split at hj
       ·simpa using(subA.mono l0).cell (r7 j u hj)
       ·cases hj
     by_cases hroom:s.xs.length+ts.length<=cap
     · have hfit:s.xs.length * ti.size+news.length<=cur.toArray.size:=by rw[hnl,hsz,<- UV];simp only[qM];exact UP (Dn _ hroom) r5
       have hrun:=run_append_room (P:=P) w t ty e ti hu hi' q s.xs.length cap cur.toArray hcurA ad ts.length c news hnl hcells (OTy.rels_one hrel) hroom hfit;rw[hsz] at hrun hfit;have hlt3:∀j,j < news.length->s.xs.length * T.size+j < cur.length:=λj hj=>by grind
       let⟨p1,p2⟩:=zfZ (q:=q) (off:=s.xs.length * T.size) (vs:=news) (subA.mono l0) hcurA (by grind) (λj hj=>
        ⟨_,by rw[show s.xs.length * T.size+j+1=(s.xs.length * T.size+j)+1 by omega];exact r7 _ _ (UM (hlt3 j hj))⟩)
       have hdom:∀b i,((hbk.put q (s.xs.length * T.size) news) b i).isSome->(hbk b i).isSome:=λb i hx=>zc.put_dom (λj hj=>by
        rw[show s.xs.length * T.size+j+1=(s.xs.length * T.size+j)+1 by omega,r7 _ _ (UM (hlt3 j hj))];rfl) hx
       have hgA2:hbk.disj (gg.or gA):=(zc.or_disj r9.symm ((dd.mono r0 hgA).symm)).symm;have hd2:(hbk.put q (s.xs.length * T.size) news).disj (gg.or gA):=λb i=>by
        cases hx:hbk.put q (s.xs.length * T.size) news b i with
        |none=>exact .inl rfl
        |some y=>
         have:=hdom b i (by rw[hx];rfl);rcases hgA2 b i with z | z
         all_goals grind
       have hgl:(gg.or gA).le hA:=zc.or_le (r8.trans l1) (hgA.trans l2);refine⟨_,_,(hbk.put q (s.xs.length * T.size) news).or (gg.or gA),⟨_,hrun,rfl⟩,Sep.one ?_,zc.or_sub p1 (p2.frag hgA2 (subA.mono hgl)),p2.mono l0,λb i hx=>?_⟩
       · have hcl:(cur.take (s.xs.length * T.size)).length=s.xs.length * T.size:=r10.1;have hnl2:news.length=ts.length * T.size:=hrel.1;refine .inr <| .inr ⟨q,cap,cur.take (s.xs.length * T.size)++news++cur.drop (s.xs.length * T.size+news.length),hbk.put q (s.xs.length * T.size) news,gg.or gA,by simp,by simp[r2],by grind,r4,?_,zc.le_or _ _,?_,λj u hj=>?_,zc.le_or_right hd2,hd2,?_⟩
         ·grind
         ·rw[zc.put_out (by omega),r6];grind
         · by_cases c1:j < s.xs.length * T.size
           ·rw[Df,Dh (by omega),Dk c1] at hj;rw[zc.put_out (by omega)];grind
           · by_cases c2:j < s.xs.length * T.size+news.length
             ·rw[Df,Dg (by omega),hcl,Dh (by omega)] at hj;rw[show j+1=s.xs.length * T.size+(j - s.xs.length * T.size)+1 by omega];exact zc.put_in hj
             ·rw[Dg (by grind),Dl] at hj;simp only[jy,hcl] at hj;rw[show s.xs.length * T.size+news.length+(j - (s.xs.length * T.size+news.length))=j by omega] at hj;rw[zc.put_out (by omega)];grind
         ·have hap:=OTy.rels_append r10 hrel (dd.mono r8 hgA);rw[jy,UV,qC (by grind),Dq (by grind)];exact hap
       · unfold zc.or at hx;cases hy:hbk.put q (s.xs.length * T.size) news b i with
         |some z=>left;exact l0.isSome (hdom b i (by rw[hy];rfl))
         |none=>rw[hy] at hx;left;exact hgl.isSome (by simpa[zc.or] using hx)
     ·have hrun:=run_append_grow (P:=P) w t ty e ti zv hu hi' hz ⟨q,0,E⟩ s.xs.length cap (cur.take (s.xs.length * T.size)) (by rw[hsz];exact r10.1) holds ad ts.length c news hnl hcells (by omega) (by omega) (growslice_fits (by omega) hb);exact grow cap gg _ _ r10.1 (by omega) (.inr r2) r8 r10 rfl hrun
 · rintro w' ⟨A',⟨v',hrun,rfl⟩,hi2⟩;unfold qb;have hrun':(execOp a.eval ⟨D d,.call {callee :=.builtin .append,args:= #[x,y],argTypes:= #[t,t]},ty,ps,af,g⟩).run P w = .ok (.value v') w':=by
     rw[hf.eval];simp[execOp,resolve,invoke,builtin,hx,hy,hrun]
   rw[hrun',qc];exact hK _ _ Z _ _ _ hp hi2 (hf.put (by simpa[Dd] using hn) _) (h _ _ hg)
theorem zi1{T:Ty α}(hv:(tSl T).vrel Z u s)(w:World)(g:zc)(hw:Y4 Z PV w)(sA:Sep Z A g)(hg:g.sub w):∃gA news,gA.le g/\T.o.rels Z gA news s.xs/\vt w u s.xs.length news:=by
 obtain⟨a,m,c,rfl,h1,h2,h3,h4,h5,cells,h6,h7⟩:=YN.1 hv;refine⟨zc.none,cells,zc.none_le _,Ty.rels_o.2 h6,?_⟩;cases a with
 |none=>
  obtain⟨rfl,rfl⟩:=h5 rfl;refine .inl ⟨rfl,h1.symm,?_⟩;have:=T.rels_len h6;rw[<- h1] at this;grind
 |some a=>
  refine .inr ⟨a,c,by rw[h1],λj q hq=>?_⟩;let⟨ad,e,hc⟩:=h7 j q hq;cases e;exact hw.1.cell hc
theorem zn.source{w:World}(r:zn T e u s Z h)(hs:h.sub w):∃gA news,gA.le h/\T.rels Z gA news s.xs/\vt w u s.xs.length news:=by
 rcases r with⟨rfl,rfl⟩ | ⟨aq,rfl,rfl⟩ | ⟨q,cap,cur,hb,gg,rfl,r2,r3,r4,r5,r0,r6,r7,r8,r9,r10⟩
 rotate_left
 ·exact⟨zc.none,[],zc.none_le _,OTy.rels_nil,.inr ⟨aq,0,rfl,λj u hj=>by simp at hj⟩⟩
 rotate_left
 ·exact⟨zc.none,[],zc.none_le _,OTy.rels_nil,.inl ⟨rfl,rfl,rfl⟩⟩
 ·refine⟨gg,_,r8,r10,.inr ⟨_,cap,rfl,λj u hj=>?_⟩⟩;rw[Addr.add_eq _ rfl];rw[qE] at hj;split at hj
  ·simpa using hs.cell (r0 _ _ _ (r7 j u hj))
  ·cases hj
theorem zoc{T:Ty α}(m:Nat)(hm:PV[m]?=D (.row T.o e u s))(w:World)(g:zc)(hw:Y4 Z PV w)(sA:Sep Z A g)(hg:g.sub w):∃gA news,gA.le g/\T.o.rels Z gA news s.xs/\vt w u s.xs.length news:=by
 let⟨h,hr,hs⟩:=hw.get hm;let⟨gA,news,_,k2,k3⟩:=zn.source hr hs;exact⟨zc.none,news,zc.none_le _,Ty.rels_o.2 (Ty.rels_o.1 k2),k3⟩
theorem ze0(w:World)(g:zc)(hw:Y4 Z PV w)(sA:Sep Z [.row T e u s] g)(hg:g.sub w):∃gA news,gA.le g/\T.rels Z gA news s.xs/\vt w u s.xs.length news:=
 zn.source sA.one_of hg
def Sl.set(s:Sl α)(i:Int)(x:α):Sl α:=⟨s.xs.set i.toNat x,s.nn⟩
omit [Dfr] in
def Priv.hole(A C:α->Priv):Priv where
 holds Z h:=∀τ g x k,Z.le τ->h.disj g->(A x).holds τ g->h.le k->g.le k->(C x).holds τ k
 mono l m r:=λτ g x k l2 d ha l3 l4=>r τ g x k (l.trans l2) (d.mono m (.refl _)) ha (m.trans l3) l4
def zrt(T:OTy α)(a:Addr)(x:α)(Z:FS)(h:zc):Prop:=∃cs h1 h2,h1.le h/\h2.le h/\h1.disj h2/\Z2 a cs h1/\T.rel Z h2 cs x
omit [Dfr] in
def Priv.elem(T:OTy α)(a:Addr)(x:α):Priv where
 holds Z h:=zrt T a x Z h
 mono l m r:=by let⟨cs,h1,h2,l1,l2,d,r1,r2⟩:=r;exact⟨cs,h1,h2,l1.trans m,l2.trans m,d,r1,T.mono l (.refl _) r2⟩
theorem xv {cur:List Value}{o n:Nat}(ho:o+n<=cur.length) (hc:cs.length=n) (j:Nat) :
    (cur.take o++cs++cur.drop (o+n))[j]?=if o<=j/\j < o+n then cs[j - o]? else cur[j]?:=by
 have htl:(cur.take o).length=o:=by simp;omega
 by_cases h1:j < o
 ·grind
 · by_cases h2:j < o+n
   ·rw[jv ⟨by omega,h2⟩,Df,Dg (by omega),htl,Dh (by omega)]
   ·rw[jx (by omega),Dg (by grind),Dl];grind
theorem Vy (r:zn T e v s Z h) (hq:za s i=D q) :
    Sep Z [.hole (λx =>.elem T (zh v (i.toNat * T.size)) x) (λx =>.row T e v (s.set i x)),.elem T (zh v (i.toNat * T.size)) q] h:=by
 have hlt:=za6 hq;rcases r with⟨_,rfl⟩ | ⟨_,_,rfl⟩ | ⟨b,cap,cur,hb,g,rfl,r2,r3,r4,r5,r0,r6,r7,r8,r9,r10⟩
 ·grind
 ·grind
 let⟨k1,hs,k2,k3,k4⟩:=r10;have hx:=(yK.1 hq).2;have hbound:i.toNat * T.size+T.size<=s.xs.length * T.size:=by
  have:(i.toNat+1) * T.size<=s.xs.length * T.size:=Dn _ (by omega);grind
 have hcap:s.xs.length * T.size<=cap * T.size:=Dn _ r3;have hsel:((cur.take (s.xs.length * T.size)).drop (i.toNat * T.size)).take T.size=(cur.drop (i.toNat * T.size)).take T.size:=by
  rw[qk,W,Dp (by omega)]
 have hci:=k2 i.toNat q hx;rw[hsel] at hci;have hea:zh (.slice (D ⟨b,0,E⟩) s.xs.length cap) (i.toNat * T.size)=⟨b,i.toNat * T.size,E⟩:=by
  show(⟨b,0,E⟩:Addr).add _=_;rw[Addr.add_eq _ rfl];simp
 have hsb:∀j b' m y,hs j b' m=D y->hb b' m=none:=λj b' m y hy=>by
  rcases r9 b' m with z | z
  ·exact z
  ·rw[k4 j b' m y hy] at z;cases z
 classical
 let inn:Nat->Nat->Prop:=λb' k=>b'=b/\i.toNat * T.size < k/\k<=i.toNat * T.size+T.size
 let oth:Nat->Nat->Prop:=λb' k=>∃j,j≠i.toNat/\(hs j b' k).isSome
 let fo:zc:=λb' k=>if inn b' k then(if oth b' k then h b' k else E) else if(hb b' k).isSome\/oth b' k then h b' k else E
 let fc:zc:=λb' k=>if inn b' k then hb b' k else E
 have lo:fo.le h:=λb' k x hx=>by
  simp only[fo] at hx;split at hx<;>split at hx<;>first | exact hx | cases hx
 have lc:fc.le h:=λb' k x hx=>by
  simp only[fc] at hx;split at hx
  ·exact r0 _ _ _ hx
  ·cases hx
 have le2:(hs i.toNat).le h:=(k4 _).trans r8;have dce:fc.disj (hs i.toNat):=λb' k=>by
  cases hy:hs i.toNat b' k with
  |none=>exact .inr rfl
  |some y=>grind
 have doe:fo.disj (fc.or (hs i.toNat)):=λb' k=>by
  cases hi:hs i.toNat b' k with
  |some y=>
   left;have ho:¬ oth b' k:=by
    rintro⟨j,hj,hsm⟩;rcases k3 j i.toNat hj b' k with z | z
    all_goals grind
   grind
  |none=>
   cases hc:fc b' k with
   |none=>right;simp[zc.or,hc,hi]
   |some y=>
    left;simp only[fc] at hc;split at hc
    · rename_i hin;have ho:¬ oth b' k:=by
        rintro⟨j,hj,hsm⟩;let⟨z,hz⟩:=UQ.1 hsm;grind
      grind
    ·cases hc
 have hcc:Z2 ⟨b,i.toNat * T.size,E⟩ ((cur.drop (i.toNat * T.size)).take T.size) fc:=by
  refine⟨rfl,λj u hj=>?_⟩;have hj':j < T.size:=by
   grind
  rw[Dk hj',Dl] at hj;grind
 refine .cons (h1:=fo) (h2:=fc.or (hs i.toNat)) ?_ (Sep.one ⟨_,fc,hs i.toNat,zc.le_or _ _,zc.le_or_right dce,dce,by grind,hci⟩) lo (zc.or_le lc le2) doe;intro τ g2 x k l2 dg ⟨cs,h1,h2,q1,q2,q3,q4,q5⟩ lk lg;rw[hea] at q4;have hcl:=T.len q5;have hget:=xv (cur:=cur) (o:=i.toNat * T.size) (n:=T.size) (cs:=cs) (by omega) hcl
 let hn:zc:=λb' m=>if inn b' m then h1 b' m else hb b' m
 let gn:zc:=λb' m=>if(hn b' m).isSome then E else k b' m
 have hfo:∀b' m y,hb b' m=D y->¬ inn b' m->fo b' m=D y:=λb' m y hy hin=>by
  simp only[fo,hin,jp];rw[jv (.inl (by simp[hy]))];exact r0 _ _ _ hy
 have hfo2:∀j b' m y,j≠i.toNat->hs j b' m=D y->fo b' m=D y:=λj b' m y hj hy=>by
  have ho:oth b' m:=⟨j,hj,by simp[hy]⟩;have e:fo b' m=h b' m:=by simp[fo,ho]
  rw[e];exact r8 _ _ _ (k4 _ _ _ _ hy)
 have hnk:hn.le k:=λb' m y hy=>by
  simp only[hn] at hy;split at hy
  ·exact lg _ _ _ (q1 _ _ _ hy)
  ·exact lk _ _ _ (hfo _ _ _ hy (by assumption))
 have no_g2:∀b' m y,fo b' m=D y->g2 b' m=none:=λb' m y hy=>by
  rcases dg b' m with z | z
  ·rw[z] at hy;cases hy
  ·exact z
 have none_of:∀{f:zc} {b' m},f.le g2->g2 b' m=E->f b' m=none:=λ{f b' m} l z=>by
  cases hy:f b' m with
  |none=>rfl
  |some y=>rw[l _ _ _ hy] at z;cases z
 refine .inr <| .inr ⟨b,cap,cur.take (i.toNat * T.size)++cs++cur.drop (i.toNat * T.size+T.size),hn,gn,by simp[Sl.set],r2,by simpa[Sl.set] using r3,r4,?_,hnk,?_,λj u hj=>?_,?_,λb' m=>?_,?_⟩
 ·simp only[jy,Do,UU,hcl];omega
 ·simp only[hn];rw[jx (by intro hh;have:=hh.2.1;omega),r6];congr 2;simp only[jy,Do,UU,hcl];omega
 · rw[hget] at hj;split at hj
   · rename_i hin;simp only[hn];rw[jv ⟨rfl,by omega,by omega⟩];have:=q4.2 _ u hj;simp only at this
     rwa [show i.toNat * T.size+(j - i.toNat * T.size)+1=j+1 by omega] at this
   ·rename_i hin;simp only[hn];rw[jx (by intro hh;exact hin ⟨by have:=hh.2.1;omega,by have:=hh.2.2;omega⟩)];exact r7 j u hj
 · intro b' m y hy;simp only[gn] at hy;split at hy
   ·cases hy
   ·exact hy
 · cases hy:hn b' m with
   |none=>exact .inl rfl
   |some y=>right;simp[gn,hy]
 · have hlen:(s.set i x).xs.length=s.xs.length:=by simp[Sl.set]
   rw[hlen];refine⟨?_,λj=>if j=i.toNat then h2 else hs j,λj y hy=>?_,λj j' hj=>?_,λj=>?_⟩
   ·rw[hlen,Do,jy,jy,Do,UU,hcl];omega
   · have hjl:j < s.xs.length:=by rw[<- hlen];exact(UG.1 hy).1
     have hjb:j * T.size+T.size<=s.xs.length * T.size:=by
      have:(j+1) * T.size<=s.xs.length * T.size:=Dn _ hjl;rw[UV] at this;omega
     rw[qk,W,Dp (by omega)];by_cases hji:j=i.toNat
     · subst hji;have:x=y:=by
         have hy2:=hy;simp only[Sl.set] at hy2;rw[UL] at hy2;simp at hy2;exact hy2.2
       subst this;simp only[jq];have htl:(cur.take (i.toNat * T.size)).length=i.toNat * T.size:=by simp;omega
       rw[Df,qP (by omega),List.drop_of_length_le (by omega),Ds,qC (by omega),Dq (by omega)];exact q5
     · simp only [hji,jp];have hy2:s.xs[j]?=D y:=by
         simp only[Sl.set] at hy
         rwa [List.getElem?_set_ne (λe=>hji e.symm)] at hy
       have:=k2 j y hy2;rw[qk,W,Dp (by omega)] at this;have hsame:((cur.take (i.toNat * T.size)++cs++cur.drop (i.toNat * T.size+T.size)).drop (j * T.size)).take T.size=(cur.drop (j * T.size)).take T.size:=by
        apply UK;intro m;by_cases hm:m < T.size
        · rw[Dk hm,Dk hm,Dl,Dl,hget,jx];rintro⟨a1,a2⟩;rcases Nat.lt_or_gt_of_ne hji with hlt' | hlt'
          ·have:(j+1) * T.size<=i.toNat * T.size:=Dn _ hlt';rw[UV] at this;omega
          ·have:(i.toNat+1) * T.size<=j * T.size:=Dn _ hlt';rw[UV] at this;omega
        ·rw[US (by simp;omega),US (by simp;omega)]
       rw[hsame];exact T.mono l2 (.refl _) this
   · show zc.disj (if j=i.toNat then h2 else hs j) (if j'=i.toNat then h2 else hs j');have key:∀a,a≠i.toNat->(hs a).disj h2:=λa ha b' m=>by
       cases hy:hs a b' m with
       |none=>exact .inl rfl
       |some y=>right;exact none_of q2 (no_g2 _ _ _ (hfo2 a b' m y ha hy))
     split<;>split
     ·omega
     ·exact(key _ (by assumption)).symm
     ·exact key _ (by assumption)
     ·exact k3 _ _ hj
   · show zc.le (if j=i.toNat then h2 else hs j) gn;split
     · intro b' m y hy;have hno:hn b' m=none:=by
         simp only[hn];split
         · rcases q3 b' m with z | z
           ·exact z
           ·rw[z] at hy;cases hy
         · rename_i hin;cases hz:hb b' m with
           |none=>rfl
           |some z=>have:=none_of q2 (no_g2 _ _ _ (hfo _ _ _ hz hin));rw[this] at hy;cases hy
       simp only[gn,hno];exact lg _ _ _ (q2 _ _ _ hy)
     · rename_i hji;intro b' m y hy;have hf:=hfo2 j b' m y hji hy;have hno:hn b' m=none:=by
         simp only[hn];split
         ·exact none_of q1 (no_g2 _ _ _ hf)
         ·exact hsb _ _ _ _ hy
       simp only[gn,hno];exact lk _ _ _ hf
end
end
section
variable [Dfr]
section
variable {ρ:Type}{n:Nat}{w0:Start}{w:World}{σ0 Z:FS}{p:U7 ρ}{G:ρ->Act->World->Prop}{L:List (Nat×Value)}{b:Nat->Value}{PV PV':List Priv}
variable {P:Program}{ops:Array Oper}{o:Oper}{rest:List Oper}
variable {H:U7 ρ->List (Nat×Value)->FS->List Priv->Prop}{d:Nat}{v:Value}{t t' ty:TypeId}{ps:String}{af:Array Edge}{g:U7 (Nat×Bool)}
variable {x y z:Operand}{k:IntKind}{i j:Int}
theorem Sl.set_same(hq:za s i=D q):s.set i q=s:=by
 let⟨h0,h1⟩:=yK.1 hq;unfold Sl.set;let⟨hl,he⟩:=UG.1 h1;rw[<- he,List.set_getElem_self]
theorem OTy.rels_single{x:α}(r:T.rel Z h cs x):T.rels Z h cs [x]:=by
 have hl:=T.len r;refine⟨by simp[hl],λi=>if i=0 then h else zc.none,λi y hy=>?_,λi j hij=>?_,λi=>?_⟩
 ·cases i with
  |zero=>
   grind
  |succ i=>simp at hy
 ·show zc.disj (if i=0 then h else zc.none) (if j=0 then h else zc.none);split<;>split
  ·omega
  ·exact zc.disj_none _
  ·exact zc.none_disj _
  ·exact zc.none_disj _
 ·show zc.le (if i=0 then h else zc.none) h;split
  ·exact .refl _
  ·exact zc.none_le _
theorem wn{lo hi:Int}(h:z7 s lo hi=D s'):0<=lo/\lo<=hi/\hi<=s.xs.length/\s'=⟨(s.xs.take hi.toNat).drop lo.toNat,s.nn⟩:=by
 unfold z7 at h;grind
def YP(L:List (Nat×Value))(b:Nat->Value)(x:U7 Operand)(dflt i:Int):Prop:=
 match x with
 |none=>i=dflt
 |some x=>∃k,opv L b x = .int k i
theorem YC {w:World}{isS:Bool}{c:Nat}{i j:Int}(hl:YP L b lo 0 i) (hh:YP L b hi (m:Int) j) (h0:0<=i) (h1:i<=j) (h2:j<=c) :
    (qQ isS m c (lo.map (opv L b)) (hi.map (opv L b)) E).run P w = .ok (i.toNat,j.toNat,c) w:=by
 unfold qQ;cases hi with
 |none=>
  simp only[YP] at hh;subst hh;cases lo with
  |none=>simp only[YP] at hl;subst hl;simp
  |some lo=>
   let⟨kk,hl⟩:=hl;have hb:=λcode=>run_sliceBound (P:=P) w kk i m code h0 h1
   simp[hl,hb]
 |some hi=>
  let⟨kh,hh⟩:=hh;have hc:=λcode=>run_sliceBound (P:=P) w kh j c code (by omega) h2
  cases lo with
  |none=>simp only[YP] at hl;subst hl;simp[hh,hc]
  |some lo=>
   let⟨kk,hl⟩:=hl;have hb:=λcode=>run_sliceBound (P:=P) w kk i j.toNat code h0 (by omega)
   simp[hl,hh,hb,hc]
theorem zho {τ:FS}{T:Ty α}{i j:Int}(hu:P.underlying t=D (.slice e)) (hi':P.info? e=D ti) (hz:ti.size=T.size)
    (hx:opv L b x=v) (hv:(tSl T).vrel τ v s) (hl:YP L b lo 0 i) (hh:YP L b hi s.len j) (hs:z7 s i j=D s') :
    zAR P Z PV L b ⟨D d,.slice t x lo hi E,ty,ps,af,g⟩ (λu=>(tSl T).vrel τ u s'):=by
 obtain⟨h1,h2,h3,rfl⟩:=wn hs;obtain⟨a,m,c,rfl,k1,k2,k3,k4,k5,cells,k6,k7⟩:=YN.1 hv;refine⟨.slice (if(c:Int)=i then a else a.map (·.add (i.toNat * T.size))) (j - i).toNat (c - i.toNat),?_,λw _=>?_⟩
 · refine YN.2 ⟨_,_,_,rfl,?_,?_,?_,?_,?_,(cells.take (j.toNat * T.size)).drop (i.toNat * T.size),?_,?_⟩
   ·grind
   ·grind
   ·omega
   ·omega
   · intro hnone;have:a=none:=by split at hnone<;>simpa using hnone
     grind
   ·exact T.rels_drop _ (T.rels_take _ k6)
   · intro q u hq;rw[Dl] at hq;have hlt:i.toNat * T.size+q < j.toNat * T.size:=by
       grind
     rw[Dk hlt] at hq;obtain⟨ad,rfl,hc⟩:=k7 _ _ hq;have hne:¬ (c:Int)=i:=by
      grind
     refine⟨ad.add (i.toNat * T.size),by simp[hne],?_⟩;rw[Addr.add_add];exact hc
 · have hb:=YC (P:=P) (w:=w) (isS:=true) (m:=m) (c:=c) hl (by rw[k1];exact hh) h1 h2 (by omega);have hs2:(U t (.slice a m c) (lo.map (opv L b)) (hi.map (opv L b)) E).run P w = .ok (.slice (if(c:Int)=i then a else a.map (·.add (i.toNat * T.size))) (j - i).toNat (c - i.toNat)) w:=by
     unfold U qH;simp only[UZ,UY hu,Da];simp only[UZ,Da,hb,sizeOf,typeInfo,Db,hi',UX,hz];rw[show j.toNat - i.toNat=(j - i).toNat by omega];grind
   simp only[execOp,hx,UZ,hs2,Da,UX,qx]
theorem zod{s:ByteArray}{i c:Int}(h:Zg s i=D c):0<=i/\∃u:UInt8,s.data.toList[i.toNat]?=D u/\c=u.toNat:=by
 unfold Zg at h;split at h
 ·rename_i h0;cases hu:s.data.toList[i.toNat]? with
  |none=>grind
  |some u=>grind
 ·cases h
theorem zhp {s:ByteArray}{c:Int}(hu:P.underlying t=D .string) (hx:opv L b x = .string s) (hy:opv L b y = .int k i) (hc:Zg s i=D c) :
    z8 P Z PV L b ⟨D d,.index t x y,ty,ps,af,g⟩ (.int .u8 c):=λw _=>by
 obtain⟨h0,u,h1,rfl⟩:=zod hc;have hu':(s[i.toNat]?:U7 UInt8)=D u:=by
  rw[<- h1];let⟨hl,_⟩:=UG.1 h1;have hl2:i.toNat < s.size:=by simpa using hl
  rw[getElem?_pos s i.toNat hl2,UM hl];rfl
 simp[execOp,hx,hy,Instr.index,asIntOf,UY hu,h0,hu']
theorem zim(s u:ByteArray):(s.toList == u.toList)=decide (s=u):=by
 rw[ByteArray.toList_eq,ByteArray.toList_eq];by_cases h:s=u
 ·subst h;simp
 ·have hd:¬ s.data=u.data:=λe=>h (by cases s;cases u;grind)
  simp[h,hd]
theorem zyT{s u:ByteArray}(hx:opv L b x = .string s)(hy:opv L b y = .string u):z8 P Z PV L b ⟨D d,.binOp .eql t x y t',ty,ps,af,g⟩ (.bool (decide (s=u))):=λw _=>by
 simp[execOp,hx,hy,eqGuard,binOp,qI,<- zim]
theorem zyU{s u:ByteArray}(hx:opv L b x = .string s)(hy:opv L b y = .string u):z8 P Z PV L b ⟨D d,.binOp .neq t x y t',ty,ps,af,g⟩ (.bool (decide (s≠u))):=λw _=>by
 have:(decide (s≠u)) = !decide (s=u):=by grind
 rw[this,<- zim];simp[execOp,hx,hy,eqGuard,binOp,qI]
theorem zkC{s s':ByteArray}{lo hi:Int}(h:ZH s lo hi=D s'):0<=lo/\lo<=hi/\hi<=s.size/\s'=s.extract lo.toNat hi.toNat:=by
 unfold ZH at h;grind
theorem zhq {s s':ByteArray}{i j:Int}(hu:P.underlying t=D .string)
    (hx:opv L b x = .string s) (hl:YP L b lo 0 i) (hh:YP L b hi s.size j) (hs:ZH s i j=D s') :
    z8 P Z PV L b ⟨D d,.slice t x lo hi E,ty,ps,af,g⟩ (.string s'):=λw _=>by
 obtain⟨h1,h2,h3,rfl⟩:=zkC hs;have hb:=YC (P:=P) (w:=w) (isS:=false) (m:=s.size) (c:=s.size) hl hh h1 h2 h3;have hs2:(U t (.string s) (lo.map (opv L b)) (hi.map (opv L b)) E).run P w = .ok (.string (s.extract i.toNat j.toNat)) w:=by
  unfold U qH;simp only[UZ,UY hu,Da];simp[Da,hb]
 simp only[execOp,hx,UZ,hs2,Da,UX,qx]
def fieldsOf(d:TypeDesc):Array Field:=
 match d with
 | .struct fs=>fs
 |_=> #[]
def zab(pls:List (Nat×Nat)):List Value->List (Nat×List Value)->U7 (List Value)
 |cs,[]=>D cs
 |cs,(i,c)::r=>match pls[i]? with
  |none=>E
  |some (off,size)=>bif qK c.length size && qB (off+c.length) cs.length then zab pls (cs.take off++c++cs.drop (off+c.length)) r else E
def zc6:List (Nat×Value)->List (Nat×List Value)->Prop
 |[],[]=>True
 |(i,v)::r,(j,c)::s=>i=j/\v.cells.toList=c/\zc6 r s
 |_,_=>False
theorem zkD (pls:List (Nat×Nat)):∀(ps:List (Nat×Value)) (pcs:List (Nat×List Value)) (cs:Array Value) (r:List Value),zc6 ps pcs->zab pls cs.toList pcs=D r->
    V (λi=>pls[i]?) cs ps=D r.toArray
 |[],[],cs,r,_,h=>by simp[zab] at h;simp[V,<- h]
 |(i,v)::ps,(j,c)::pcs,cs,r,⟨e1,e2,e3⟩,h=>by
   subst e1;subst e2;simp only[zab] at h;simp only[V];cases hp:pls[i]? with
   |none=>grind
   |some q=>
    let⟨off,size⟩:=q;rw[hp] at h;simp only at h |-
    cases hc:(qK v.cells.toList.length size && qB (off+v.cells.toList.length) cs.toList.length) with
    |false=>grind
    |true=>
     rw[hc] at h;simp only[gf] at hc;have h1:v.cells.toList.length=size:=ge hc.1;have h2:off+v.cells.toList.length<=cs.toList.length:=Dj hc.2;have hfold:=zik v.cells.toList cs off 0 (by grind);rw[jx (by grind)];have e0:(v.cells.zipIdx.foldl (λcs (x:Value×Nat)=>cs.setIfInBounds (off+x.2) x.1) cs)=(cs.toList.take off++v.cells.toList++cs.toList.drop (off+v.cells.toList.length)).toArray:=by
      apply Array.toList_inj.1;rw[<- qX];grind
     rw[show(v.cells.zipIdx.foldl (λcs x=>match x with | (c,j)=>cs.setIfInBounds (off+j) c) cs)=(v.cells.zipIdx.foldl (λcs (x:Value×Nat)=>cs.setIfInBounds (off+x.2) x.1) cs) from rfl,e0];exact zkD pls ps pcs _ r e3 (by simpa using h)
theorem zxf {parts:Array (Nat×Operand)}{vs:List (Nat×Value)}{pcs:List (Nat×List Value)}{pls:List (Nat×Nat)}(hu:P.underlying t=D (.struct fs)) (hi:P.info? t=D ti) (hz:ti.zero=D zv)
    (hpl:fs.toList.map (λf=>(P.info? f.type).map λi=>(f.offset,i.size))=pls.map D) (hp:(parts.toList.map λq=>(q.1,opv L b q.2))=vs) (hc:zc6 vs pcs) (hf:zab pls zv.cells.toList pcs=D cs) :
    z8 P Z PV L b ⟨D d,.build t parts,ty,ps,af,g⟩ (.agg cs.toArray):=λw _=>by
 have hm:∀(l:List Field) (m:List (Nat×Nat)),l.map (λf=>(P.info? f.type).map λi=>(f.offset,i.size))=m.map D->
     (l.mapM (λf=>do pure (f.offset,<- sizeOf f.type):Field->Sem (Nat×Nat))).run P w = .ok m w:=by
  intro l
  induction l with
  |nil=>intro m h;cases m with
   |nil=>simp
   |cons=>simp at h
  |cons f l ih=>
   intro m h;cases m with
   |nil=>simp at h
   |cons q m=>
    simp only[UI,List.cons.injEq] at h;let⟨h1,h2⟩:=h;cases hi:P.info? f.type with
    |none=>grind
    |some ti=>
     rw[hi] at h1;simp only[UF,Option.some.injEq] at h1;have hh:((do pure (f.offset,<- sizeOf f.type):Sem (Nat×Nat))).run P w = .ok q w:=by simp[UZ,sizeOf,typeInfo,hi,h1]
     rw[List.mapM_cons,UZ,hh];simp only[Da,UZ,ih m h2,UX]
 have hma:(fs.mapM (λf=>do pure (f.offset,<- sizeOf f.type):Field->Sem (Nat×Nat))).run P w = .ok pls.toArray w:=by
  rw[Array.mapM_eq_mapM_toList];have h2:=hm _ _ hpl;have h3:∀(s:Sem (List (Nat×Nat))) m,s.run P w = .ok m w->(List.toArray <$> s).run P w = .ok m.toArray w:=by
   intro s m hs;show(s.bind (λa=>Sem.pure a.toArray)).run P w=_;have:=UZ (P:=P) (w:=w) s (λa=>(pure a.toArray:Sem (Array (Nat×Nat))));refine Eq.trans this ?_;rw[hs];simp
  grind
 have hpa:(parts.map λ(q:Nat×Operand)=>(q.1,opv L b q.2)).toList=vs:=by rw[qU];exact hp
 have hfill:=zkD pls vs pcs zv.cells cs hc hf;have:(qT t (parts.map λq=>(q.1,opv L b q.2))).run P w = .ok (.agg cs.toArray) w:=by
  unfold qT;simp only[UZ,zeroValue,typeInfo,Db,Da,hi,UX,hz,UY hu,hma,hpa];rw[show(λi=>pls.toArray[i]?)=λi=>pls[i]? by funext i;simp];simp[hfill]
 simp only[execOp,UZ,this,Da,UX]
theorem zxg {f:Field}{cs':List Value}(hu:P.underlying t=D (.struct fs)) (hf:fs[m]?=D f) (hud:P.underlying f.type=D td) (hi:P.info? f.type=D ti)
    (hx:opv L b x = .agg cs.toArray) (hcs:(cs.drop f.offset).take ti.size=cs') (hl:cs'.length=ti.size) (h1:Zh td=I->ti.size=1) (hv:yA (Zh td) cs'=v) :
    z8 P Z PV L b ⟨D d,.field t x m,ty,ps,af,g⟩ v:=λw _=>by
 have hagg:(Go.isAgg f.type).run P w=Result.ok (Zh td) w:=by
  unfold Go.isAgg;rw[UZ,UY hud];cases td<;>rfl
 have:(qR t (.agg cs.toArray) m).run P w = .ok v w:=by
  unfold qR;simp only[UZ,UY hu,Da,hf,asAgg,UX,part,hagg];subst hcs;cases hd:Zh td with
  |true=>
   rw[hd] at hv;subst hv;simp[UZ,sizeOf,typeInfo,hi,yA]
  |false=>
   rw[hd] at hv;have h1':=h1 hd;rw[h1'] at hl hv;have:cs[f.offset]?=D v:=by
    rw[<- hv];have hlt:f.offset < cs.length:=by
     rcases Nat.lt_or_ge f.offset cs.length with h | h
     all_goals grind
    rw[UM hlt];simp only[yA,UC,Dt hlt,qL,Du]
   simp[this]
 simp only[execOp,hx,UZ,this,Da,UX]
theorem zi2{k':IntKind}(hu:P.underlying t=D td)(hu':P.underlying t'=D (.int k'))(hx:opv L b x = .int k i):z8 P Z PV L b ⟨D d,.convert t t' x,ty,ps,af,g⟩ (.int k' (k'.wrap i)):=λw _=>by
 simp[execOp,hx,convert,UY hu,UY hu',Conv.intToInt]
end
end
section
variable [Dfr]
def ZZ(T:OTy α)(off:Nat)(Tf:Ty β)(proj:α->β):Prop:=∀Z h cs x,T.rel Z h cs x->Tf.rel Z ((cs.drop off).take Tf.size) (proj x)
omit [Dfr] in
theorem ZZ.of{T:Ty α}{Tf:Ty β}{proj:α->β}(f:XR T off Tf proj):ZZ T.o off Tf proj:=λZ h cs x r=>f Z cs x r
section
variable {ρ:Type}{n:Nat}{w0:Start}{w:World}{σ0 Z:FS}{p:U7 ρ}{G:ρ->Act->World->Prop}{L:List (Nat×Value)}{b:Nat->Value}{PV PV':List Priv}
variable {P:Program}{ops:Array Oper}{o:Oper}{rest:List Oper}
variable {H:U7 ρ->List (Nat×Value)->FS->List Priv->Prop}{d:Nat}{v:Value}{t t' ty:TypeId}{ps:String}{af:Array Edge}{g:U7 (Nat×Bool)}
variable {x y z:Operand}{k:IntKind}{i j:Int}
theorem za8 {Tf:Ty β}{proj:α->β}(hr:zn T e v s Z h) (hs:h.sub w) (hq:za s i=D q) (hf:ZZ T off Tf proj) (hoff:off+Tf.size<=T.size) :
    ∃cs,Tf.rel Z cs (proj q)/\∀(j:Nat) (u:Value),cs[j]?=D u->w.cell? ((zh v (i.toNat * T.size+off)).add j)=D u:=by
 have hlt:=za6 hq;rcases hr with⟨_,rfl⟩ | ⟨_,_,rfl⟩ | ⟨gb,cap,cur,hb,gg,rfl,r2,r3,r4,r5,r0,r6,r7,r8,r9,r10⟩
 ·grind
 ·grind
 let⟨k1,hs',k2,k3,k4⟩:=r10;have hel:=k2 i.toNat q (yK.1 hq).2;have hfl:=hf Z _ _ _ hel;have hlen:=Tf.len hfl;refine⟨_,hfl,λj u hj=>?_⟩;have hj':j < Tf.size:=by
  grind
 rw[Dk hj',Dl,Dk (by omega),Dl] at hj;have hbb:i.toNat * T.size+(off+j) < s.xs.length * T.size:=by
  grind
 rw[Dk hbb] at hj;simp only[zh,Addr.add_add];rw[show i.toNat * T.size+off+j=i.toNat * T.size+(off+j) by omega];rw[Addr.add_eq _ rfl];simpa using hs.cell (r0 _ _ _ (r7 _ _ hj))
theorem vP{a:Addr}(hx:opv L b x = .pointer (D a)):z8 P Z PV L b ⟨D d,.nilCheck x,ty,ps,af,g⟩ (.pointer (D a)):=λw _=>by
 simp[execOp,hx]
theorem zcU{w:World}(hu:P.underlying t=D (.pointer e)):(qy t (.pointer a) (.pointer E)).run P w = .ok (a.isNone) w:=by
 have key:∀d,(S (d+1) t (.pointer a) (.pointer E)).run P w = .ok (a.isNone) w:=λd=>by
  cases a<;>simp[S,UY hu]
 exact key 9999
theorem zmN(hu:P.underlying t=D (.pointer e))(hx:opv L b x = .pointer a)(hy:opv L b y = .pointer E){r:Bool}(hr:a.isNone=r):z8 P Z PV L b ⟨D d,.binOp .eql t x y t',ty,ps,af,g⟩ (.bool r):=λw _=>by
 subst hr;simp[execOp,hx,hy,eqGuard,binOp,zcU hu]
theorem zmO(hu:P.underlying t=D (.pointer e))(hx:opv L b x = .pointer a)(hy:opv L b y = .pointer E){r:Bool}(hr:(!a.isNone)=r):z8 P Z PV L b ⟨D d,.binOp .neq t x y t',ty,ps,af,g⟩ (.bool r):=λw _=>by
 subst hr;simp[execOp,hx,hy,eqGuard,binOp,zcU hu]
theorem zkE {e':TypeId}{kk:Sl α->U7 ρ}(m:Nat) (hn:O d n=F) (hu:P.underlying t=D (.slice e)) (hi':P.info? e=D ti) (hz:ti.size=T.size)
    (hx:opv L b x=v) (hm:PV[m]?=D (.row T e' v s)) (hl:YP L b lo 0 0) (hh:YP L b hi s.len j)
    (h:∀s' v',z7 s 0 j=D s'->H (kk s') ((d,v')::L) Z (PV.set m (.row T e' v' s'))) :
    Xl P n w0 σ0 ⟨D d,.slice t x lo hi E,ty,ps,af,g⟩ ((z7 s 0 j).bind kk) L b Z PV H:=by
 intro r hp a w hinv hft K Q hK;cases hg:z7 s 0 j with
 |none=>grind
 |some s'=>
  rw[hg] at hp;obtain⟨h1,h2,h3,rfl⟩:=wn hg;let⟨hh0,hr,hsub⟩:=hinv.held.get hm;obtain⟨a0,c,rfl,k2,k3,k3',k4,k5⟩:=zn.form hr;have hb:=YC (P:=P) (w:=w) (isS:=true) (m:=s.xs.length) (c:=c) hl hh (by omega) h2 (by omega);have hs2:(U t (.slice a0 s.xs.length c) (lo.map (opv L b)) (hi.map (opv L b)) E).run P w = .ok (.slice a0 j.toNat c) w:=by
   unfold U qH;simp only[UZ,UY hu,Da];simp only[UZ,Da,hb,sizeOf,typeInfo,Db,hi',UX,hz];cases a0 with
   |none=>grind
   |some a0=> by_cases hc0:c=0
              ·grind
              ·rw[jx (by simp;omega)];simp[Addr.add]
  have hrun:(execOp a.eval ⟨D d,.slice t x lo hi E,ty,ps,af,g⟩).run P w = .ok (.value (.slice a0 j.toNat c)) w:=by
   rw[hft.eval];simp only[execOp,hx,UZ,hs2,Da,UX,qx]
  unfold qb;rw[hrun,qc];refine hK _ _ Z _ _ w hp (hinv.change hm (p' :=.row T e' (.slice a0 j.toNat c) ⟨(s.xs.take j.toNat).drop (0:Int).toNat,s.nn⟩) λg1 hg1 hs1=>⟨g1,?_,hs1,.refl w g1,λb i hx =>.inl hx⟩) (hft.put (by simpa[Dd] using hn) _) (h _ _ hg);have hg1:zn T e' (.slice a0 s.xs.length c) s Z g1:=hg1;have hj:j.toNat<=s.xs.length:=by omega
  have hlen:(s.xs.take j.toNat).length=j.toNat:=by simp;omega
  rcases hg1 with⟨q1,rfl⟩ | ⟨aq,q1,rfl⟩ | ⟨gb,cap,cur,hb',gg,q1,r2,r3,r4,r5,r0,r6,r7,r8,r9,r10⟩
  · obtain⟨rfl, -,rfl⟩:a0=E/\_/\c=0:=by injection q1 with a1 a2 a3;exact⟨a1,a2,a3⟩
    grind
  · obtain⟨rfl, -,rfl⟩:a0=D aq/\_/\c=0:=by injection q1 with a1 a2 a3;exact⟨a1,a2,a3⟩
    grind
  · obtain⟨rfl, -,rfl⟩:a0=D ⟨gb,0,E⟩/\_/\c=cap:=by injection q1 with a1 a2 a3;exact⟨a1,a2,a3⟩
    refine .inr (.inr ⟨gb,c,cur,hb',gg,by simp[hlen],r2,by grind,r4,r5,r0,r6,r7,r8,r9,?_⟩);have:=OTy.rels_take j.toNat r10;simp only[Int.toNat_zero,Dv,hlen]
    rwa [W,Dp (Dn _ hj)] at this
def Yf(P:Program)(t:TypeId)(d:Nat)(x y:Value)(r:Bool):Prop:=∀m w,(S (m+d) t x y).run P w = .ok r w
omit [Dfr] in
theorem Yf.bool{e q:Bool}(hu:P.underlying t=D .bool):Yf P t 1 (.bool e) (.bool q) (decide (e=q)):=λm w=>by
 have:(e == q)=decide (e=q):=by grind
 simp[S,UY hu,this]
omit [Dfr] in
theorem Yf.str{s u:ByteArray}(hu:P.underlying t=D .string):Yf P t 1 (.string s) (.string u) (decide (s=u)):=λm w=>by
 have:(s == u)=decide (s=u):=by
  show ByteArray.beq s u=_;cases s with | mk s=>cases u with | mk u=>
  by_cases h:s=u
  ·subst h;simp[ByteArray.beq]
  ·simp[h,ByteArray.beq]
 simp[S,UY hu,this]
def zkF(P:Program)(xs ys:Array Value)(d:Nat):List Field->Bool->Prop
 |[],r=>r=F
 | f :: fs, r => ∃ u v r1 r2, (∀ w, (part f.type xs f.offset).run P w = .ok u w) /\ (∀ w, (part f.type ys f.offset).run P w = .ok v w) /\ f.name ≠ "_" /\ Yf P f.type d u v r1 /\ zkF P xs ys d fs r2 /\ r = (r1 && r2)
omit [Dfr] in
theorem zkF.run{d:Nat}:∀{fs:List Field}{r:Bool},zkF P xs ys d fs r->∀m w,(qA (m+d) xs ys fs).run P w = .ok r w
 |[],r,h,m,w=>by rw[show r=F from h];simp[qA]
 |f::fs,r,⟨u,v,r1,r2,h1,h2,h3,h4,h5,h6⟩,m,w=>by
  subst h6;have:=zkF.run h5 m w;cases r1<;>simp[qA,h3,h1 w,h2 w,h4 m w,this]
omit [Dfr] in
theorem Yf.struct{d:Nat}{r:Bool}(hu:P.underlying t=D (.struct fs))(hp:P.stoodInHeld t=I)(h:zkF P xs ys d fs.toList r):Yf P t (d+1) (.agg xs) (.agg ys) r:=λm w=>by
 have hf:P.fieldsOf t=fs:=by simp[Program.fieldsOf,hu]
 rw[show m+(d+1)=(m+d)+1 by omega,run_equalIn_struct w (m+d) t xs ys (by grind) hp,hf];exact h.run m w
omit [Dfr] in
theorem Yf.mono{d d':Nat}{r:Bool}(h:Yf P t d v u r)(hd:d<=d'):Yf P t d' v u r:=λm w=>by
 have:=h (m+(d' - d)) w;grind
theorem zkG {cs':List Value}(hud:P.underlying t=D td) (hi:P.info? t=D ti)
    (hcs:(cs.drop off).take ti.size=cs') (hl:cs'.length=ti.size) (h1:Zh td=I->ti.size=1) (hv:yA (Zh td) cs'=v):∀w,(part t cs.toArray off).run P w = .ok v w:=λw=>by
 have hagg:(Go.isAgg t).run P w=Result.ok (Zh td) w:=by
  unfold Go.isAgg;rw[UZ,UY hud];cases td<;>rfl
 simp only[part,UZ,hagg,Da];subst hcs;cases hd:Zh td with
 |true=>
  rw[hd] at hv;subst hv;simp[UZ,sizeOf,typeInfo,hi,yA]
 |false=>
  rw[hd] at hv;have h1':=h1 hd;rw[h1'] at hl hv;have:cs[off]?=D v:=by
   rw[<- hv];have hlt:off < cs.length:=by
    grind
   rw[UM hlt];simp only[yA,UC,Dt hlt,qL,Du]
  simp[this]
theorem zkH{dd:Nat}{r:Bool}(hg:P.eqGuardType P.depth t=I)(hx:opv L b x = .agg xs)(hy:opv L b y = .agg ys)(hd:dd<=10000)(h:Yf P t dd (.agg xs) (.agg ys) r):z8 P Z PV L b ⟨D d,.binOp .eql t x y t',ty,ps,af,g⟩ (.bool r):=λw _=>by
 have:=h (10000 - dd) w;rw[show 10000 - dd+dd=10000 by omega] at this;have h2:(qy t (.agg xs) (.agg ys)).run P w = .ok r w:=this;simp[execOp,hx,hy,eqGuard,hg,binOp,h2]
theorem zkI{dd:Nat}{r:Bool}(hg:P.eqGuardType P.depth t=I)(hx:opv L b x = .agg xs)(hy:opv L b y = .agg ys)(hd:dd<=10000)(h:Yf P t dd (.agg xs) (.agg ys) r):z8 P Z PV L b ⟨D d,.binOp .neq t x y t',ty,ps,af,g⟩ (.bool !r):=λw _=>by
 have:=h (10000 - dd) w;rw[show 10000 - dd+dd=10000 by omega] at this;have h2:(qy t (.agg xs) (.agg ys)).run P w = .ok r w:=this;simp[execOp,hx,hy,eqGuard,hg,binOp,h2]
end
end
section
variable [Dfr]
section
variable {ρ:Type}{n:Nat}{w0:Start}{σ0 Z:FS}{p:U7 ρ}{L:List (Nat×Value)}{b:Nat->Value}{PV:List Priv}{P:Program}{Q:ρ->Exit->Act->World->Prop}
end
end
section
variable [Dfr]
end
section
variable [Dfr]
section
variable {ρ:Type}{n:Nat}{w0:Start}{w:World}{σ0 Z:FS}{L:List (Nat×Value)}{b:Nat->Value}{PV PV':List Priv}{P:Program}
def ZU(tmps:Array Value):ResultVar->Sem Value
 | .tmp t=>pure (tmps.getD t undef)
 | .cell a t=>do loadVar t (<- asAddr (tmps.getD a undef))
theorem zmP{fn:Func}(h:fn.results = #[r1])(h1:(ZU tmps r1).run P w = .ok v1 w):(results fn tmps).run P w = .ok v1 w:=by
 have e:results fn tmps=(do let v <- ZU tmps r1;pure v):=by
  cases r1<;>simp[results,h,ZU]
 grind
theorem zmQ {fn:Func}(h:fn.results = #[r1,r2]) (h1:(ZU tmps r1).run P w = .ok v1 w) (h2:(ZU tmps r2).run P w = .ok v2 w) :
    (results fn tmps).run P w = .ok (.tuple #[v1,v2]) w:=by
 have e:results fn tmps=(do let v <- ZU tmps r1;let u <- ZU tmps r2;pure (.tuple #[v,u])):=by
  cases r1<;>cases r2<;>simp[results,h,ZU]
 rw[e];simp[h1,h2]
theorem zmR {fn:Func}{r3:ResultVar}{v3:Value}(h:fn.results = #[r1,r2,r3]) (h1:(ZU tmps r1).run P w = .ok v1 w) (h2:(ZU tmps r2).run P w = .ok v2 w) (h3:(ZU tmps r3).run P w = .ok v3 w) :
    (results fn tmps).run P w = .ok (.tuple #[v1,v2,v3]) w:=by
 have e:results fn tmps=(do let v <- ZU tmps r1;let u <- ZU tmps r2;let z <- ZU tmps r3;pure (.tuple #[v,u,z])):=by
  cases r1<;>cases r2<;>cases r3<;>simp[results,h,ZU]
 rw[e];simp[h1,h2,h3]
theorem zmS {fn:Func}{r3 r4:ResultVar}{v3 v4:Value}(h:fn.results = #[r1,r2,r3,r4]) (h1:(ZU tmps r1).run P w = .ok v1 w) (h2:(ZU tmps r2).run P w = .ok v2 w) (h3:(ZU tmps r3).run P w = .ok v3 w) (h4:(ZU tmps r4).run P w = .ok v4 w) :
    (results fn tmps).run P w = .ok (.tuple #[v1,v2,v3,v4]) w:=by
 have e:results fn tmps=(do let v <- ZU tmps r1;let u <- ZU tmps r2;let z <- ZU tmps r3;let y <- ZU tmps r4;pure (.tuple #[v,u,z,y])):=by
  cases r1<;>cases r2<;>cases r3<;>cases r4<;>simp[results,h,ZU]
 rw[e];simp[h1,h2,h3,h4]
theorem zmT{fn:Func}(h:fn.results = #[]):(results fn tmps).run P w = .ok (.tuple #[]) w:=by
 simp[results,h]
variable {fn:Func}{post:ρ->FS->List Priv->Value->Prop}{r:ρ}
end
end
section
variable [Dfr]
end
section
variable [Dfr]
section
variable {ρ:Type}{n:Nat}{w0:Start}{σ0 Z:FS}{p:U7 ρ}{L:List (Nat×Value)}{b:Nat->Value}{PV PV':List Priv}{P:Program}
variable {H:U7 ρ->List (Nat×Value)->FS->List Priv->Prop}{d:Nat}{v:Value}{t t' ty:TypeId}{ps:String}{af:Array Edge}{g:U7 (Nat×Bool)}{x y:Operand}{k:IntKind}{i:Int}
end
end
section
variable [Dfr]
section
variable {ρ:Type}{n:Nat}{w0:Start}{σ0 Z:FS}{p:U7 ρ}{L:List (Nat×Value)}{b:Nat->Value}{PV PV':List Priv}{P:Program}
theorem Inv.past{w w':World}{τ Z':FS}{A':List Priv}(hi:Inv w0 σ0 Z PV w)(hle:Z.le τ)(k:Inv ⟨w,zc.none⟩ τ Z' A' w'):Inv w0 σ0 Z PV w':=by
 let⟨h,hs,hg⟩:=hi.own;have k2:Inv ⟨w,zc.none⟩ Z Z [] w':=⟨(hle.trans k.le).sub k.sub,.refl Z,λ_ _ _ e =>.inl e,⟨zc.none,Sep.nil,λ_ _ _ (e:(none:U7 Bit)=D _)=>(by cases e),λ_ _ (e:(none:U7 Bit).isSome=F)=>by simp at e,λ_ _ (e:(none:U7 Bit).isSome=F)=>by simp at e⟩,k.ext⟩;exact hi.call (A':=[]) (C:=PV) (h1:=zc.none) (h2:=h) hg hs (zc.none_le _) (.refl _) (zc.none_disj _) k2
def vu(v:Value)(i j:Int)(size:Nat):Value:=
 match v with
 | .slice a _ c =>.slice (if(c:Int)=i then a else a.map (·.add (i.toNat * size))) (j - i).toNat (c - i.toNat)
 |v=>v
end
end
section
variable [Dfr]
section
variable {ρ:Type}{n:Nat}{w0:Start}{σ0 Z:FS}{p:U7 ρ}{L:List (Nat×Value)}{b:Nat->Value}{PV PV':List Priv}{P:Program}
variable {H:U7 ρ->List (Nat×Value)->FS->List Priv->Prop}{d:Nat}{v:Value}{t ty:TypeId}{ps:String}{af:Array Edge}{g:U7 (Nat×Bool)}{x:Operand}
end
end
section
section
variable {P:Program}{w0:Start}{σ0 Z:FS}{PV:List Priv}{w:World}
def Priv.obj(r:Nat)(o:Obj):Priv:=⟨λ_ h=>h r 0=D (.obj o),λ_ l e=>l _ _ _ e⟩
def Xe(r:Nat)(o:Obj):zc:=λb k=>if b=r/\k=0 then D (.obj o) else E
theorem zf1{r:Nat}{o:Obj}{b k:Nat}(h:(Xe r o b k).isSome=F):b=r/\k=0:=by
 unfold Xe at h;grind
theorem ze1{r:Nat}{o:Obj}(ho:xu o=I)(hb:w.heap[r]?=D o):(Xe r o).sub w:=λb k x e=>by
 unfold Xe at e;split at e
 ·rename_i h;cases e;obtain⟨rfl,rfl⟩:=h;exact⟨hb,rfl,ho⟩
 ·cases e
theorem Inv.newObj{o:Obj}(ho:xu o=I)(hi:Inv w0 σ0 Z PV w):Inv w0 σ0 Z (.obj w.heap.size o::PV) (w.alloc o):=by
 refine hi.cons (h1:=Xe w.heap.size o) (by show Xe _ _ _ _=_;simp[Xe]) (ze1 ho (yV _ _)) ⟨rfl,rfl,rfl,by simp,λb =>.same λhb=>V9 _ _ _ hb,λa ha _=>World.frozen?_alloc_old w _ a (by omega)⟩ λb i hb=>by rw[(zf1 hb).1];grind
theorem Inv.setObj{r:Nat}{o o':Obj}(ho:xu o=I)(ho':xu o'=I)(hm:PV[m]?=D (.obj r o))(hi:Inv w0 σ0 Z PV w):Inv w0 σ0 Z (PV.set m (.obj r o')) {w with heap:=w.heap.setIfInBounds r o' }:=by
 refine hi.change hm λh1 hh hs=>?_
 have hh:h1 r 0=D (.obj o):=hh;have hb:w.heap[r]?=D o:=(hs r 0 _ hh).1;let⟨k1,k2⟩:=MapKept.heap_set (o':=o') hb;have hfz:∀a:Addr,qs {w with heap:=w.heap.setIfInBounds r o' } a=w.frozen? a:=λa=>by
  unfold qs;by_cases e:a.block=r
  ·rw[e];show(match(w.heap.setIfInBounds r o')[r]? with | some (.cells _ _ (lo,hi))=>decide (lo<=a.off) && decide (a.off < hi) | _=>I)=_;rw[k1,hb];have fz0:∀(x:Obj),xu x=I->(match D x with | some (.cells _ _ (lo,hi))=>decide (lo<=a.off) && decide (a.off < hi) | _=>I)=false:=λx hx=>by
    cases x<;>first | rfl | (exact absurd hx (by simp[xu]))
   grind
  ·show(match(w.heap.setIfInBounds r o')[a.block]? with | some (.cells _ _ (lo,hi))=>decide (lo<=a.off) && decide (a.off < hi) | _=>I)=_;grind
 refine⟨Xe r o',by show Xe _ _ _ _=_;simp[Xe],ze1 ho' k1,⟨rfl,rfl,rfl,by simp,λb=>?_,λa _ _=>hfz a⟩,λb i hx=>?_⟩
 ·by_cases e:b=r
  ·subst e;refine⟨λc e f hc=>?_,λx hx hn=>?_⟩
   ·rw[hb] at hc;cases hc;cases ho
   grind
  ·exact .same λ_=>k2 b e
 ·obtain⟨rfl,rfl⟩:=zf1 hx;grind
theorem Inv.objAt{r:Nat}{o:Obj}(hm:PV[m]?=D (.obj r o))(hi:Inv w0 σ0 Z PV w):w.heap[r]?=D o:=by
 let⟨g,hsep,hg⟩:=hi.own;let⟨hs,k1,k2,k3⟩:=hsep;have h1:hs m r 0=D (.obj o):=k1 m _ hm;exact(hg.sub r 0 _ (k3 m _ _ _ h1)).1
end
end
end Go.Px
