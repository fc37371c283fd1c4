/- Part A2: PxC6 PxC7 PxCA PxCB PxCV PxCW PxMVa. -/
import Derived.Test.YtpcipfnohfefhaaGreatDoorA1
import Derived.Laws.StructEq
import Derived.Laws.Pointers
set_option linter.unusedSectionVars false
set_option linter.unusedVariables false
set_option linter.unusedSimpArgs false
namespace Go.Px
variable{A:List Priv}{a:G3 Addr}{cs:List Value}{e:TypeId}{fs:Array Field}{h:zc}{hi lo:G3 Operand}{m off:Nat}{r1 r2:ResultVar}{td:TypeDesc}{ti:TypeInfo}{tmps xs ys:Array Value}{u v1 v2 zv:Value}{α β γ:Type}{T:OTy α}{Tf:Ty γ}{q:α}{s s':Sl α}
section
theorem Uq:∀{α:Type _}{l:List α},List.drop 0 l=l:=@List.drop_zero
theorem Up:∀{α:Type _}{a:α}{l:List α}{d:α},(a::l).headD d=a:=@List.headD_cons
theorem Uo:∀ {α : Type _} {i : Nat} {l : List α} (h : i < l.length),List.drop i l = l[i]::List.drop (i + 1) l:=@List.drop_eq_getElem_cons
theorem Un:∀{α:Type _}(«as»:List α),[]++«as»=«as»:=@List.nil_append
theorem Um:(!true)=false:=@Bool.not_true
theorem Ul:∀{a b:Nat},a<=b->min a b=a:=@Nat.min_eq_left
theorem Uk:∀{α:Type _}{i:Nat}{l:List α},(List.take i l).length=min i l.length:=@List.length_take
theorem Uj:∀{n m:Nat}(k:Nat),n<=m->n * k<=m * k:=@Nat.mul_le_mul_right
variable [Dfr]
theorem OTy.rels_append {Z:FS}{g g2:zc}{ds:List Value}{xs ys:List α}(r:T.rels Z g cs xs) (s:T.rels Z g2 ds ys) (dd:g.disj g2):T.rels Z (g.or g2) (cs++ds) (xs++ys):=by
 obtain ⟨h1,hs,h2,h3,h4⟩:=r;obtain ⟨k1,ks,k2,k3,k4⟩:=s;refine ⟨by grind,fun i=>if i < xs.length then hs i else ks (i - xs.length),fun i x hx=>?_,fun i j hij=>?_,fun i=>?_⟩
 ·by_cases hi:i < xs.length
  ·rw [Ud hi] at hx;have hm:(i+1) * T.size<=xs.length * T.size:=Uj _ hi;rw [GR] at hm;simp only [hi,jl];grind
  ·rw [Uc (by omega)] at hx;simp only [hi,jk];have:=k2 _ x hx;have he:i * T.size=cs.length+(i - xs.length) * T.size:=by rw [h1,<- GR];congr 1;omega
   rw [he,<- List.drop_drop,List.drop_left];exact this
 ·show zc.disj (if i < xs.length then hs i else ks (i - xs.length)) (if j < xs.length then hs j else ks (j - xs.length));split <;> split
  ·grind
  ·exact dd.mono (h4 i) (k4 _)
  ·exact (dd.mono (h4 j) (k4 _)).symm
  grind
 ·show zc.le (if i < xs.length then hs i else ks (i - xs.length)) _;split
  ·exact (h4 i).trans (zc.le_or _ _)
  ·exact (k4 _).trans (zc.le_or_right dd)
theorem OTy.rels_take {Z:FS}{g:zc}{xs:List α}(m:Nat) (r:T.rels Z g cs xs):T.rels Z g (cs.take (m * T.size)) (xs.take m):=by
  obtain ⟨h1,hs,h2,h3,h4⟩:=r
  refine ⟨by rw [Uk,Uk,h1];rcases Nat.le_total m xs.length with h | h
             ·rw [Ul h,Ul (Uj _ h)]
             ·rw [Nat.min_eq_right h,Nat.min_eq_right (Uj _ h)],hs,fun i x hx=>?_,h3,h4⟩
  rw [List.getElem?_take] at hx;split at hx
  ·rename_i hi;have hm:(i+1) * T.size<=m * T.size:=Uj _ hi;rw [GR] at hm;rw [List.drop_take,List.take_take,Ul (by omega)];grind
  ·cases hx
theorem zpY {w:World}{q:Nat}{cur:List Value}(hs:h.sub w) (h0:h q 0=some (.shape e cur.length)) (hc:∀ (j:Nat) (u:Value),cur[j]?=some u->h q (j+1)=some (.cell u)):w.heap[q]?=some (.cells cur.toArray e (0,0)):=by
 obtain ⟨c,h1,_,h3⟩:=hs _ _ _ h0;have:c=cur.toArray:=by
  apply Array.ext_getElem?;intro o;cases hu:cur[o]? with
  |none=>
   grind
  |some u=>
   obtain ⟨c',e',o',k1,k2,k3⟩:=hs _ _ _ (hc o u hu);grind
 rw [h1,this]
section
variable {ρ:Type}{n:Nat}{w0:Start}{w:World}{σ0 Z:FS}{p:G3 ρ}{G:ρ->Act->World->Prop}{L:List (Nat×Value)}{b:Nat->Value}{PV PV':List Priv}
variable {P:Program}{ops:Array Oper}{o:Oper}{rest:List Oper}
variable {H:G3 ρ->List (Nat×Value)->FS->List Priv->Prop}{d:Nat}{v:Value}{t t' ty:TypeId}{ps:String}{af:Array Edge}{g:G3 (Nat×Bool)}
variable {x y z:Operand}{k:IntKind}{i j:Int}
theorem Inv.replace {R:World->List Priv->Prop}{C:List Priv}(hi:Inv w0 σ0 Z (A++C) w)
    (hw:∀ hA,Sep Z A hA->hA.sub w->∃ w' A' hA',R w' A'/\Sep Z A' hA'/\hA'.sub w'/\Ext w hA w'/\∀ b i,(hA' b i).isSome->(hA b i).isSome\/w.heap.size<=b):∃ w' A',R w' A'/\Inv w0 σ0 Z (A'++C) w':=by
  obtain ⟨h,hs,hg⟩:=hi.own;obtain ⟨h1,h2,s1,s2,e2,e3,e4⟩:=hs.split;obtain ⟨w',A',h1',hR,f1,f2,f3,f4⟩:=hw h1 s1 (hg.sub.mono e2);have hd:h1'.disj h2:=by
    intro b i;cases hx:h1' b i with
    |none=>exact .inl rfl
    |some x=>
      right;rcases f4 b i (by simp [hx]) with q | q
      · rcases e4 b i with z | z
        all_goals grind
      · cases hy:h2 b i with
        |none=>rfl
        |some y=>have:=Bit.at_lt (hg.sub b i y (e3 b i y hy));omega
  have g1:=hg.mono e2;have hmine:∀ b i,b < w0.w.heap.size->(h1 b i).isSome->(w0.h b i).isSome:=fun b i hb hx=>by
    rcases g1.mine b i hx with q | q
    ·omega
    ·exact q
  refine ⟨w',A',hR,f3.held g1.apart hi.sub,hi.le,hi.fresh,⟨h1'.or h2,f1.append s2 (zc.le_or _ _) (zc.le_or_right hd) hd,zc.or_sub f2 (f3.frag e4 (hg.sub.mono e3)),fun b o hx=>?_,fun b i hx=>?_⟩,hi.ext.trans f3 hmine⟩
  all_goals
    unfold zc.or at hx
  · cases hx1:h1' b (o+1) with
    |some y=>
      rcases f4 b (o+1) (by simp [hx1]) with q | q
      ·exact g1.apart b o q
      · cases hy:Z b o with
        |none=>rfl
        |some v=>have:=hi.lt hy;omega
    |none=>rw [hx1] at hx;exact (hg.mono e3).apart b o (by simpa using hx)
  · cases hx1:h1' b i with
    |some y=>
      rcases f4 b i (by simp [hx1]) with q | q
      ·grind
      ·exact .inl (GM hi.ext.size q)
    |none=>rw [hx1] at hx;exact (hg.mono e3).mine b i (by simpa using hx)
def yN (vs:List Value):List Value:=(vs.map fun v=>v.cells.toList).flatten
def zlG (T:OTy α) (Z:FS) (h:zc) (vs:List Value) (xs:List α):Prop:=T.rels Z h (yN vs) xs/\vs.length=xs.length/\∀ v∈vs,v.cells.size=T.size
def zaP:Nat->List Value->List (Nat×Value)
 |_,[]=>[]
 |m,v::r=>(m,v)::zaP (m+1) r
theorem zgE (c:List Value):∀ (cs:Array Value) (off k:Nat),off+k+c.length<=cs.size->
    ((c.zipIdx k).foldl (fun a (q:Value×Nat)=>a.setIfInBounds (off+q.2) q.1) cs).toList=cs.toList.take (off+k)++c++cs.toList.drop (off+k+c.length):=by
  induction c with
  |nil=>intro cs off k h;simp
  |cons u c ih=>
    intro cs off k h;simp only [ju] at h;simp only [List.zipIdx_cons,List.foldl_cons];rw [ih _ off (k+1) (by simp;omega)];have h2:off+k < cs.toList.length:=by simp;omega
    simp only [Array.toList_setIfInBounds,ju];rw [show off+(k+1)=off+k+1 by omega,List.take_succ_eq_append_getElem (by simp;omega)];rw [List.take_set_of_le (by omega),List.drop_set_of_lt (by omega)];grind
theorem ziE (size:Nat):∀ (vs:List Value) (m:Nat) (cs:Array Value),(∀ v∈vs,v.cells.size=size)->(m+vs.length) * size<=cs.size->
    ∃ r:Array Value,Instr.fill (fun i=>some (i * size,size)) cs (zaP m vs)=some r/\r.toList=cs.toList.take (m * size)++yN vs++cs.toList.drop ((m+vs.length) * size)
  |[],m,cs,_,_=>⟨cs,rfl,by simp [yN]⟩
  |v::vs,m,cs,h,hs=>by
    have hv:=h v (by simp);have hvs:(m+(vs.length+1)) * size=m * size+size+vs.length * size:=by grind
    simp only [ju] at hs;have hfit:m * size+v.cells.size<=cs.size:=by rw [hv];omega
    have hfold:=zgE v.cells.toList cs (m * size) 0 (by simp;omega);have hmz:(m+1) * size=m * size+size:=by grind
    have hcells:v.cells.toList.length=size:=by simp [hv]
    obtain ⟨r,hr,hrl⟩:=ziE size vs (m+1) ((v.cells.toList.zipIdx 0).foldl (fun a (q:Value×Nat)=>a.setIfInBounds (m * size+q.2) q.1) cs) (fun u hu=>h u (by simp [hu])) (by
      have hsz:((v.cells.toList.zipIdx 0).foldl (fun a (q:Value×Nat)=>a.setIfInBounds (m * size+q.2) q.1) cs).size=cs.size:=by
        rw [<- Array.length_toList,hfold];simp;omega
      grind)
    refine ⟨r,?_,?_⟩
    · have e0:(v.cells.zipIdx.foldl (fun cs (x:Value×Nat)=>cs.setIfInBounds (m * size+x.2) x.1) cs)=(v.cells.toList.zipIdx 0).foldl (fun a (q:Value×Nat)=>a.setIfInBounds (m * size+q.2) q.1) cs:=by
        rw [<- Array.foldl_toList];simp
      simp only [zaP,Instr.fill];grind
    · rw [hrl,hfold,hmz];simp only [Ue,hcells];have h1:(cs.toList.take (m * size)++v.cells.toList).length=m * size+size:=by grind
      have h2:(cs.toList.take (m * size)++v.cells.toList++cs.toList.drop (m * size+size)).take (m * size+size)=cs.toList.take (m * size)++v.cells.toList:=by grind
      have h3:(cs.toList.take (m * size)++v.cells.toList++cs.toList.drop (m * size+size)).drop ((m+1+vs.length) * size)=cs.toList.drop ((m+(v::vs).length) * size):=by
        rw [show (m+1+vs.length) * size=(m * size+size)+vs.length * size by grind,<- List.drop_drop];rw [show (cs.toList.take (m * size)++v.cells.toList++cs.toList.drop (m * size+size)).drop (m * size+size)=cs.toList.drop (m * size+size) by grind];rw [List.drop_drop];grind
      rw [h2,h3];simp [yN,Ub]
theorem WR {parts:Array (Nat×Operand)}{vs:List Value}{xs:List α}(A C:List Priv) (hn:Nat.blt d n=true) (hu:P.underlying t=some (.slice e)) (hi':P.info? e=some ti)
    (hz:ti.zero=some zv) (hsz:ti.size=T.size) (h24:Nat.ble (m * T.size) 16777216=true) (h0:Nat.blt 0 T.size=true) (hp:(parts.toList.map fun q=>(q.1,opv L b q.2))=zaP 0 vs) (hm:vs.length=m)
    (hr:∀ h,Sep Z A h->∃ g,g.le h/\zlG T Z g vs xs)
    (h:∀ v,H p ((d,v)::L) Z (.row T e v ⟨xs,true⟩::C)):wq P n w0 σ0 ⟨some d,.buildSlice t m parts,ty,ps,af,g⟩ p L b Z (A++C) H:=by
  intro r hpr a w hi hf K Q hK;have hT:0 < T.size:=by simpa using h0
  have h24':m * T.size<=16777216:=by simpa using h24
  unfold Oper.wp;refine Exists.elim (hi.replace (R:=fun w' A'=>(execOp a.eval ⟨some d,.buildSlice t m parts,ty,ps,af,g⟩).run P w = .ok (.value (.slice (some ⟨w.heap.size,0,none⟩) m m)) w'/\A'=[Priv.row T e (.slice (some ⟨w.heap.size,0,none⟩) m m) ⟨xs,true⟩]) ?_) ?_
  · intro hA sA subA;obtain ⟨gA,hgA,hrel,hlen,hsize⟩:=hr hA sA;have hml:m=xs.length:=by grind
    have hfl:(yN vs).length=m * T.size:=by rw [hrel.1,hml]
    have hnew:∀ b i,(gA b i).isSome->b < w.heap.size:=fun b i hx=>by
      obtain ⟨x,hx⟩:=GN.1 hx;exact Bit.at_lt (subA _ _ _ (hgA _ _ _ hx))
    have hdj:(z8 w.heap.size e (yN vs).toArray).disj gA:=fun b i=>by
      cases hx:z8 w.heap.size e (yN vs).toArray b i with
      |none=>exact .inl rfl
      |some y=>
        right;have:=(Y5 (b:=b) (k:=i) (by rw [hx];rfl)).1;cases hy:gA b i with
        |none=>rfl
        |some z=>grind
    refine ⟨w.alloc (.cells (yN vs).toArray e (0,0)),_,(z8 w.heap.size e (yN vs).toArray).or gA,⟨?_,rfl⟩,Sep.one ?_,zc.or_sub (XQ (Yo _ _)) ((Vr w _ _ zc.none).frag (zc.none_disj _) (subA.mono hgA)),Vr _ _ _ _,fun b i hx=>?_⟩
    · rw [hf.eval];have hpl:(parts.map fun (q:Nat×Operand)=>(q.1,opv L b q.2)).toList=zaP 0 vs:=by rw [Array.toList_map];exact hp
      have key:∀ zero:Array Value,Instr.fill (fun i=>some (i * T.size,T.size)) ((Array.range (m * T.size)).map (zero[· % zero.size]!)) (parts.map fun (q:Nat×Operand)=>(q.1,opv L b q.2)).toList=some (yN vs).toArray:=by
        intro zero;obtain ⟨r,hr1,hr2⟩:=ziE T.size vs 0 ((Array.range (m * T.size)).map (zero[· % zero.size]!)) hsize (by simp [<- hm]);have hr3:r=(yN vs).toArray:=by
          grind
        grind
      have hb:(Instr.buildSlice t m (parts.map fun q=>(q.1,opv L b q.2))).run P w = .ok (.slice (some ⟨w.heap.size,0,none⟩) m m) (w.alloc (.cells (yN vs).toArray e (0,0))):=by
        unfold Instr.buildSlice;simp only [GV,GU hu,GW,sizeOf,typeInfo,GX,hi',GT,hsz];rw [js (by omega)];by_cases h00:m * T.size=0
        ·rw [jr h00];simp only [GV,GT,GW,key];simp [newRow,newObj,Sem.run]
        ·rw [js h00];simp only [GV,GT,GW,zeroValue,typeInfo,GX,hi',hz,key];simp [newRow,newObj,Sem.run]
      simp only [execOp,GV,hb,GW,GT]
    · refine .inr <| .inr ⟨w.heap.size,m,yN vs,z8 w.heap.size e (yN vs).toArray,gA,by rw [hml],rfl,by grind,?_,by grind,zc.le_or _ _,?_,fun j u hj=>wX (by simpa using hj),zc.le_or_right hdj,hdj,?_⟩
      ·have:m<=m * T.size:=Nat.le_mul_of_pos_right m hT;unfold maxLen;omega
      ·rw [Vq];simp
      grind
    · unfold zc.or at hx;cases hy:z8 w.heap.size e (yN vs).toArray b i with
      |some z=>have:=(Y5 (b:=b) (k:=i) (by rw [hy];rfl)).1;right;omega
      |none=>rw [hy] at hx;left;exact hgA.isSome (by simpa using hx)
  ·rintro w' ⟨A',⟨hrun,rfl⟩,hi2⟩;rw [hrun,Oper.upon_value];exact hK p _ Z _ _ _ hpr hi2 (hf.put (by simpa [GZ] using hn) _) (h _)
theorem zgF {bytes:Nat}{ts:List α}(h:zp bytes s ts=some s'):(s.xs.length+ts.length) * bytes<=140737488355328/\s.xs.length+ts.length<=140737488355328/\s'=⟨s.xs++ts,s.nn || !ts.isEmpty⟩:=by
 unfold zp at h;grind
def zam (w:World) (u:Value) (m:Nat) (news:List Value):Prop:=
 (u = .slice none 0 0/\m=0/\news=[])\/∃ a c,u = .slice (some a) m c/\∀ (j:Nat) (q:Value),news[j]?=some q->w.cell? (a.add j)=some q
theorem Vs {ts:List α}{kk:Sl α->G3 ρ}(A C:List Priv) (hn:Nat.blt d n=true) (hu:P.underlying t=some (.slice e)) (hi':P.info? e=some ti)
    (hz:ti.zero=some zv) (hzs:zv.cells.size=T.size) (hsz:ti.size=T.size) (h0:Nat.blt 0 T.size=true) (hx:opv L b x=v) (hy:opv L b y=u)
    (hs:∀ w g,xn Z (.row T e v s::(A++C)) w->Sep Z A g->g.sub w->∃ gA news,gA.le g/\T.rels Z gA news ts/\zam w u ts.length news)
    (h:∀ s' v',zp ti.bytes s ts=some s'->H (kk s') ((d,v')::L) Z (.row T e v' s'::C)) :
    wq P n w0 σ0 ⟨some d,.call {callee :=.builtin .append,args:= #[x,y],argTypes:= #[t,t]},ty,ps,af,g⟩ ((zp ti.bytes s ts).bind kk) L b Z (.row T e v s::(A++C)) H:=by
  intro r hp a w hi hf K Q hK;cases hg:zp ti.bytes s ts with
  |none=>grind
  |some s'=>
  rw [hg] at hp;obtain ⟨hb,hb2,rfl⟩:=zgF hg;have hT:0 < T.size:=by simpa using h0
  have hheld:=hi.held;have hi0:Inv w0 σ0 Z ((.row T e v s::A)++C) w:=hi;refine Exists.elim (hi0.replace (R:=fun w' A'=>∃ v',(Builtin.append_ #[t,t] ty #[v,u]).run P w = .ok v' w'/\A'=[Priv.row T e v' ⟨s.xs++ts,s.nn || !ts.isEmpty⟩]) ?_) ?_
  · intro hA sA subA;obtain ⟨h1,h2,k1,k2,l1,l2,dd⟩:=Sep.uncons sA;have k1:zo T e v s Z h1:=k1;obtain ⟨gA,news,hgA,hrel,hsrc⟩:=hs w h2 hheld k2 (subA.mono l2);have hlt:∀ b i,(hA b i).isSome->b < w.heap.size:=fun b i hx=>by
      obtain ⟨x,hx⟩:=GN.1 hx;exact Bit.at_lt (subA _ _ _ hx)
    rcases hsrc with ⟨rfl,hl0,rfl⟩ | ⟨ad,c,rfl,hcells⟩
    · have hts:ts=[]:=GP hl0;subst hts;refine ⟨w,_,hA,⟨v,?_,rfl⟩,Sep.one ?_,subA,.refl w hA,fun b i hx =>.inl hx⟩
      · rcases k1 with ⟨rfl,rfl⟩ | ⟨q,rfl,rfl⟩ | ⟨q,cap,cur,hb',gg,rfl,r2,r3,r4,r5,r0,r6,r7,r8,r9,r10⟩
        ·simp [Builtin.append_,GU hu,sizeOf,typeInfo,hi',Builtin.lenOf,Builtin.firstCells]
        ·simp [Builtin.append_,GU hu,sizeOf,typeInfo,hi',Builtin.lenOf,Builtin.firstCells,storeCells]
        ·simp [Builtin.append_,GU hu,sizeOf,typeInfo,hi',Builtin.lenOf,Builtin.firstCells,r3,storeCells]
      ·simp only [List.append_nil,List.isEmpty_nil,Um,Bool.or_false];exact Priv.mono _ (.refl _) l1 k1
    have hnl:news.length=ts.length * ti.size:=by rw [hsz];exact hrel.1
    have hmt:(ts=[])↔ts.length=0:=by grind
    have fresh:∀ (cur2:Array Value) (cap2:Nat) (w1:World) (g:zc) (olds:List Value),w1.heap=w.heap->w1.os=w.os->w1.output=w.output->w1.tape=w.tape->
        cur2.size=cap2 * T.size->s.xs.length+ts.length<=cap2->cap2<=maxLen->ts≠[]\/s.nn=true->g.le h1->T.rels Z g olds s.xs->cur2.toList.take ((s.xs.length+ts.length) * T.size)=olds++news->
        (Builtin.append_ #[t,t] ty #[v,.slice (some ad) ts.length c]).run P w = .ok (.slice (some ⟨w.heap.size,0,none⟩) (s.xs.length+ts.length) cap2) (w1.alloc (.cells cur2 e (0,0)))->
        ∃ w' A' hA',(∃ v',(Builtin.append_ #[t,t] ty #[v,.slice (some ad) ts.length c]).run P w = .ok v' w'/\A'=[Priv.row T e v' ⟨s.xs++ts,s.nn || !ts.isEmpty⟩])/\Sep Z A' hA'/\hA'.sub w'/\Ext w hA w'/\∀ b i,(hA' b i).isSome->(hA b i).isSome\/w.heap.size<=b:=by
      intro cur2 cap2 w1 g olds e1 e2 e3 e4 hc1 hc2 hc3 hnn hgl hold htake hrun;have hsz1:w1.heap.size=w.heap.size:=by rw [e1]
      have hext:Ext w hA (w1.alloc (.cells cur2 e (0,0))):=by
        refine ⟨by simp [World.alloc,e2],by simp [World.alloc,e3],by simp [World.alloc,e4],by simp [e1],fun b =>.same fun hb=>by rw [Vp _ _ _ (by omega),e1],fun a _ _=>?_⟩;rw [zb6];unfold World.frozen?;rw [e1]
      have hnew2:(w1.alloc (.cells cur2 e (0,0))).heap[w.heap.size]?=some (.cells cur2 e (0,0)):=by rw [<- hsz1];exact Yo _ _
      have hgg:(g.or gA).le hA:=zc.or_le (hgl.trans l1) (hgA.trans l2);have hdd:(z8 w.heap.size e cur2).disj (g.or gA):=fun b i=>by
        cases hx:z8 w.heap.size e cur2 b i with
        |none=>exact .inl rfl
        |some y=>
          right;have:=(Y5 (b:=b) (k:=i) (by rw [hx];rfl)).1;cases hy:(g.or gA) b i with
          |none=>rfl
          |some z=>have:=hlt b i (hgg.isSome (by simp [hy]));omega
      refine ⟨_,_,(z8 w.heap.size e cur2).or (g.or gA),⟨_,hrun,rfl⟩,Sep.one ?_,zc.or_sub (XQ hnew2) ?_,hext,fun b i hx=>?_⟩
      · refine .inr <| .inr ⟨w.heap.size,cap2,cur2.toList,z8 w.heap.size e cur2,g.or gA,by simp,?_,by simp;omega,hc3,by simp [hc1],zc.le_or _ _,by rw [Vq];simp,fun j u hj=>wX hj,zc.le_or_right hdd,hdd,?_⟩
        · rcases hnn with h | h
          all_goals grind
        ·simp only [jt];rw [htake];exact OTy.rels_append hold hrel (dd.mono hgl hgA)
      · refine zc.sub.mono (h:=g.or gA) (g:=g.or gA) ?_ (.refl _);intro b i y hy;have h3:=subA b i y (hgg _ _ _ hy);have h4:=Bit.at_lt h3;have h5:(w1.alloc (.cells cur2 e (0,0))).heap[b]?=w.heap[b]?:=by rw [Vp _ _ _ (by omega),e1]
        cases y <;> (unfold Bit.at at h3 |-;grind)
      · unfold zc.or at hx;cases hy:z8 w.heap.size e cur2 b i with
        |some z=>have:=(Y5 (b:=b) (k:=i) (by rw [hy];rfl)).1;right;omega
        |none=>rw [hy] at hx;left;exact hgg.isSome (by simpa [zc.or] using hx)
    have hmax:s.xs.length+ts.length<=maxLen:=by unfold maxLen;omega
    have grow:∀ (old:Nat) (g:zc) (olds:List Value) (row:Value),olds.length=s.xs.length * T.size->old < s.xs.length+ts.length->ts≠[]\/s.nn=true->g.le h1->T.rels Z g olds s.xs->v=row->
        (Builtin.append_ #[t,t] ty #[row,.slice (some ad) ts.length c]).run P w = .ok (.slice (some ⟨w.heap.size,0,none⟩) (s.xs.length+ts.length) (grownCap w (s.xs.length+ts.length) old e))
          (w.drew.alloc (.cells (olds.toArray++news.toArray++Builtin.zeroCells zv.cells (grownCap w (s.xs.length+ts.length) old e - (s.xs.length+ts.length))) e))->
        ∃ w' A' hA',(∃ v',(Builtin.append_ #[t,t] ty #[v,.slice (some ad) ts.length c]).run P w = .ok v' w'/\A'=[Priv.row T e v' ⟨s.xs++ts,s.nn || !ts.isEmpty⟩])/\Sep Z A' hA'/\hA'.sub w'/\Ext w hA w'/\∀ b i,(hA' b i).isSome->(hA b i).isSome\/w.heap.size<=b:=by
      intro old g olds row hol hold hnn hgl hold2 hv hrun;subst hv;have hge:=grownCap_ge w (s.xs.length+ts.length) old e;have hnl2:news.length=ts.length * T.size:=hrel.1;refine fresh _ _ w.drew g olds rfl rfl rfl rfl ?_ hge (grownCap_le_maxLen w _ old e hmax) hnn hgl hold2 ?_ hrun
      ·simp only [Array.size_append,List.size_toArray,size_zeroCells,hzs,hol,hnl2,<- GR];congr 1;omega
      ·simp only [Array.toList_append,Ub];rw [<- Ub,show (s.xs.length+ts.length) * T.size=(olds++news).length by grind];grind
    rcases k1 with ⟨rfl,rfl⟩ | ⟨aq,rfl,rfl⟩ | ⟨q,cap,cur,hbk,gg,rfl,r2,r3,r4,r5,r0,r6,r7,r8,r9,r10⟩
    · by_cases hm0:ts.length=0
      · have hts:=hmt.2 hm0;subst hts;refine ⟨w,_,hA,⟨.slice none 0 0,?_,rfl⟩,Sep.one ?_,subA,.refl w hA,fun b i hx =>.inl hx⟩
        ·simp [Builtin.append_,GU hu,sizeOf,typeInfo,hi',Builtin.lenOf,Builtin.firstCells,loadCells,loadCellsFrom]
        ·exact .inl ⟨rfl,rfl⟩
      ·have hr3:=run_append_nil (P:=P) w t ty e ti zv hu hi' hz ad ts.length c news hnl hcells (by omega) (by omega) (by grind);exact grow 0 zc.none [] _ (by simp) (by simp;omega) (.inl fun hh=>hm0 (by simp [hh])) (zc.none_le _) OTy.rels_nil rfl (by grind)
    · by_cases hm0:ts.length=0
      · have hts:=hmt.2 hm0;subst hts;refine ⟨w,_,hA,⟨.slice (some aq) 0 0,?_,rfl⟩,Sep.one ?_,subA,.refl w hA,fun b i hx =>.inl hx⟩
        ·simp [Builtin.append_,GU hu,sizeOf,typeInfo,hi',Builtin.lenOf,Builtin.firstCells,loadCells,loadCellsFrom,storeCells]
        ·exact .inr (.inl ⟨aq,rfl,rfl⟩)
      ·have hr3:=run_append_grow (P:=P) w t ty e ti zv hu hi' hz aq 0 0 [] (by simp) (by simp) ad ts.length c news hnl hcells (by omega) (by omega) (growslice_fits (by omega) (by grind));exact grow 0 zc.none [] _ (by simp) (by simp;omega) (.inr rfl) (zc.none_le _) OTy.rels_nil rfl (by grind)
    · have l0:hbk.le hA:=r0.trans l1;have hcurA:=zpY (subA.mono l0) r6 r7;have holds:∀ j u,(cur.take (s.xs.length * T.size))[j]?=some u->w.cell? ((⟨q,0,none⟩:Addr).add j)=some u:=fun j u hj=>by
        rw [Addr.add_eq _ rfl];rw [List.getElem?_take] at hj;split at hj
        ·simpa using (subA.mono l0).cell (r7 j u hj)
        ·cases hj
      by_cases hroom:s.xs.length+ts.length<=cap
      · have hfit:s.xs.length * ti.size+news.length<=cur.toArray.size:=by rw [hnl,hsz,<- GR];simp only [List.size_toArray];exact GM (Uj _ hroom) r5
        have hrun:=run_append_room (P:=P) w t ty e ti hu hi' q s.xs.length cap cur.toArray hcurA ad ts.length c news hnl hcells (OTy.rels_one hrel) hroom hfit;rw [hsz] at hrun hfit;have hlt3:∀ j,j < news.length->s.xs.length * T.size+j < cur.length:=fun j hj=>by grind
        obtain ⟨p1,p2⟩:=zeF (q:=q) (off:=s.xs.length * T.size) (vs:=news) (subA.mono l0) hcurA (by grind) (fun j hj=>
          ⟨_,by rw [show s.xs.length * T.size+j+1=(s.xs.length * T.size+j)+1 by omega];exact r7 _ _ (GI (hlt3 j hj))⟩)
        have hdom:∀ b i,((hbk.put q (s.xs.length * T.size) news) b i).isSome->(hbk b i).isSome:=fun b i hx=>zc.put_dom (fun j hj=>by
          rw [show s.xs.length * T.size+j+1=(s.xs.length * T.size+j)+1 by omega,r7 _ _ (GI (hlt3 j hj))];rfl) hx
        have hgA2:hbk.disj (gg.or gA):=(zc.or_disj r9.symm ((dd.mono r0 hgA).symm)).symm;have hd2:(hbk.put q (s.xs.length * T.size) news).disj (gg.or gA):=fun b i=>by
          cases hx:hbk.put q (s.xs.length * T.size) news b i with
          |none=>exact .inl rfl
          |some y=>
            have:=hdom b i (by rw [hx];rfl);rcases hgA2 b i with z | z
            all_goals grind
        have hgl:(gg.or gA).le hA:=zc.or_le (r8.trans l1) (hgA.trans l2);refine ⟨_,_,(hbk.put q (s.xs.length * T.size) news).or (gg.or gA),⟨_,hrun,rfl⟩,Sep.one ?_,zc.or_sub p1 (p2.frag hgA2 (subA.mono hgl)),p2.mono l0,fun b i hx=>?_⟩
        · have hcl:(cur.take (s.xs.length * T.size)).length=s.xs.length * T.size:=r10.1;have hnl2:news.length=ts.length * T.size:=hrel.1;refine .inr <| .inr ⟨q,cap,cur.take (s.xs.length * T.size)++news++cur.drop (s.xs.length * T.size+news.length),hbk.put q (s.xs.length * T.size) news,gg.or gA,by simp,by simp [r2],by grind,r4,?_,zc.le_or _ _,?_,fun j u hj=>?_,zc.le_or_right hd2,hd2,?_⟩
          ·grind
          ·rw [zc.put_out (by omega),r6];grind
          · by_cases c1:j < s.xs.length * T.size
            ·rw [Ub,Ud (by omega),Ug c1] at hj;rw [zc.put_out (by omega)];grind
            · by_cases c2:j < s.xs.length * T.size+news.length
              ·rw [Ub,Uc (by omega),hcl,Ud (by omega)] at hj;rw [show j+1=s.xs.length * T.size+(j - s.xs.length * T.size)+1 by omega];exact zc.put_in hj
              ·rw [Uc (by grind),Uh] at hj;simp only [jt,hcl] at hj;rw [show s.xs.length * T.size+news.length+(j - (s.xs.length * T.size+news.length))=j by omega] at hj;rw [zc.put_out (by omega)];grind
          ·have hap:=OTy.rels_append r10 hrel (dd.mono r8 hgA);rw [jt,GR,List.take_append_of_le_length (by grind),List.take_of_length_le (by grind)];exact hap
        · unfold zc.or at hx;cases hy:hbk.put q (s.xs.length * T.size) news b i with
          |some z=>left;exact l0.isSome (hdom b i (by rw [hy];rfl))
          |none=>rw [hy] at hx;left;exact hgl.isSome (by simpa [zc.or] using hx)
      ·have hrun:=run_append_grow (P:=P) w t ty e ti zv hu hi' hz ⟨q,0,none⟩ s.xs.length cap (cur.take (s.xs.length * T.size)) (by rw [hsz];exact r10.1) holds ad ts.length c news hnl hcells (by omega) (by omega) (growslice_fits (by omega) hb);exact grow cap gg _ _ r10.1 (by omega) (.inr r2) r8 r10 rfl hrun
  · rintro w' ⟨A',⟨v',hrun,rfl⟩,hi2⟩;unfold Oper.wp;have hrun':(execOp a.eval ⟨some d,.call {callee :=.builtin .append,args:= #[x,y],argTypes:= #[t,t]},ty,ps,af,g⟩).run P w = .ok (.value v') w':=by
      rw [hf.eval];simp [execOp,resolve,invoke,builtin,hx,hy,hrun]
    rw [hrun',Oper.upon_value];exact hK _ _ Z _ _ _ hp hi2 (hf.put (by simpa [GZ] using hn) _) (h _ _ hg)
theorem zhn {T:Ty α}(hv:(tSl T).vrel Z u s) (w:World) (g:zc) (hw:xn Z PV w) (sA:Sep Z A g) (hg:g.sub w):∃ gA news,gA.le g/\T.o.rels Z gA news s.xs/\zam w u s.xs.length news:=by
 obtain ⟨a,m,c,rfl,h1,h2,h3,h4,h5,cells,h6,h7⟩:=Yv.1 hv;refine ⟨zc.none,cells,zc.none_le _,Ty.rels_o.2 h6,?_⟩;cases a with
 |none=>
  obtain ⟨rfl,rfl⟩:=h5 rfl;refine .inl ⟨rfl,h1.symm,?_⟩;have:=T.rels_len h6;rw [<- h1] at this;grind
 |some a=>
  refine .inr ⟨a,c,by rw [h1],fun j q hq=>?_⟩;obtain ⟨ad,e,hc⟩:=h7 j q hq;cases e;exact hw.1.cell hc
theorem zo.source {w:World}(r:zo T e u s Z h) (hs:h.sub w):∃ gA news,gA.le h/\T.rels Z gA news s.xs/\zam w u s.xs.length news:=by
 rcases r with ⟨rfl,rfl⟩ | ⟨aq,rfl,rfl⟩ | ⟨q,cap,cur,hb,gg,rfl,r2,r3,r4,r5,r0,r6,r7,r8,r9,r10⟩
 rotate_left
 ·exact ⟨zc.none,[],zc.none_le _,OTy.rels_nil,.inr ⟨aq,0,rfl,fun j u hj=>by simp at hj⟩⟩
 rotate_left
 ·exact ⟨zc.none,[],zc.none_le _,OTy.rels_nil,.inl ⟨rfl,rfl,rfl⟩⟩
 ·refine ⟨gg,_,r8,r10,.inr ⟨_,cap,rfl,fun j u hj=>?_⟩⟩;rw [Addr.add_eq _ rfl];rw [List.getElem?_take] at hj;split at hj
  ·simpa using hs.cell (r0 _ _ _ (r7 j u hj))
  ·cases hj
theorem zlH {T:Ty α}(m:Nat) (hm:PV[m]?=some (.row T.o e u s)) (w:World) (g:zc) (hw:xn Z PV w) (sA:Sep Z A g) (hg:g.sub w):∃ gA news,gA.le g/\T.o.rels Z gA news s.xs/\zam w u s.xs.length news:=by
 obtain ⟨h,hr,hs⟩:=hw.get hm;obtain ⟨gA,news,_,k2,k3⟩:=zo.source hr hs;exact ⟨zc.none,news,zc.none_le _,Ty.rels_o.2 (Ty.rels_o.1 k2),k3⟩
theorem zdI (w:World) (g:zc) (hw:xn Z PV w) (sA:Sep Z [.row T e u s] g) (hg:g.sub w):∃ gA news,gA.le g/\T.rels Z gA news s.xs/\zam w u s.xs.length news:=
 zo.source sA.one_of hg
def Sl.set (s:Sl α) (i:Int) (x:α):Sl α:=⟨s.xs.set i.toNat x,s.nn⟩
omit [Dfr] in
def Priv.hole (A C:α->Priv):Priv where
 holds Z h:=∀ τ g x k,Z.le τ->h.disj g->(A x).holds τ g->h.le k->g.le k->(C x).holds τ k
 mono l m r:=fun τ g x k l2 d ha l3 l4=>r τ g x k (l.trans l2) (d.mono m (.refl _)) ha (m.trans l3) l4
def zoj (T:OTy α) (a:Addr) (x:α) (Z:FS) (h:zc):Prop:=∃ cs h1 h2,h1.le h/\h2.le h/\h1.disj h2/\ZW a cs h1/\T.rel Z h2 cs x
omit [Dfr] in
def Priv.elem (T:OTy α) (a:Addr) (x:α):Priv where
 holds Z h:=zoj T a x Z h
 mono l m r:=by obtain ⟨cs,h1,h2,l1,l2,d,r1,r2⟩:=r;exact ⟨cs,h1,h2,l1.trans m,l2.trans m,d,r1,T.mono l (.refl _) r2⟩
theorem Y6 {cur:List Value}{o n:Nat}(ho:o+n<=cur.length) (hc:cs.length=n) (j:Nat) :
    (cur.take o++cs++cur.drop (o+n))[j]?=if o<=j/\j < o+n then cs[j - o]? else cur[j]?:=by
  have htl:(cur.take o).length=o:=by simp;omega
  by_cases h1:j < o
  ·grind
  · by_cases h2:j < o+n
    ·rw [jr ⟨by omega,h2⟩,Ub,Uc (by omega),htl,Ud (by omega)]
    ·rw [js (by omega),Uc (by grind),Uh];grind
theorem vI (r:zo T e v s Z h) (hq:zd s i=some q) :
    Sep Z [.hole (fun x =>.elem T (zh v (i.toNat * T.size)) x) (fun x =>.row T e v (s.set i x)),.elem T (zh v (i.toNat * T.size)) q] h:=by
  have hlt:=zak hq;rcases r with ⟨_,rfl⟩ | ⟨_,_,rfl⟩ | ⟨b,cap,cur,hb,g,rfl,r2,r3,r4,r5,r0,r6,r7,r8,r9,r10⟩
  ·grind
  ·grind
  obtain ⟨k1,hs,k2,k3,k4⟩:=r10;have hx:=(yB.1 hq).2;have hbound:i.toNat * T.size+T.size<=s.xs.length * T.size:=by
    have:(i.toNat+1) * T.size<=s.xs.length * T.size:=Uj _ (by omega);grind
  have hcap:s.xs.length * T.size<=cap * T.size:=Uj _ r3;have hsel:((cur.take (s.xs.length * T.size)).drop (i.toNat * T.size)).take T.size=(cur.drop (i.toNat * T.size)).take T.size:=by
    rw [List.drop_take,List.take_take,Ul (by omega)]
  have hci:=k2 i.toNat q hx;rw [hsel] at hci;have hea:zh (.slice (some ⟨b,0,none⟩) s.xs.length cap) (i.toNat * T.size)=⟨b,i.toNat * T.size,none⟩:=by
    show (⟨b,0,none⟩:Addr).add _=_;rw [Addr.add_eq _ rfl];simp
  have hsb:∀ j b' m y,hs j b' m=some y->hb b' m=none:=fun j b' m y hy=>by
    rcases r9 b' m with z | z
    ·exact z
    ·rw [k4 j b' m y hy] at z;cases z
  classical
  let inn:Nat->Nat->Prop:=fun b' k=>b'=b/\i.toNat * T.size < k/\k<=i.toNat * T.size+T.size
  let oth:Nat->Nat->Prop:=fun b' k=>∃ j,j≠i.toNat/\(hs j b' k).isSome
  let fo:zc:=fun b' k=>if inn b' k then (if oth b' k then h b' k else none) else if (hb b' k).isSome\/oth b' k then h b' k else none
  let fc:zc:=fun b' k=>if inn b' k then hb b' k else none
  have lo:fo.le h:=fun b' k x hx=>by
    simp only [fo] at hx;split at hx <;> split at hx <;> first | exact hx | cases hx
  have lc:fc.le h:=fun b' k x hx=>by
    simp only [fc] at hx;split at hx
    ·exact r0 _ _ _ hx
    ·cases hx
  have le2:(hs i.toNat).le h:=(k4 _).trans r8;have dce:fc.disj (hs i.toNat):=fun b' k=>by
    cases hy:hs i.toNat b' k with
    |none=>exact .inr rfl
    |some y=>grind
  have doe:fo.disj (fc.or (hs i.toNat)):=fun b' k=>by
    cases hi:hs i.toNat b' k with
    |some y=>
      left;have ho:¬ oth b' k:=by
        rintro ⟨j,hj,hsm⟩;rcases k3 j i.toNat hj b' k with z | z
        all_goals grind
      grind
    |none=>
      cases hc:fc b' k with
      |none=>right;simp [zc.or,hc,hi]
      |some y=>
        left;simp only [fc] at hc;split at hc
        · rename_i hin;have ho:¬ oth b' k:=by
            rintro ⟨j,hj,hsm⟩;obtain ⟨z,hz⟩:=GN.1 hsm;grind
          grind
        ·cases hc
  have hcc:ZW ⟨b,i.toNat * T.size,none⟩ ((cur.drop (i.toNat * T.size)).take T.size) fc:=by
    refine ⟨rfl,fun j u hj=>?_⟩;have hj':j < T.size:=by
      grind
    rw [Ug hj',Uh] at hj;grind
  refine .cons (h1:=fo) (h2:=fc.or (hs i.toNat)) ?_ (Sep.one ⟨_,fc,hs i.toNat,zc.le_or _ _,zc.le_or_right dce,dce,by grind,hci⟩) lo (zc.or_le lc le2) doe;intro τ g2 x k l2 dg ⟨cs,h1,h2,q1,q2,q3,q4,q5⟩ lk lg;rw [hea] at q4;have hcl:=T.len q5;have hget:=Y6 (cur:=cur) (o:=i.toNat * T.size) (n:=T.size) (cs:=cs) (by omega) hcl
  let hn:zc:=fun b' m=>if inn b' m then h1 b' m else hb b' m
  let gn:zc:=fun b' m=>if (hn b' m).isSome then none else k b' m
  have hfo:∀ b' m y,hb b' m=some y->¬ inn b' m->fo b' m=some y:=fun b' m y hy hin=>by
    simp only [fo,hin,jk];rw [jr (.inl (by simp [hy]))];exact r0 _ _ _ hy
  have hfo2:∀ j b' m y,j≠i.toNat->hs j b' m=some y->fo b' m=some y:=fun j b' m y hj hy=>by
    have ho:oth b' m:=⟨j,hj,by simp [hy]⟩;have e:fo b' m=h b' m:=by simp [fo,ho]
    rw [e];exact r8 _ _ _ (k4 _ _ _ _ hy)
  have hnk:hn.le k:=fun b' m y hy=>by
    simp only [hn] at hy;split at hy
    ·exact lg _ _ _ (q1 _ _ _ hy)
    ·exact lk _ _ _ (hfo _ _ _ hy (by assumption))
  have no_g2:∀ b' m y,fo b' m=some y->g2 b' m=none:=fun b' m y hy=>by
    rcases dg b' m with z | z
    ·rw [z] at hy;cases hy
    ·exact z
  have none_of:∀ {f:zc} {b' m},f.le g2->g2 b' m=none->f b' m=none:=fun {f b' m} l z=>by
    cases hy:f b' m with
    |none=>rfl
    |some y=>rw [l _ _ _ hy] at z;cases z
  refine .inr <| .inr ⟨b,cap,cur.take (i.toNat * T.size)++cs++cur.drop (i.toNat * T.size+T.size),hn,gn,by simp [Sl.set],r2,by simpa [Sl.set] using r3,r4,?_,hnk,?_,fun j u hj=>?_,?_,fun b' m=>?_,?_⟩
  ·simp only [jt,Uk,GQ,hcl];omega
  ·simp only [hn];rw [js (by intro hh;have:=hh.2.1;omega),r6];congr 2;simp only [jt,Uk,GQ,hcl];omega
  · rw [hget] at hj;split at hj
    · rename_i hin;simp only [hn];rw [jr ⟨rfl,by omega,by omega⟩];have:=q4.2 _ u hj;simp only at this
      rwa [show i.toNat * T.size+(j - i.toNat * T.size)+1=j+1 by omega] at this
    ·rename_i hin;simp only [hn];rw [js (by intro hh;exact hin ⟨by have:=hh.2.1;omega,by have:=hh.2.2;omega⟩)];exact r7 j u hj
  · intro b' m y hy;simp only [gn] at hy;split at hy
    ·cases hy
    ·exact hy
  · cases hy:hn b' m with
    |none=>exact .inl rfl
    |some y=>right;simp [gn,hy]
  · have hlen:(s.set i x).xs.length=s.xs.length:=by simp [Sl.set]
    rw [hlen];refine ⟨?_,fun j=>if j=i.toNat then h2 else hs j,fun j y hy=>?_,fun j j' hj=>?_,fun j=>?_⟩
    ·rw [hlen,Uk,jt,jt,Uk,GQ,hcl];omega
    · have hjl:j < s.xs.length:=by rw [<- hlen];exact (GC.1 hy).1
      have hjb:j * T.size+T.size<=s.xs.length * T.size:=by
        have:(j+1) * T.size<=s.xs.length * T.size:=Uj _ hjl;rw [GR] at this;omega
      rw [List.drop_take,List.take_take,Ul (by omega)];by_cases hji:j=i.toNat
      · subst hji;have:x=y:=by
          have hy2:=hy;simp only [Sl.set] at hy2;rw [GH] at hy2;simp at hy2;exact hy2.2
        subst this;simp only [jl];have htl:(cur.take (i.toNat * T.size)).length=i.toNat * T.size:=by simp;omega
        rw [Ub,List.drop_append_of_le_length (by omega),List.drop_of_length_le (by omega),Un,List.take_append_of_le_length (by omega),List.take_of_length_le (by omega)];exact q5
      · simp only [hji,jk];have hy2:s.xs[j]?=some y:=by
          simp only [Sl.set] at hy
          rwa [List.getElem?_set_ne (fun e=>hji e.symm)] at hy
        have:=k2 j y hy2;rw [List.drop_take,List.take_take,Ul (by omega)] at this;have hsame:((cur.take (i.toNat * T.size)++cs++cur.drop (i.toNat * T.size+T.size)).drop (j * T.size)).take T.size=(cur.drop (j * T.size)).take T.size:=by
          apply GG;intro m;by_cases hm:m < T.size
          · rw [Ug hm,Ug hm,Uh,Uh,hget,js];rintro ⟨a1,a2⟩;rcases Nat.lt_or_gt_of_ne hji with hlt' | hlt'
            ·have:(j+1) * T.size<=i.toNat * T.size:=Uj _ hlt';rw [GR] at this;omega
            ·have:(i.toNat+1) * T.size<=j * T.size:=Uj _ hlt';rw [GR] at this;omega
          ·rw [List.getElem?_eq_none (by simp;omega),List.getElem?_eq_none (by simp;omega)]
        rw [hsame];exact T.mono l2 (.refl _) this
    · show zc.disj (if j=i.toNat then h2 else hs j) (if j'=i.toNat then h2 else hs j');have key:∀ a,a≠i.toNat->(hs a).disj h2:=fun a ha b' m=>by
        cases hy:hs a b' m with
        |none=>exact .inl rfl
        |some y=>right;exact none_of q2 (no_g2 _ _ _ (hfo2 a b' m y ha hy))
      split <;> split
      ·omega
      ·exact (key _ (by assumption)).symm
      ·exact key _ (by assumption)
      ·exact k3 _ _ hj
    · show zc.le (if j=i.toNat then h2 else hs j) gn;split
      · intro b' m y hy;have hno:hn b' m=none:=by
          simp only [hn];split
          · rcases q3 b' m with z | z
            ·exact z
            ·rw [z] at hy;cases hy
          · rename_i hin;cases hz:hb b' m with
            |none=>rfl
            |some z=>have:=none_of q2 (no_g2 _ _ _ (hfo _ _ _ hz hin));rw [this] at hy;cases hy
        simp only [gn,hno];exact lg _ _ _ (q2 _ _ _ hy)
      · rename_i hji;intro b' m y hy;have hf:=hfo2 j b' m y hji hy;have hno:hn b' m=none:=by
          simp only [hn];split
          ·exact none_of q1 (no_g2 _ _ _ hf)
          ·exact hsb _ _ _ _ hy
        simp only [gn,hno];exact lk _ _ _ hf
end
end
section
variable [Dfr]
class Opn {α:Type}(T:OTy α) where
 aux:Type
 cells:aux->α->List Value
 own:aux->α->List Priv
 facts:FS->aux->α->Prop
 spec:∀ {Z:FS} {h:zc} {cs:List Value} {x:α},T.rel Z h cs x->∃ u,cs=cells u x/\facts Z u x/\Sep Z (own u x) h
 back:∀ {Z:FS} {h:zc} {u:aux} {x:α},facts Z u x->Sep Z (own u x) h->T.rel Z h (cells u x) x
omit [Dfr] in
instance {α:Type}{T:Ty α}[p:Plain T]:Opn T.o where
 aux:=Unit
 cells _ x:=p.cells x
 own _ _:=[]
 facts _ _ _:=True
 spec r:=⟨(),(p.spec _ _ _).1 r,trivial,.nil⟩
 back _ _:=(p.spec _ _ _).2 rfl
omit [Dfr] in
instance {α:Type}{T:Ty α}:Opn (tSl T).o where
 aux:=Value
 cells u _:=[u]
 own _ _:=[]
 facts Z u x:=(tSl T).vrel Z u x
 spec:=by
  rintro Z h cs x ⟨a,n,c,rfl,r⟩;exact ⟨_,rfl,Yv.2 ⟨a,n,c,rfl,r⟩,.nil⟩
 back:=by
  intro Z h u x f _;obtain ⟨a,n,c,rfl,r⟩:=Yv.1 f;exact ⟨a,n,c,rfl,r⟩
omit [Dfr] in
instance {α:Type}{T:OTy α}{e:TypeId}:Opn (zuy T e) where
 aux:=Value
 cells u _:=[u]
 own u x:=[.row T e u x]
 facts _ _ _:=True
 spec:=by rintro Z h cs x ⟨v,rfl,r⟩;exact ⟨v,rfl,trivial,.one r⟩
 back:=by intro Z h u x _ s;exact ⟨u,rfl,s.one_of⟩
omit [Dfr] in
instance {α β:Type}{A:OTy α}{B:OTy β}[a:Opn A] [b:Opn B]:Opn (zaN A B) where
 aux:=a.aux×b.aux
 cells u x:=a.cells u.1 x.1++b.cells u.2 x.2
 own u x:=a.own u.1 x.1++b.own u.2 x.2
 facts Z u x:=a.facts Z u.1 x.1/\b.facts Z u.2 x.2
 spec:=by
  rintro Z h cs x ⟨c,d,h1,h2,rfl,l1,l2,dd,p,q⟩;obtain ⟨u,rfl,f1,s1⟩:=a.spec p;obtain ⟨v,rfl,f2,s2⟩:=b.spec q;exact ⟨(u,v),rfl,⟨f1,f2⟩,s1.append s2 l1 l2 dd⟩
 back:=by
  intro Z h u x f s;obtain ⟨h1,h2,s1,s2,l1,l2,dd⟩:=s.split;exact ⟨_,_,h1,h2,rfl,l1,l2,dd,a.back f.1 s1,b.back f.2 s2⟩
instance {α β:Type}{T:OTy α}{f:β->α}[a:Opn T]:Opn (T.comap f) where
 aux:=a.aux
 cells u x:=a.cells u (f x)
 own u x:=a.own u (f x)
 facts Z u x:=a.facts Z u (f x)
 spec r:=a.spec r
 back f s:=a.back f s
instance {α:Type}{T:OTy α}[a:Opn T]:Opn T.aggr where
 aux:=a.aux
 cells:=a.cells
 own:=a.own
 facts:=a.facts
 spec r:=a.spec r
 back f s:=a.back f s
class Fixd {α:Type}(T:OTy α) (T':outParam (Ty α)):Prop where
 size:T'.size=T.size
 up:∀ {Z:FS} {h:zc} {cs:List Value} {x:α},T'.rel Z cs x->T.rel Z h cs x
 down:∀ {Z:FS} {h:zc} {cs:List Value} {x:α},T.rel Z h cs x->T'.rel Z cs x
instance {α:Type}{T:Ty α}:Fixd T.o T:=⟨rfl,fun r=>r,fun r=>r⟩
omit [Dfr] in
instance {α β:Type}{A:OTy α}{B:OTy β}{A':Ty α}{B':Ty β}[a:Fixd A A'] [b:Fixd B B']:Fixd (zaN A B) (zaK A' B'):=⟨by simp [zaN,zaK,a.size,b.size],by
    rintro Z h cs x ⟨c,d,rfl,p,q⟩;exact ⟨c,d,zc.none,zc.none,rfl,zc.none_le _,zc.none_le _,zc.none_disj _,a.up p,b.up q⟩,by
    rintro Z h cs x ⟨c,d,h1,h2,rfl,_,_,_,p,q⟩;exact ⟨c,d,rfl,a.down p,b.down q⟩⟩
instance {α β:Type}{T:OTy α}{T':Ty α}{f:β->α}[a:Fixd T T']:Fixd (T.comap f) (T'.comap f):=⟨a.size,fun r=>a.up r,fun r=>a.down r⟩
instance {α:Type}{T:OTy α}{T':Ty α}[a:Fixd T T']:Fixd T.aggr T'.aggr:=⟨a.size,fun r=>a.up r,fun r=>a.down r⟩
omit [Dfr] in
theorem Fixd.rels {T':Ty α}[f:Fixd T T'] {Z:FS}{xs:List α}:T.rels Z h cs xs↔T'.rels Z cs xs:=by
 constructor
 ·rintro ⟨h1,hs,h2,_⟩;exact Ty.rels_of (by rw [h1,f.size]) fun i x hx=>by rw [f.size];exact f.down (h2 i x hx)
 ·intro r;exact ⟨by rw [<- f.size];exact T'.rels_len r,fun _=>zc.none,fun i x hx=>by rw [<- f.size];exact f.up (T'.rels_get i r hx),fun _ _ _=>zc.none_disj _,fun _=>zc.none_le _⟩
section
variable {ρ:Type}{n:Nat}{w0:Start}{w:World}{σ0 Z:FS}{p:G3 ρ}{G:ρ->Act->World->Prop}{L:List (Nat×Value)}{b:Nat->Value}{PV PV':List Priv}
variable {P:Program}{ops:Array Oper}{o:Oper}{rest:List Oper}
variable {H:G3 ρ->List (Nat×Value)->FS->List Priv->Prop}{d:Nat}{v:Value}{t t' ty:TypeId}{ps:String}{af:Array Edge}{g:G3 (Nat×Bool)}
variable {x y z:Operand}{k:IntKind}{i j:Int}
theorem Sl.set_same (hq:zd s i=some q):s.set i q=s:=by
 obtain ⟨h0,h1⟩:=yB.1 hq;unfold Sl.set;obtain ⟨hl,he⟩:=GC.1 h1;rw [<- he,List.set_getElem_self]
omit [Dfr] in
theorem zlG.nil:zlG T Z h [] []:=⟨OTy.rels_nil,rfl,by simp⟩
theorem OTy.rels_single {x:α}(r:T.rel Z h cs x):T.rels Z h cs [x]:=by
 have hl:=T.len r;refine ⟨by simp [hl],fun i=>if i=0 then h else zc.none,fun i y hy=>?_,fun i j hij=>?_,fun i=>?_⟩
 ·cases i with
  |zero=>
   grind
  |succ i=>simp at hy
 ·show zc.disj (if i=0 then h else zc.none) (if j=0 then h else zc.none);split <;> split
  ·omega
  ·exact zc.disj_none _
  ·exact zc.none_disj _
  ·exact zc.none_disj _
 ·show zc.le (if i=0 then h else zc.none) h;split
  ·exact .refl _
  ·exact zc.none_le _
theorem Wv {lo hi:Int}(h:Zv s lo hi=some s'):0<=lo/\lo<=hi/\hi<=s.xs.length/\s'=⟨(s.xs.take hi.toNat).drop lo.toNat,s.nn⟩:=by
 unfold Zv at h;grind
def xE (L:List (Nat×Value)) (b:Nat->Value) (x:G3 Operand) (dflt i:Int):Prop:=
 match x with
 |none=>i=dflt
 |some x=>∃ k,opv L b x = .int k i
theorem xS {w:World}{isS:Bool}{c:Nat}{i j:Int}(hl:xE L b lo 0 i) (hh:xE L b hi (m:Int) j) (h0:0<=i) (h1:i<=j) (h2:j<=c) :
    (Instr.sliceBounds isS m c (lo.map (opv L b)) (hi.map (opv L b)) none).run P w = .ok (i.toNat,j.toNat,c) w:=by
  unfold Instr.sliceBounds;cases hi with
  |none=>
    simp only [xE] at hh;subst hh;cases lo with
    |none=>simp only [xE] at hl;subst hl;simp
    |some lo=>
      obtain ⟨kk,hl⟩:=hl;have hb:=fun code=>run_sliceBound (P:=P) w kk i m code h0 h1
      simp [hl,hb]
  |some hi=>
    obtain ⟨kh,hh⟩:=hh;have hc:=fun code=>run_sliceBound (P:=P) w kh j c code (by omega) h2
    cases lo with
    |none=>simp only [xE] at hl;subst hl;simp [hh,hc]
    |some lo=>
      obtain ⟨kk,hl⟩:=hl;have hb:=fun code=>run_sliceBound (P:=P) w kk i j.toNat code h0 (by omega)
      simp [hl,hh,hb,hc]
theorem zfR {τ:FS}{T:Ty α}{i j:Int}(hu:P.underlying t=some (.slice e)) (hi':P.info? e=some ti) (hz:ti.size=T.size)
    (hx:opv L b x=v) (hv:(tSl T).vrel τ v s) (hl:xE L b lo 0 i) (hh:xE L b hi s.len j) (hs:Zv s i j=some s') :
    zwy P Z PV L b ⟨some d,.slice t x lo hi none,ty,ps,af,g⟩ (fun u=>(tSl T).vrel τ u s'):=by
  obtain ⟨h1,h2,h3,rfl⟩:=Wv hs;obtain ⟨a,m,c,rfl,k1,k2,k3,k4,k5,cells,k6,k7⟩:=Yv.1 hv;refine ⟨.slice (if (c:Int)=i then a else a.map (·.add (i.toNat * T.size))) (j - i).toNat (c - i.toNat),?_,fun w _=>?_⟩
  · refine Yv.2 ⟨_,_,_,rfl,?_,?_,?_,?_,?_,(cells.take (j.toNat * T.size)).drop (i.toNat * T.size),?_,?_⟩
    ·grind
    ·grind
    ·omega
    ·omega
    · intro hnone;have:a=none:=by split at hnone <;> simpa using hnone
      grind
    ·exact T.rels_drop _ (T.rels_take _ k6)
    · intro q u hq;rw [Uh] at hq;have hlt:i.toNat * T.size+q < j.toNat * T.size:=by
        grind
      rw [Ug hlt] at hq;obtain ⟨ad,rfl,hc⟩:=k7 _ _ hq;have hne:¬ (c:Int)=i:=by
        grind
      refine ⟨ad.add (i.toNat * T.size),by simp [hne],?_⟩;rw [Addr.add_add];exact hc
  · have hb:=xS (P:=P) (w:=w) (isS:=true) (m:=m) (c:=c) hl (by rw [k1];exact hh) h1 h2 (by omega);have hs2:(Instr.sliceAt t (.slice a m c) (lo.map (opv L b)) (hi.map (opv L b)) none).run P w = .ok (.slice (if (c:Int)=i then a else a.map (·.add (i.toNat * T.size))) (j - i).toNat (c - i.toNat)) w:=by
      unfold Instr.sliceAt Instr.slice;simp only [GV,GU hu,GW];simp only [GV,GW,hb,sizeOf,typeInfo,GX,hi',GT,hz];rw [show j.toNat - i.toNat=(j - i).toNat by omega];grind
    simp only [execOp,hx,GV,hs2,GW,GT,Option.map_none]
theorem zlI {s:ByteArray}{i c:Int}(h:Zb s i=some c):0<=i/\∃ u:UInt8,s.data.toList[i.toNat]?=some u/\c=u.toNat:=by
 unfold Zb at h;split at h
 ·rename_i h0;cases hu:s.data.toList[i.toNat]? with
  |none=>grind
  |some u=>grind
 ·cases h
theorem zfS {s:ByteArray}{c:Int}(hu:P.underlying t=some .string) (hx:opv L b x = .string s) (hy:opv L b y = .int k i) (hc:Zb s i=some c) :
    zZ P Z PV L b ⟨some d,.index t x y,ty,ps,af,g⟩ (.int .u8 c):=fun w _=>by
  obtain ⟨h0,u,h1,rfl⟩:=zlI hc;have hu':(s[i.toNat]?:G3 UInt8)=some u:=by
    rw [<- h1];obtain ⟨hl,_⟩:=GC.1 h1;have hl2:i.toNat < s.size:=by simpa using hl
    rw [getElem?_pos s i.toNat hl2,GI hl];rfl
  simp [execOp,hx,hy,Instr.index,asIntOf,GU hu,h0,hu']
theorem zgG (s u:ByteArray):(s.toList == u.toList)=decide (s=u):=by
 rw [ByteArray.toList_eq,ByteArray.toList_eq];by_cases h:s=u
 ·subst h;simp
 ·have hd:¬ s.data=u.data:=fun e=>h (by cases s;cases u;grind)
  simp [h,hd]
theorem zuC {s u:ByteArray}(hx:opv L b x = .string s) (hy:opv L b y = .string u):zZ P Z PV L b ⟨some d,.binOp .eql t x y t',ty,ps,af,g⟩ (.bool (decide (s=u))):=fun w _=>by
 simp [execOp,hx,hy,eqGuard,binOp,Op.stringOp,<- zgG]
theorem zuD {s u:ByteArray}(hx:opv L b x = .string s) (hy:opv L b y = .string u):zZ P Z PV L b ⟨some d,.binOp .neq t x y t',ty,ps,af,g⟩ (.bool (decide (s≠u))):=fun w _=>by
 have:(decide (s≠u)) = !decide (s=u):=by grind
 rw [this,<- zgG];simp [execOp,hx,hy,eqGuard,binOp,Op.stringOp]
theorem ziF {s s':ByteArray}{lo hi:Int}(h:ZB s lo hi=some s'):0<=lo/\lo<=hi/\hi<=s.size/\s'=s.extract lo.toNat hi.toNat:=by
 unfold ZB at h;grind
theorem zfT {s s':ByteArray}{i j:Int}(hu:P.underlying t=some .string)
    (hx:opv L b x = .string s) (hl:xE L b lo 0 i) (hh:xE L b hi s.size j) (hs:ZB s i j=some s') :
    zZ P Z PV L b ⟨some d,.slice t x lo hi none,ty,ps,af,g⟩ (.string s'):=fun w _=>by
  obtain ⟨h1,h2,h3,rfl⟩:=ziF hs;have hb:=xS (P:=P) (w:=w) (isS:=false) (m:=s.size) (c:=s.size) hl hh h1 h2 h3;have hs2:(Instr.sliceAt t (.string s) (lo.map (opv L b)) (hi.map (opv L b)) none).run P w = .ok (.string (s.extract i.toNat j.toNat)) w:=by
    unfold Instr.sliceAt Instr.slice;simp only [GV,GU hu,GW];simp [GW,hb]
  simp only [execOp,hx,GV,hs2,GW,GT,Option.map_none]
def fieldsOf (d:TypeDesc):Array Field:=
 match d with
 | .struct fs=>fs
 |_=> #[]
def Vt (pls:List (Nat×Nat)):List Value->List (Nat×List Value)->G3 (List Value)
 |cs,[]=>some cs
 |cs,(i,c)::r=>match pls[i]? with
  |none=>none
  |some (off,size)=>bif Nat.beq c.length size && Nat.ble (off+c.length) cs.length then Vt pls (cs.take off++c++cs.drop (off+c.length)) r else none
def zb8:List (Nat×Value)->List (Nat×List Value)->Prop
 |[],[]=>True
 |(i,v)::r,(j,c)::s=>i=j/\v.cells.toList=c/\zb8 r s
 |_,_=>False
theorem ziG (pls:List (Nat×Nat)):∀ (ps:List (Nat×Value)) (pcs:List (Nat×List Value)) (cs:Array Value) (r:List Value),zb8 ps pcs->Vt pls cs.toList pcs=some r->
    Instr.fill (fun i=>pls[i]?) cs ps=some r.toArray
  |[],[],cs,r,_,h=>by simp [Vt] at h;simp [Instr.fill,<- h]
  |(i,v)::ps,(j,c)::pcs,cs,r,⟨e1,e2,e3⟩,h=>by
    subst e1;subst e2;simp only [Vt] at h;simp only [Instr.fill];cases hp:pls[i]? with
    |none=>grind
    |some q=>
      obtain ⟨off,size⟩:=q;rw [hp] at h;simp only at h |-
      cases hc:(Nat.beq v.cells.toList.length size && Nat.ble (off+v.cells.toList.length) cs.toList.length) with
      |false=>grind
      |true=>
        rw [hc] at h;simp only [g9] at hc;have h1:v.cells.toList.length=size:=jz hc.1;have h2:off+v.cells.toList.length<=cs.toList.length:=Uf hc.2;have hfold:=zgE v.cells.toList cs off 0 (by grind);rw [js (by grind)];have e0:(v.cells.zipIdx.foldl (fun cs (x:Value×Nat)=>cs.setIfInBounds (off+x.2) x.1) cs)=(cs.toList.take off++v.cells.toList++cs.toList.drop (off+v.cells.toList.length)).toArray:=by
          apply Array.toList_inj.1;rw [<- Array.foldl_toList];grind
        rw [show (v.cells.zipIdx.foldl (fun cs x=>match x with | (c,j)=>cs.setIfInBounds (off+j) c) cs)=(v.cells.zipIdx.foldl (fun cs (x:Value×Nat)=>cs.setIfInBounds (off+x.2) x.1) cs) from rfl,e0];exact ziG pls ps pcs _ r e3 (by simpa using h)
theorem zth {parts:Array (Nat×Operand)}{vs:List (Nat×Value)}{pcs:List (Nat×List Value)}{pls:List (Nat×Nat)}(hu:P.underlying t=some (.struct fs)) (hi:P.info? t=some ti) (hz:ti.zero=some zv)
    (hpl:fs.toList.map (fun f=>(P.info? f.type).map fun i=>(f.offset,i.size))=pls.map some) (hp:(parts.toList.map fun q=>(q.1,opv L b q.2))=vs) (hc:zb8 vs pcs) (hf:Vt pls zv.cells.toList pcs=some cs) :
    zZ P Z PV L b ⟨some d,.build t parts,ty,ps,af,g⟩ (.agg cs.toArray):=fun w _=>by
  have hm:∀ (l:List Field) (m:List (Nat×Nat)),l.map (fun f=>(P.info? f.type).map fun i=>(f.offset,i.size))=m.map some->
      (l.mapM (fun f=>do pure (f.offset,<- sizeOf f.type):Field->Sem (Nat×Nat))).run P w = .ok m w:=by
    intro l
    induction l with
    |nil=>intro m h;cases m with
      |nil=>simp
      |cons=>simp at h
    |cons f l ih=>
      intro m h;cases m with
      |nil=>simp at h
      |cons q m=>
        simp only [GE,List.cons.injEq] at h;obtain ⟨h1,h2⟩:=h;cases hi:P.info? f.type with
        |none=>grind
        |some ti=>
          rw [hi] at h1;simp only [GB,Option.some.injEq] at h1;have hh:((do pure (f.offset,<- sizeOf f.type):Sem (Nat×Nat))).run P w = .ok q w:=by simp [GV,sizeOf,typeInfo,hi,h1]
          rw [List.mapM_cons,GV,hh];simp only [GW,GV,ih m h2,GT]
  have hma:(fs.mapM (fun f=>do pure (f.offset,<- sizeOf f.type):Field->Sem (Nat×Nat))).run P w = .ok pls.toArray w:=by
    rw [Array.mapM_eq_mapM_toList];have h2:=hm _ _ hpl;have h3:∀ (s:Sem (List (Nat×Nat))) m,s.run P w = .ok m w->(List.toArray <$> s).run P w = .ok m.toArray w:=by
      intro s m hs;show (s.bind (fun a=>Sem.pure a.toArray)).run P w=_;have:=GV (P:=P) (w:=w) s (fun a=>(pure a.toArray:Sem (Array (Nat×Nat))));refine Eq.trans this ?_;rw [hs];simp
    grind
  have hpa:(parts.map fun (q:Nat×Operand)=>(q.1,opv L b q.2)).toList=vs:=by rw [Array.toList_map];exact hp
  have hfill:=ziG pls vs pcs zv.cells cs hc hf;have:(Instr.build t (parts.map fun q=>(q.1,opv L b q.2))).run P w = .ok (.agg cs.toArray) w:=by
    unfold Instr.build;simp only [GV,zeroValue,typeInfo,GX,GW,hi,GT,hz,GU hu,hma,hpa];rw [show (fun i=>pls.toArray[i]?)=fun i=>pls[i]? by funext i;simp];simp [hfill]
  simp only [execOp,GV,this,GW,GT]
theorem zti {f:Field}{cs':List Value}(hu:P.underlying t=some (.struct fs)) (hf:fs[m]?=some f) (hud:P.underlying f.type=some td) (hi:P.info? f.type=some ti)
    (hx:opv L b x = .agg cs.toArray) (hcs:(cs.drop f.offset).take ti.size=cs') (hl:cs'.length=ti.size) (h1:Zd td=false->ti.size=1) (hv:yu (Zd td) cs'=v) :
    zZ P Z PV L b ⟨some d,.field t x m,ty,ps,af,g⟩ v:=fun w _=>by
  have hagg:(Go.isAgg f.type).run P w=Result.ok (Zd td) w:=by
    unfold Go.isAgg;rw [GV,GU hud];cases td <;> rfl
  have:(Instr.field t (.agg cs.toArray) m).run P w = .ok v w:=by
    unfold Instr.field;simp only [GV,GU hu,GW,hf,asAgg,GT,part,hagg];subst hcs;cases hd:Zd td with
    |true=>
      rw [hd] at hv;subst hv;simp [GV,sizeOf,typeInfo,hi,yu]
    |false=>
      rw [hd] at hv;have h1':=h1 hd;rw [h1'] at hl hv;have:cs[f.offset]?=some v:=by
        rw [<- hv];have hlt:f.offset < cs.length:=by
          rcases Nat.lt_or_ge f.offset cs.length with h | h
          all_goals grind
        rw [GI hlt];simp only [yu,G8,Uo hlt,List.take_succ_cons,Up]
      simp [this]
  simp only [execOp,hx,GV,this,GW,GT]
theorem zho {k':IntKind}(hu:P.underlying t=some td) (hu':P.underlying t'=some (.int k')) (hx:opv L b x = .int k i):zZ P Z PV L b ⟨some d,.convert t t' x,ty,ps,af,g⟩ (.int k' (k'.wrap i)):=fun w _=>by
 simp [execOp,hx,convert,GU hu,GU hu',Conv.intToInt]
end
end
section
variable [Dfr]
def ZS (T:OTy α) (off:Nat) (Tf:Ty β) (proj:α->β):Prop:=∀ Z h cs x,T.rel Z h cs x->Tf.rel Z ((cs.drop off).take Tf.size) (proj x)
omit [Dfr] in
theorem ZS.of {T:Ty α}{Tf:Ty β}{proj:α->β}(f:Xo T off Tf proj):ZS T.o off Tf proj:=fun Z h cs x r=>f Z cs x r
theorem ZS.self {T':Ty α}[f:Fixd T T']:ZS T 0 T' id:=fun Z h cs x r=>by
 have:=T'.len (f.down r);simp only [Uq,id];rw [<- this,List.take_length];exact f.down r
omit [Dfr] in
theorem ZS.fst {A:OTy α}{B:OTy β}{proj:α->γ}(f:ZS A off Tf proj) (hl:off+Tf.size<=A.size):ZS (zaN A B) off Tf (fun x=>proj x.1):=by
 rintro Z h cs x ⟨c,d,h1,h2,rfl,_,_,_,p,q⟩;have:=A.len p;rw [List.drop_append_of_le_length (by omega),List.take_append_of_le_length (by simp;omega)];exact f Z h1 c x.1 p
omit [Dfr] in
theorem ZS.snd {A:OTy α}{B:OTy β}{proj:β->γ}(f:ZS B off Tf proj):ZS (zaN A B) (A.size+off) Tf (fun x=>proj x.2):=by
 rintro Z h cs x ⟨c,d,h1,h2,rfl,_,_,_,p,q⟩;have:=A.len p;rw [<- this,<- List.drop_drop,List.drop_left];exact f Z h2 d x.2 q
omit [Dfr] in
theorem ZS.comap {proj:α->γ}{g:β->α}(f:ZS T off Tf proj):ZS (T.comap g) off Tf (fun x=>proj (g x)):=fun Z h cs x r=>f Z h cs (g x) r
section
variable {ρ:Type}{n:Nat}{w0:Start}{w:World}{σ0 Z:FS}{p:G3 ρ}{G:ρ->Act->World->Prop}{L:List (Nat×Value)}{b:Nat->Value}{PV PV':List Priv}
variable {P:Program}{ops:Array Oper}{o:Oper}{rest:List Oper}
variable {H:G3 ρ->List (Nat×Value)->FS->List Priv->Prop}{d:Nat}{v:Value}{t t' ty:TypeId}{ps:String}{af:Array Edge}{g:G3 (Nat×Bool)}
variable {x y z:Operand}{k:IntKind}{i j:Int}
omit [Dfr] in
theorem HeldOK.view {σr:FS}{PVr:List Priv}(hS:HeldOK σr PVr Z PV) (hv:∀ h,Sep Z PV' h->Sep Z PV h):HeldOK σr PVr Z PV':=⟨hS.le,fun h k=>hS.all h (hv h k)⟩
theorem zan {Tf:Ty β}{proj:α->β}(hr:zo T e v s Z h) (hs:h.sub w) (hq:zd s i=some q) (hf:ZS T off Tf proj) (hoff:off+Tf.size<=T.size) :
    ∃ cs,Tf.rel Z cs (proj q)/\∀ (j:Nat) (u:Value),cs[j]?=some u->w.cell? ((zh v (i.toNat * T.size+off)).add j)=some u:=by
  have hlt:=zak hq;rcases hr with ⟨_,rfl⟩ | ⟨_,_,rfl⟩ | ⟨gb,cap,cur,hb,gg,rfl,r2,r3,r4,r5,r0,r6,r7,r8,r9,r10⟩
  ·grind
  ·grind
  obtain ⟨k1,hs',k2,k3,k4⟩:=r10;have hel:=k2 i.toNat q (yB.1 hq).2;have hfl:=hf Z _ _ _ hel;have hlen:=Tf.len hfl;refine ⟨_,hfl,fun j u hj=>?_⟩;have hj':j < Tf.size:=by
    grind
  rw [Ug hj',Uh,Ug (by omega),Uh] at hj;have hbb:i.toNat * T.size+(off+j) < s.xs.length * T.size:=by
    grind
  rw [Ug hbb] at hj;simp only [zh,Addr.add_add];rw [show i.toNat * T.size+off+j=i.toNat * T.size+(off+j) by omega];rw [Addr.add_eq _ rfl];simpa using hs.cell (r0 _ _ _ (r7 _ _ hj))
theorem W5 {a:Addr}(hx:opv L b x = .pointer (some a)):zZ P Z PV L b ⟨some d,.nilCheck x,ty,ps,af,g⟩ (.pointer (some a)):=fun w _=>by
 simp [execOp,hx]
theorem zbW {w:World}(hu:P.underlying t=some (.pointer e)):(Op.equal t (.pointer a) (.pointer none)).run P w = .ok (a.isNone) w:=by
 have key:∀ d,(Op.equalIn (d+1) t (.pointer a) (.pointer none)).run P w = .ok (a.isNone) w:=fun d=>by
  cases a <;> simp [Op.equalIn,GU hu]
 exact key 9999
theorem zko (hu:P.underlying t=some (.pointer e)) (hx:opv L b x = .pointer a) (hy:opv L b y = .pointer none) {r:Bool}(hr:a.isNone=r):zZ P Z PV L b ⟨some d,.binOp .eql t x y t',ty,ps,af,g⟩ (.bool r):=fun w _=>by
 subst hr;simp [execOp,hx,hy,eqGuard,binOp,zbW hu]
theorem zkp (hu:P.underlying t=some (.pointer e)) (hx:opv L b x = .pointer a) (hy:opv L b y = .pointer none) {r:Bool}(hr:(!a.isNone)=r):zZ P Z PV L b ⟨some d,.binOp .neq t x y t',ty,ps,af,g⟩ (.bool r):=fun w _=>by
 subst hr;simp [execOp,hx,hy,eqGuard,binOp,zbW hu]
def yO (P:Program) (t:TypeId) (d:Nat) (x y:Value) (r:Bool):Prop:=∀ m w,(Op.equalIn (m+d) t x y).run P w = .ok r w
omit [Dfr] in
theorem yO.int (hu:P.underlying t=some (.int k)):yO P t 1 (.int k i) (.int k j) (decide (i=j)):=fun m w=>by
 have:(i == j)=decide (i=j):=by grind
 simp [Op.equalIn,GU hu,this]
omit [Dfr] in
theorem yO.bool {e q:Bool}(hu:P.underlying t=some .bool):yO P t 1 (.bool e) (.bool q) (decide (e=q)):=fun m w=>by
 have:(e == q)=decide (e=q):=by grind
 simp [Op.equalIn,GU hu,this]
omit [Dfr] in
theorem yO.str {s u:ByteArray}(hu:P.underlying t=some .string):yO P t 1 (.string s) (.string u) (decide (s=u)):=fun m w=>by
 have:(s == u)=decide (s=u):=by
  show ByteArray.beq s u=_;cases s with | mk s=>cases u with | mk u=>
  by_cases h:s=u
  ·subst h;simp [ByteArray.beq]
  ·simp [h,ByteArray.beq]
 simp [Op.equalIn,GU hu,this]
def ziH (P:Program) (xs ys:Array Value) (d:Nat):List Field->Bool->Prop
 |[],r=>r=true
 | f :: fs, r => ∃ u v r1 r2, (∀ w, (part f.type xs f.offset).run P w = .ok u w) /\ (∀ w, (part f.type ys f.offset).run P w = .ok v w) /\ f.name ≠ "_" /\ yO P f.type d u v r1 /\ ziH P xs ys d fs r2 /\ r = (r1 && r2)
omit [Dfr] in
theorem ziH.run {d:Nat}:∀ {fs:List Field}{r:Bool},ziH P xs ys d fs r->∀ m w,(Op.eqFields (m+d) xs ys fs).run P w = .ok r w
 |[],r,h,m,w=>by rw [show r=true from h];simp [Op.eqFields]
 |f::fs,r,⟨u,v,r1,r2,h1,h2,h3,h4,h5,h6⟩,m,w=>by
  subst h6;have:=ziH.run h5 m w;cases r1 <;> simp [Op.eqFields,h3,h1 w,h2 w,h4 m w,this]
omit [Dfr] in
theorem yO.struct {d:Nat}{r:Bool}(hu:P.underlying t=some (.struct fs)) (hp:P.stoodInHeld t=false) (h:ziH P xs ys d fs.toList r):yO P t (d+1) (.agg xs) (.agg ys) r:=fun m w=>by
 have hf:P.fieldsOf t=fs:=by simp [Program.fieldsOf,hu]
 rw [show m+(d+1)=(m+d)+1 by omega,run_equalIn_struct w (m+d) t xs ys (by grind) hp,hf];exact h.run m w
omit [Dfr] in
theorem yO.mono {d d':Nat}{r:Bool}(h:yO P t d v u r) (hd:d<=d'):yO P t d' v u r:=fun m w=>by
 have:=h (m+(d' - d)) w;grind
theorem ziI {cs':List Value}(hud:P.underlying t=some td) (hi:P.info? t=some ti)
    (hcs:(cs.drop off).take ti.size=cs') (hl:cs'.length=ti.size) (h1:Zd td=false->ti.size=1) (hv:yu (Zd td) cs'=v):∀ w,(part t cs.toArray off).run P w = .ok v w:=fun w=>by
  have hagg:(Go.isAgg t).run P w=Result.ok (Zd td) w:=by
    unfold Go.isAgg;rw [GV,GU hud];cases td <;> rfl
  simp only [part,GV,hagg,GW];subst hcs;cases hd:Zd td with
  |true=>
    rw [hd] at hv;subst hv;simp [GV,sizeOf,typeInfo,hi,yu]
  |false=>
    rw [hd] at hv;have h1':=h1 hd;rw [h1'] at hl hv;have:cs[off]?=some v:=by
      rw [<- hv];have hlt:off < cs.length:=by
        grind
      rw [GI hlt];simp only [yu,G8,Uo hlt,List.take_succ_cons,Up]
    simp [this]
theorem ziJ {dd:Nat}{r:Bool}(hg:P.eqGuardType P.depth t=false) (hx:opv L b x = .agg xs) (hy:opv L b y = .agg ys) (hd:dd<=10000) (h:yO P t dd (.agg xs) (.agg ys) r):zZ P Z PV L b ⟨some d,.binOp .eql t x y t',ty,ps,af,g⟩ (.bool r):=fun w _=>by
 have:=h (10000 - dd) w;rw [show 10000 - dd+dd=10000 by omega] at this;have h2:(Op.equal t (.agg xs) (.agg ys)).run P w = .ok r w:=this;simp [execOp,hx,hy,eqGuard,hg,binOp,h2]
theorem ziK {dd:Nat}{r:Bool}(hg:P.eqGuardType P.depth t=false) (hx:opv L b x = .agg xs) (hy:opv L b y = .agg ys) (hd:dd<=10000) (h:yO P t dd (.agg xs) (.agg ys) r):zZ P Z PV L b ⟨some d,.binOp .neq t x y t',ty,ps,af,g⟩ (.bool !r):=fun w _=>by
 have:=h (10000 - dd) w;rw [show 10000 - dd+dd=10000 by omega] at this;have h2:(Op.equal t (.agg xs) (.agg ys)).run P w = .ok r w:=this;simp [execOp,hx,hy,eqGuard,hg,binOp,h2]
end
end
section
variable [Dfr]
section
variable {ρ:Type}{n:Nat}{w0:Start}{σ0 Z:FS}{p:G3 ρ}{L:List (Nat×Value)}{b:Nat->Value}{PV:List Priv}{P:Program}{Q:ρ->Exit->Act->World->Prop}
end
end
section
variable [Dfr]
end
section
variable [Dfr]
section
variable {ρ:Type}{n:Nat}{w0:Start}{w:World}{σ0 Z:FS}{L:List (Nat×Value)}{b:Nat->Value}{PV PV':List Priv}{P:Program}
def ZN (tmps:Array Value):ResultVar->Sem Value
 | .tmp t=>pure (tmps.getD t undef)
 | .cell a t=>do loadVar t (<- asAddr (tmps.getD a undef))
theorem zkq {fn:Func}(h:fn.results = #[r1]) (h1:(ZN tmps r1).run P w = .ok v1 w):(results fn tmps).run P w = .ok v1 w:=by
 have e:results fn tmps=(do let v <- ZN tmps r1;pure v):=by
  cases r1 <;> simp [results,h,ZN]
 grind
theorem zkr {fn:Func}(h:fn.results = #[r1,r2]) (h1:(ZN tmps r1).run P w = .ok v1 w) (h2:(ZN tmps r2).run P w = .ok v2 w) :
    (results fn tmps).run P w = .ok (.tuple #[v1,v2]) w:=by
  have e:results fn tmps=(do let v <- ZN tmps r1;let u <- ZN tmps r2;pure (.tuple #[v,u])):=by
    cases r1 <;> cases r2 <;> simp [results,h,ZN]
  rw [e];simp [h1,h2]
theorem zks {fn:Func}{r3:ResultVar}{v3:Value}(h:fn.results = #[r1,r2,r3]) (h1:(ZN tmps r1).run P w = .ok v1 w) (h2:(ZN tmps r2).run P w = .ok v2 w) (h3:(ZN tmps r3).run P w = .ok v3 w) :
    (results fn tmps).run P w = .ok (.tuple #[v1,v2,v3]) w:=by
  have e:results fn tmps=(do let v <- ZN tmps r1;let u <- ZN tmps r2;let z <- ZN tmps r3;pure (.tuple #[v,u,z])):=by
    cases r1 <;> cases r2 <;> cases r3 <;> simp [results,h,ZN]
  rw [e];simp [h1,h2,h3]
theorem zkt {fn:Func}{r3 r4:ResultVar}{v3 v4:Value}(h:fn.results = #[r1,r2,r3,r4]) (h1:(ZN tmps r1).run P w = .ok v1 w) (h2:(ZN tmps r2).run P w = .ok v2 w) (h3:(ZN tmps r3).run P w = .ok v3 w) (h4:(ZN tmps r4).run P w = .ok v4 w) :
    (results fn tmps).run P w = .ok (.tuple #[v1,v2,v3,v4]) w:=by
  have e:results fn tmps=(do let v <- ZN tmps r1;let u <- ZN tmps r2;let z <- ZN tmps r3;let y <- ZN tmps r4;pure (.tuple #[v,u,z,y])):=by
    cases r1 <;> cases r2 <;> cases r3 <;> cases r4 <;> simp [results,h,ZN]
  rw [e];simp [h1,h2,h3,h4]
theorem zku {fn:Func}(h:fn.results = #[]):(results fn tmps).run P w = .ok (.tuple #[]) w:=by
 simp [results,h]
variable {fn:Func}{post:ρ->FS->List Priv->Value->Prop}{r:ρ}
end
end
section
variable [Dfr]
end
section
variable [Dfr]
section
variable {ρ:Type}{n:Nat}{w0:Start}{σ0 Z:FS}{p:G3 ρ}{L:List (Nat×Value)}{b:Nat->Value}{PV PV':List Priv}{P:Program}
variable {H:G3 ρ->List (Nat×Value)->FS->List Priv->Prop}{d:Nat}{v:Value}{t t' ty:TypeId}{ps:String}{af:Array Edge}{g:G3 (Nat×Bool)}{x y:Operand}{k:IntKind}{i:Int}
end
end
section
variable [Dfr]
section
variable {ρ:Type}{n:Nat}{w0:Start}{σ0 Z:FS}{p:G3 ρ}{L:List (Nat×Value)}{b:Nat->Value}{PV PV':List Priv}{P:Program}
theorem Inv.past {w w':World}{τ Z':FS}{A':List Priv}(hi:Inv w0 σ0 Z PV w) (hle:Z.le τ) (k:Inv ⟨w,zc.none⟩ τ Z' A' w'):Inv w0 σ0 Z PV w':=by
 obtain ⟨h,hs,hg⟩:=hi.own;have k2:Inv ⟨w,zc.none⟩ Z Z [] w':=⟨(hle.trans k.le).sub k.sub,.refl Z,fun _ _ _ e =>.inl e,⟨zc.none,Sep.nil,fun _ _ _ (e:(none:G3 Bit)=some _)=>(by cases e),fun _ _ (e:(none:G3 Bit).isSome=true)=>by simp at e,fun _ _ (e:(none:G3 Bit).isSome=true)=>by simp at e⟩,k.ext⟩;exact hi.call (A':=[]) (C:=PV) (h1:=zc.none) (h2:=h) hg hs (zc.none_le _) (.refl _) (zc.none_disj _) k2
def WH (v:Value) (i j:Int) (size:Nat):Value:=
 match v with
 | .slice a _ c =>.slice (if (c:Int)=i then a else a.map (·.add (i.toNat * size))) (j - i).toNat (c - i.toNat)
 |v=>v
end
end
section
variable [Dfr]
section
variable {ρ:Type}{n:Nat}{w0:Start}{σ0 Z:FS}{p:G3 ρ}{L:List (Nat×Value)}{b:Nat->Value}{PV PV':List Priv}{P:Program}
variable {H:G3 ρ->List (Nat×Value)->FS->List Priv->Prop}{d:Nat}{v:Value}{t ty:TypeId}{ps:String}{af:Array Edge}{g:G3 (Nat×Bool)}{x:Operand}
end
end
section
section
variable {P:Program}{w0:Start}{σ0 Z:FS}{PV:List Priv}{w:World}
def Priv.obj (r:Nat) (o:Obj):Priv:=⟨fun _ h=>h r 0=some (.obj o),fun _ l e=>l _ _ _ e⟩
def xM (r:Nat) (o:Obj):zc:=fun b k=>if b=r/\k=0 then some (.obj o) else none
theorem zeG {r:Nat}{o:Obj}{b k:Nat}(h:(xM r o b k).isSome=true):b=r/\k=0:=by
 unfold xM at h;grind
theorem zdJ {r:Nat}{o:Obj}(ho:Y4 o=false) (hb:w.heap[r]?=some o):(xM r o).sub w:=fun b k x e=>by
 unfold xM at e;split at e
 ·rename_i h;cases e;obtain ⟨rfl,rfl⟩:=h;exact ⟨hb,rfl,ho⟩
 ·cases e
theorem Inv.newObj {o:Obj}(ho:Y4 o=false) (hi:Inv w0 σ0 Z PV w):Inv w0 σ0 Z (.obj w.heap.size o::PV) (w.alloc o):=by
 refine hi.cons (h1:=xM w.heap.size o) (by show xM _ _ _ _=_;simp [xM]) (zdJ ho (Yo _ _)) ⟨rfl,rfl,rfl,by simp,fun b =>.same fun hb=>Vp _ _ _ hb,fun a ha _=>World.frozen?_alloc_old w _ a (by omega)⟩ fun b i hb=>by rw [(zeG hb).1];grind
theorem Inv.setObj {r:Nat}{o o':Obj}(ho:Y4 o=false) (ho':Y4 o'=false) (hm:PV[m]?=some (.obj r o)) (hi:Inv w0 σ0 Z PV w):Inv w0 σ0 Z (PV.set m (.obj r o')) {w with heap:=w.heap.setIfInBounds r o' }:=by
 refine hi.change hm fun h1 hh hs=>?_
 have hh:h1 r 0=some (.obj o):=hh;have hb:w.heap[r]?=some o:=(hs r 0 _ hh).1;obtain ⟨k1,k2⟩:=MapKept.heap_set (o':=o') hb;have hfz:∀ a:Addr,World.frozen? {w with heap:=w.heap.setIfInBounds r o' } a=w.frozen? a:=fun a=>by
  unfold World.frozen?;by_cases e:a.block=r
  ·rw [e];show (match (w.heap.setIfInBounds r o')[r]? with | some (.cells _ _ (lo,hi))=>decide (lo<=a.off) && decide (a.off < hi) | _=>false)=_;rw [k1,hb];have fz0:∀ (x:Obj),Y4 x=false->(match some x with | some (.cells _ _ (lo,hi))=>decide (lo<=a.off) && decide (a.off < hi) | _=>false)=false:=fun x hx=>by
    cases x <;> first | rfl | (exact absurd hx (by simp [Y4]))
   grind
  ·show (match (w.heap.setIfInBounds r o')[a.block]? with | some (.cells _ _ (lo,hi))=>decide (lo<=a.off) && decide (a.off < hi) | _=>false)=_;grind
 refine ⟨xM r o',by show xM _ _ _ _=_;simp [xM],zdJ ho' k1,⟨rfl,rfl,rfl,by simp,fun b=>?_,fun a _ _=>hfz a⟩,fun b i hx=>?_⟩
 ·by_cases e:b=r
  ·subst e;refine ⟨fun c e f hc=>?_,fun x hx hn=>?_⟩
   ·rw [hb] at hc;cases hc;cases ho
   grind
  ·exact .same fun _=>k2 b e
 ·obtain ⟨rfl,rfl⟩:=zeG hx;grind
theorem Inv.objAt {r:Nat}{o:Obj}(hm:PV[m]?=some (.obj r o)) (hi:Inv w0 σ0 Z PV w):w.heap[r]?=some o:=by
 obtain ⟨g,hsep,hg⟩:=hi.own;obtain ⟨hs,k1,k2,k3⟩:=hsep;have h1:hs m r 0=some (.obj o):=k1 m _ hm;exact (hg.sub r 0 _ (k3 m _ _ _ h1)).1
end
end
end Go.Px
