/- Part A5. -/
import Derived.Test.YtnkjgenigoecjaaGreatDoorA4
set_option linter.unusedSectionVars false
set_option linter.unusedVariables false
set_option linter.unusedSimpArgs false
namespace Go.Px
open _root_.Array renaming mem_toList_iff->qA,toList_inj->qL,replicate->qM,getElem?_eq_getElem->qN,getElem?_toList->qY,getElem?_setIfInBounds_ne->qZ
open Bool renaming true->G,false->O,or_true->qF,true_or->qK,cond_eq_ite->qX
open Go.Call renaming operands->qk
open Go.Op renaming operands->W,slice->qS
open Go.Oper renaming wp->qD,wp_mono->qP,upon_enter->qQ,upon->qR
open Go.Region renaming ready->qx,wanted->qB,binds->qO
open List renaming range->qy,mem_cons_self->qE,perm_middle->qI,map_append->qJ,nodup_cons->qV,mem_filterMap->qW
open Nat renaming beq->V,blt->qb,testBit->qc,ble->qs,shiftLeft->qG,beq_refl->qH,testBit_or->qT,lor->qU
open _root_.Option renaming some->E,none->I,map->qC
variable{K:Act->World->Prop}{Q:Exit->Act->World->Prop}{T0 e f i id j k m off:Nat}{a:Act}{bl:Bl}{dst:U7 Nat}{es:List ESh}{hi lo:U7 Operand}{ins:Sig}{l:List Nat}{okB run:Bool}{ord:List (Nat×Bool)}{p:Nat->Bool}{q:Oper}{s:Sh}{ti:TypeInfo}{ts:Array TypeId}{w:World}{α:Type}
section
theorem DF:∀(b:Bool),(O || b)=b:=@Bool.false_or
theorem DE:∀{α:Type _}{b:α}(«as»:List α){bs:List α},b∈bs->b∈«as»++bs:=@List.mem_append_right
theorem DC:∀{α:Type _}{a:α}{«as»:List α}(bs:List α),a∈«as»->a∈«as»++bs:=@List.mem_append_left
variable [Dfr]
section
variable {κ:Kp}{C:Cod}{S:St C}{ν:Val}{vs:Nat->List Value}{ids:List Nat}{L:List (Nat×Value)}{b:Nat->Value}{Z:FS}{PV:List Priv}{P:Program}
variable {n:Nat}{w0:Start}{σ0:FS}
def lent:Op->U7 (Operand×List Operand)
 | .call ⟨.value c,args,_⟩=>E (c,args.toList)
 |_=>I
def Xg(S:St C)(x:Operand):U7 (Out C):=match S.op x with
 | .ifc t A=>chk (A.base || A.flat) (E (.pan (.ifc t A) S))
 |_=>I
structure Opts where
 fs:Bool
def yZ(q:Opts)(P:Program)(S:St C)(d:Nat)(ty t:TypeId)(x:Operand)(lo hi mx:U7 Operand):U7 (Out C):=match lo,mx with
 |none,I=>bif q.fs then yC P S d ty t x I hi else yY P S d t x hi
 |some lo,I=>yC P S d ty t x (E lo) hi
 |_,_=>I
def Xh{D:Nat->Type}(args:List (AV D)):List (AV D)->List (AV D)
 |[.tup ws]=>ws++args
 |caps=>args++caps
def wQ(args:List Value):List Value->List Value
 |[.tuple a]=>a.toList++args
 |vs=>args++vs
theorem zou {Z:FS}{ν:Val}{p:Nat->Prop}(hone:∀i,(ν.hdr i).oneCell'=G) {args vals:List Value}{As caps:List (AV C.D)}(hc:zdd caps=G) (ha:VRs C Z ν args As) (hr:VRs C Z ν vals caps) (hoa:AV.oks p As) (hoc:AV.oks p caps) :
    VRs C Z ν (wQ args vals) (Xh As caps)/\AV.oks p (Xh As caps)/\∃fi ca:Array Value,zaV f vals = .func (.func f) fi ca/\(fi++args.toArray)++ca=(wQ args vals).toArray:=by
 have plain:(∀v∈vals,v.oneCell'=G)\/vals.length≠1->Xh As caps=As++caps->VRs C Z ν (wQ args vals) (Xh As caps)/\AV.oks p (Xh As caps)/\∃fi ca:Array Value,zaV f vals = .func (.func f) fi ca/\(fi++args.toArray)++ca=(wQ args vals).toArray:=by
  intro h1 h2;have e1:wQ args vals=args++vals:=by
   unfold wQ;split
   · rename_i a;rcases h1 with h1 | h1
     ·have:=h1 (.tuple a) (by simp);cases this
     grind
   ·rfl
  have e2:zaV f vals = .func (.func f) #[] vals.toArray:=by
   unfold zaV;split
   · rename_i a;rcases h1 with h1 | h1
     ·have:=h1 (.tuple a) (by simp);cases this
     grind
   ·rfl
  rw[e1,h2];exact⟨ha.append hr,AV.oks_append hoa hoc, #[],vals.toArray,e2,by simp⟩
 match vals,caps,hr with
 |[],[],hr=>exact plain (.inl λv hv=>by cases hv) rfl
 |[v],[A],hr=>
   by_cases ht:∃ws,A = .tup ws
   ·obtain⟨ws,rfl⟩:=ht;let⟨us,e,h2⟩:=hr.1;subst e;exact⟨h2.append ha,AV.oks_append hoc.1 hoa,us.toArray, #[],rfl,by simp[wQ]⟩
   · have hl:A.leaf=true:=by
       unfold zdd at hc;split at hc
       ·grind
       all_goals grind
     refine plain (.inl λu hu=>by rw[D2.1 hu];exact hr.1.one hl hone) ?_;unfold Xh;grind
 |u::v::l,A::B::cs,hr=>exact plain (.inr (by simp)) (by cases A<;>rfl)
 |[v],A::B::cs,hr=>exact hr.2.elim
 |u::v::l,[A],hr=>exact hr.2.elim
def zef(P:Program)(t:TypeId)(name:String):U7 FuncId:=match P.info? t,P.underlying t with
 |some ti,E (.pointer _)=>(match ti.methods.find? (·.name == name) with
  |some m=>(match m.path.toList,m.func with
   |[],E (f,G)=>E f
   |_,_=>I)
  |none=>I)
 |_,_=>I
theorem zrU{t:TypeId}{name:String}{f:FuncId}(h:zef P t name=E f){v:Value}{args:Array Value}:(callMethod (.iface t v) name args).run P w=(callFunc f (#[v]++args)).run P w:=by
 unfold zef at h;split at h
 ·rename_i ti e hi hu;split at h
  ·rename_i m hm;split at h
   ·rename_i f' hp hf;cases h;have hk:∃k,P.types.size+Made.depth=k+1:=⟨P.types.size+Made.depth - 1,by unfold Made.depth;omega⟩
    let⟨k,hk⟩:=hk;simp only[callMethod,UZ,Db,Da,hk];simp[method,typeInfo,hi,hm,hp,follow,hf,receiverAt,UY hu,Place.get,Result.andThen]
   ·cases h
  ·cases h
 ·cases h
def WM(Γ:List (Spec C))(P:Program)(S:St C)(d:Nat)(x:Operand)(name:String)(args:Array Operand):U7 (Out C):=match S.op x with
 | .ifc t A=>(match zef P t name with
  |some f=>vv Γ S d f (A::args.toList.map S.op)
  |none=>I)
 |_=>I
def xB(q:Opts)(Γ:List (Spec C))(P:Program)(d:Nat)(ty:TypeId)(S:St C):Op->U7 (Out C)
 | .alloc t=>Xf P S d t
 | .box t x=>chk (YQ (S.op x)) (bif C.bz t then zrM S d t (zr (S.op x)) else zbI S d (zr (S.op x)))
 | .makeSlice t x y=>w6 P S d t x y
 | .buildSlice t m parts=>Y5 P S d t m parts.toList
 | .slice t x lo hi mx=>match yB P S ty (.slice t x lo hi mx) with
  |some A=>E (.go (S.put d A))
  |none=>yZ q P S d ty t x lo hi mx
 | .convert t t' x=>match yB P S ty (.convert t t' x) with
  |some A=>E (.go (S.put d A))
  |none=>I
 | .call ⟨.value c,args,_⟩=>match S.op c with
  | .clo f caps=>chk (zdd caps) (vv Γ S d f (Xh (args.toList.map S.op) caps))
  |_=>I
 | .call ⟨.invoke x name,args,_⟩=>WM Γ P S d x name args
 | .call ⟨.builtin .append,args,ts⟩=>match args.toList,ts.toList with
  |[x,y],[t,t']=>chk (V t t') (yX P S d t x y)
  |_,_=>I
 | .makeMap t I=>Xz S d t
 | .lookup t x y O=>zga P S d t x y
 | .panic x=>Xg S x
 |op=>(yB P S ty op).map λA =>.go (S.put d A)
def VC(q:Opts)(Γ:List (Spec C))(P:Program)(n:Nat)(o:Oper)(S:St C):U7 (Out C):=match o.dst with
 |some d=>chk (qb d n) (xB q Γ P d o.type S o.op)
 |none=>match o.op with
  | .store t x y=>yv P S t x y
  | .mapUpdate t x y z=>zbN P S t x y z
  | .call ⟨.builtin .delete,args,ts⟩=>(match args.toList with
   |[x,y]=>wH P S ts x y
   |_=>I)
  | .panic x=>Xg S x
  |_=>I
theorem zk0 (h:AbsL κ S ν vs ids L b Z PV) {x:Operand}{ty:TypeId}{ps:String}{af:Array Edge}{g:U7 (Nat×Bool)} :
    OpA κ P n w0 σ0 ⟨dst,.panic x,ty,ps,af,g⟩ (Xg S x) L b Z PV:=by
 intro out hX a w hi hf K Q hK hP;have hx:=h.op x;unfold Xg at hX;split at hX
 · rename_i t A e;let⟨hb,hX⟩:=zb hX;cases hX;rw[e] at hx;have hk:∀p:Nat->Prop,(AV.ifc t A).ok p:=λp=>by
     rcases(UR _ _).mp hb with hb | hb
     ·exact Vj (A :=.ifc t A) hb
     ·exact WL (A :=.ifc t A) hb
   let⟨u,e2,e3⟩:=hx;have hrun:(execOp a.eval ⟨dst,.panic x,ty,ps,af,g⟩).run P w = .halt (.panic (.iface t u)) w:=by
    rw[hf.eval];show(execOp (opv L b) ⟨dst,.panic x,ty,ps,af,g⟩).run P w=_;simp only[execOp,e2];rfl
   unfold qD;rw[hrun];refine hP _ _ rfl (.iface t u) Z PV w hi ⟨ν,vs,ids,h⟩ ⟨hk _,λν' _=>VR.congr (ν:=ν) (p:=λ_=>False) (λ_ h=>h.elim) (hk _) ⟨u,rfl,e3⟩⟩
 ·cases hX
theorem zxA (hgl:C.gl w0.w σ0) {Γ:List (Spec C)}(hΓ:∀s∈Γ,s.OK P) (h:AbsL κ S ν vs ids L b Z PV) {c:Operand}{args:Array Operand}{d:Nat}(hn:qb d n=G) {ty:TypeId}{ps:String}{af:Array Edge}{g:U7 (Nat×Bool)}{f:FuncId}{caps:List (AV C.D)}(hc:S.op c = .clo f caps) :
    OpA κ P n w0 σ0 ⟨E d,.call ⟨.value c,args,ts⟩,ty,ps,af,g⟩ (chk (zdd caps) (vv Γ S d f (Xh (args.toList.map S.op) caps))) L b Z PV:=by
 intro out hX a w hi hf K Q hK hP;let⟨hcaps,hX⟩:=zb hX;have hcv:=h.op c;have hco:=h.oks_op c;rw[hc] at hcv hco;let⟨cvs,e1,e2⟩:=hcv;have hla:AV.oks (λid=>(S.heap id).isSome=G) (args.toList.map S.op):=AV.oks_iff.2 λA hA=>by
  obtain⟨x,_,rfl⟩:=D6.1 hA;exact h.oks_op x
 let⟨hr,hl,fi,ca,e3,e4⟩:=zou (f:=f) h.one hcaps (zba h.toAbs args.toList) e2 hla hco;let⟨fn,hfn,hnm,hb,hcalls⟩:=ziw hgl h hr hl hi hΓ hX;have hrun:(execOp a.eval ⟨E d,.call ⟨.value c,args,ts⟩,ty,ps,af,g⟩).run P w = .ok (.enter f (wQ (args.toList.map (opv L b)) cvs).toArray) w:=by
  have ha':args.map (opv L b)=(args.toList.map (opv L b)).toArray:=by grind
  rw[hf.eval,<- e4];simp only[execOp,resolve,e1,e3,ha',Deferred.ofValue,UZ,UX,Da,invoke];unfold callFunc;simp only[UZ,Db,Da,hfn,hnm,hb,jk,jp,UX]
 unfold qD;rw[hrun,qQ];refine Calls.mono hcalls ?_;intro e w' hq;cases e with
 |returned v=>
  obtain⟨S',Z',PV',rfl,hi',hA⟩:=hq;exact hK _ rfl _ Z' PV' _ w' hi' (hf.put (by simpa[Dd] using hn) v) hA
 |panicked chain=>
  grind
 |outgrown=>exact hq.elim
theorem zrV (hgl:C.gl w0.w σ0) {Γ:List (Spec C)}(hΓ:∀s∈Γ,s.OK P) (h:AbsL κ S ν vs ids L b Z PV) {x:Operand}{name:String}{args:Array Operand}{d:Nat}(hn:qb d n=G) {ty:TypeId}{ps:String}{af:Array Edge}{g:U7 (Nat×Bool)} :
    OpA κ P n w0 σ0 ⟨E d,.call ⟨.invoke x name,args,ts⟩,ty,ps,af,g⟩ (WM Γ P S d x name args) L b Z PV:=by
 intro out hX a w hi hf K Q hK hP;unfold WM at hX;split at hX
 · rename_i t A hc;split at hX
   · rename_i f hm;have hcv:=h.op x;have hco:=h.oks_op x;rw[hc] at hcv hco;let⟨u,e1,e2⟩:=hcv;have hla:AV.oks (λid=>(S.heap id).isSome=G) (args.toList.map S.op):=AV.oks_iff.2 λA hA=>by
       obtain⟨x,_,rfl⟩:=D6.1 hA;exact h.oks_op x
     have hr:VRs C Z ν (u::args.toList.map (opv L b)) (A::args.toList.map S.op):=⟨e2,zba h.toAbs args.toList⟩;have hl:AV.oks (λid=>(S.heap id).isSome=G) (A::args.toList.map S.op):=⟨hco,hla⟩;let⟨fn,hfn,hnm,hb,hcalls⟩:=ziw hgl h hr hl hi hΓ hX;have hrun:(execOp a.eval ⟨E d,.call ⟨.invoke x name,args,ts⟩,ty,ps,af,g⟩).run P w = .ok (.enter f (u::args.toList.map (opv L b)).toArray) w:=by
      have ha':args.map (opv L b)=(args.toList.map (opv L b)).toArray:=by apply qL.1;simp
      rw[hf.eval];simp only[execOp,resolve,e1,ha',UZ,UX,Da,invoke];have hlen:(args.toList.map (opv L b)).length=args.size:=by simp
      generalize args.toList.map (opv L b)=l at *
      have h0:(#[Value.iface t u]++l.toArray)[0]?=E (.iface t u):=by simp
      have h1:(#[Value.iface t u]++l.toArray).extract 1 (#[Value.iface t u]++l.toArray).size=l.toArray:=by
       apply qL.1;simp
      simp only[h0,h1];rw[zrU hm,show #[u]++l.toArray=(u::l).toArray by apply qL.1;simp];unfold callFunc;simp only[UZ,Db,Da,hfn,hnm,hb,jk,jp,UX]
     unfold qD;rw[hrun,qQ];refine Calls.mono hcalls ?_;intro e w' hq;cases e with
     |returned v=>
      obtain⟨S',Z',PV',rfl,hi',hA⟩:=hq;exact hK _ rfl _ Z' PV' _ w' hi' (hf.put (by simpa[Dd] using hn) v) hA
     |panicked chain=>
      obtain⟨A,S',u,Z',PV',rfl,rfl,hi',hp,hA⟩:=hq;exact hP _ _ rfl _ Z' PV' w' hi' hA hp
     |outgrown=>exact hq.elim
   ·cases hX
 ·cases hX
theorem znr (h:AbsL κ S ν vs ids L b Z PV) {op:Op}{d:Nat}(hn:qb d n=G) {ty:TypeId}{ps:String}{af:Array Edge}{g:U7 (Nat×Bool)} :
    OpA κ P n w0 σ0 ⟨E d,op,ty,ps,af,g⟩ ((yB P S ty op).map λA =>.go (S.put d A)) L b Z PV:=by
 intro out hX;obtain⟨A,he,rfl⟩:=DB.1 hX;exact zad h hn he (zae h he) _ rfl
theorem zxB{q:Opts}{Γ:List (Spec C)}(hΓ:∀s∈Γ,s.OK P)(n:Nat)(κ:Kp):zkV P n κ (VC q Γ P n):=by
 intro w0 σ0 hgl o S L b Z PV hA out hX;let⟨ν,vs,ids,h⟩:=hA;let⟨dst,op,ty,ps,af,g⟩:=o;cases dst with
 |none=>
  unfold VC at hX;simp only at hX;split at hX
  ·exact zoo h _ hX
  ·exact zmX h _ hX
  ·split at hX
   ·rename_i args ts _ x y e;rw[zaW e];exact zmY h _ hX
   ·cases hX
  ·exact zk0 h _ hX
  ·cases hX
 |some d=>
  let⟨hn,hX⟩:=zb hX;have hX:xB q Γ P d ty S op=E out:=hX;unfold xB at hX;split at hX
  ·exact zon h hn _ hX
  ·let⟨hs,hX⟩:=zb hX;rw[qX] at hX;split at hX
   ·exact zrN h hn hs _ hX
   ·exact zrC h hn hs _ hX
  ·exact zrF h hn _ hX
  ·exact zmV h hn _ hX
  ·split at hX
   ·rename_i A he;exact zad h hn he (zae h he) _ hX
   ·unfold yZ at hX;split at hX
    ·cases hq:q.fs with
     |true=>rw[hq] at hX;exact ze3 h hn _ hX
     |false=>rw[hq] at hX;exact zmW h hn _ hX
    ·exact ze3 h hn _ hX
    ·cases hX
  ·split at hX
   ·rename_i A he;exact zad h hn he (zae h he) _ hX
   ·cases hX
  ·split at hX
   ·rename_i f caps hc;exact zxA hgl hΓ h hn hc _ hX
   ·cases hX
  ·exact zrV hgl hΓ h hn _ hX
  ·split at hX
   ·rename_i args ts x y t t' e1 e2;let⟨ht,hX2⟩:=zb hX;have:=ge ht;subst this;rw[zaW e1,zaW e2];exact ze2 h hn _ hX2
   ·cases hX
  ·exact zkR h hn _ hX
  ·exact zrL h hn _ hX
  ·exact zk0 h _ hX
  ·exact znr h hn _ hX
def zvL(n:Nat):U7 Nat->Bool
 |some d=>qb d n
 |none=>G
def stp(q:Opts)(Γ:List (Spec C))(P:Program)(n:Nat)(o:Oper)(S:St C):U7 (Out C):=match xc P S o.dst o.op with
 |some k=>chk (zvL n o.dst) (WX P S k)
 |none=>VC q Γ P n o S
theorem zk1{q:Opts}{Γ:List (Spec C)}(hΓ:∀s∈Γ,s.OK P)(n:Nat)(κ:Kp):zkV P n κ (stp q Γ P n):=by
 intro w0 σ0 hgl o S L b Z PV hA out hX;unfold stp at hX;split at hX
 ·rename_i X hN;let⟨hd,hX2⟩:=zb hX;let⟨ν,vs,ids,h⟩:=hA;let⟨dst,op,ty,ps,af,g⟩:=o;exact zzc h (λd e=>by subst e;exact hd) hN out hX2
 ·exact zxB hΓ n κ w0 σ0 hgl o S L b Z PV hA out hX
end
end
section
variable [Dfr]
section
variable {C:Cod}{S:St C}{P:Program}{ρ:Type}{Γ:List (Spec C)}
theorem zgd{f:XE C->St C->U7 (Out C)}{K:Out C->U7 ρ}{k:XK}{g:Sig}{y:XK.ty C k g}:(Yg k g y f).bind K=Yg k g y λe Sr=>(f e Sr).bind K:=by
 cases k<;>rfl
theorem XC{f:XE C->St C->U7 (Out C)}{K:Out C->U7 ρ}:∀{outs:List (XK×Sig)}{r:zf C outs},(zR outs r f).bind K=zR outs r λe Sr=>(f e Sr).bind K
 |[],r=>r.elim
 |[o],r=>zgd
 |o::o2::l,r=>by
  cases r with
  |inl a=>exact zgd (k:=o.1) (g:=o.2) (y:=a)
  |inr y=>exact XC (outs:=o2::l) (r:=y)
def VD(s:Spec C)(d:Nat)(S:St C)(x:s.ins.ty C)(K:Out C->U7 ρ):U7 ρ:=
 chk s.ins.es.isEmpty ((s.F x).bind λr=>zR s.outs r λe Sr=>(zbf S d s.nr e Sr).bind K)
def zbV:(outs:List (XK×Sig))->zf C outs->(XE C->St C->List ESh->α)->α
 |[],y,_=>y.elim
 |[o],y,K=>Yg o.1 o.2 y λe S=>K e S o.2.es
 |o::o2::r,y,K=>match(y:XK.ty C o.1 o.2⊕zf C (o2::r)) with
  | .inl a=>Yg o.1 o.2 a λe S=>K e S o.2.es
  | .inr y=>zbV (o2::r) y K
theorem zaY{K:XE C->St C->List ESh->α}:∀{outs:List (XK×Sig)}{r:zf C outs},zbV outs r K=zR outs r λe S=>K e S (yk outs r)
 |[],r=>r.elim
 |[o],r=>rfl
 |o::o2::l,r=>by
  cases r with
  |inl a=>rfl
  |inr y=>exact zaY (outs:=o2::l) (r:=y)
theorem zge{k:XK}{g:Sig}{y:XK.ty C k g}:Yg k g y (λ_ _=>(none:U7 α))=none:=by cases k<;>rfl
theorem zdl:∀{outs:List (XK×Sig)}{r:zf C outs},zR outs r (λ_ _=>(none:U7 α))=I
 |[],r=>r.elim
 |[o],r=>zge (k:=o.1) (g:=o.2) (y:=r)
 |o::o2::l,r=>by
  cases r with
  |inl a=>exact zge (k:=o.1) (g:=o.2) (y:=a)
  |inr y=>exact zdl (outs:=o2::l) (r:=y)
def zbW(s:Spec C)(d:Nat)(S2:St C)(bl:Bl)(x:s.ins.ty C)(K:Out C->U7 ρ):U7 ρ:=
 (s.F x).bind λr=>zbV s.outs r λe Sr es=>chk (qs s.ins.es.length es.length) ((Wa S2 d s.nr bl es e Sr).bind K)
theorem ze8{s:Spec C}{d:Nat}{S2:St C}{x:s.ins.ty C}{K:Out C->U7 ρ}:zbW s d S2 bl x K=(xz s d S2 bl x).bind K:=by
 unfold zbW xz;rw[gh];congr 1;funext r;rw[zaY,zt,XC];cases qs s.ins.es.length (yk s.outs r).length with
 |true=>rfl
 |false=>exact zdl
def zbX(s:Spec C)(d:Nat)(S:St C)(x:s.ins.ty C)(K:Out C->U7 ρ):U7 ρ:=
 (s.F x).bind λr=>zbV s.outs r λe Sr es=>chk (zvK e) ((Wa S d s.nr [] es e Sr).bind K)
theorem ze9{s:Spec C}{d:Nat}{x:s.ins.ty C}{K:Out C->U7 ρ}:zbX s d S x K=(yD s d S x).bind K:=by
 unfold zbX yD;rw[gh];congr 1;funext r;rw[zaY,XC];simp only[zt]
def zbY(Γ:List (Spec C))(S:St C)(d f:Nat)(As:List (AV C.D))(K:Out C->U7 ρ):U7 ρ:=match Γ with
 |[]=>I
 |s :: Γ=>bif V s.f f && (s.view || s.viewO) then Wb S As λBs=>chk (okX As Bs) (wA s.ins.ts (zgb S As Bs) λT=>match YH s.ins T As.length with
    |some (_,_,x)=>bif s.view then VD s d S x K else zbX s d S x K
    |none=>I) else zbY Γ S d f As K
theorem zm2{s:Spec C}{d:Nat}{x:s.ins.ty C}{K:Out C->U7 ρ}:VD s d S x K=(yP s d S x).bind K:=by
 simp only[VD,yP,zt,gh,XC]
theorem zfa{d:Nat}{As:List (AV C.D)}{K:Out C->U7 ρ}:∀{Γ:List (Spec C)},zbY Γ S d f As K=(xA Γ S d f As).bind K
 |[]=>rfl
 |s::Γ=>by
  unfold zbY xA;cases(V s.f f && (s.view || s.viewO)) with
  |false=>exact zfa
  |true=>
   simp only[D1];rw[zbS];congr 1;funext Bs;rw[zt,zbT];congr 1;congr 1;funext T;cases YH s.ins T As.length with
   |none=>rfl
   |some q=>
    let⟨S2,bl,x⟩:=q;simp only;cases s.view with
    |true=>exact zm2
    |false=>exact ze9
def VE(Γ0 Γ:List (Spec C))(S:St C)(d f:Nat)(As:List (AV C.D))(K:Out C->U7 ρ):U7 ρ:=match Γ with
 |[]=>zbY Γ0 S d f As K
 |s::Γ=>bif V s.f f then(match YT s.ins S As with
  |some (S2,bl,x)=>bif s.view then VD s d S x K else bif s.viewO then zbX s d S x K else zbW s d S2 bl x K
  |none=>VE Γ0 Γ S d f As K) else VE Γ0 Γ S d f As K
theorem zaZ{Γ0:List (Spec C)}{d:Nat}{As:List (AV C.D)}{K:Out C->U7 ρ}:∀{Γ:List (Spec C)},VE Γ0 Γ S d f As K=(YI Γ0 Γ S d f As).bind K
 |[]=>zfa
 |s::Γ=>by
  unfold VE YI;cases V s.f f with
  |false=>exact zaZ
  |true=>
   simp only[D1];cases YT s.ins S As with
   |none=>exact zaZ
   |some q=>
    let⟨S2,bl,x⟩:=q;simp only;cases s.view with
    |true=>
     simp only[D1,VD,yP,zt,gh,XC]
    |false=>
     rw[UC,UC];cases s.viewO with
     |true=>simp only[D1,ze9]
     |false=>simp only[UC,ze8]
def zhz(Γ:List (Spec C))(S:St C)(d f:Nat)(As:List (AV C.D))(K:Out C->U7 ρ):U7 ρ:=VE Γ Γ S d f As K
theorem zgf{d:Nat}{As:List (AV C.D)}{K:Out C->U7 ρ}:zhz Γ S d f As K=(vv Γ S d f As).bind K:=zaZ
def eff:Op->Bool
 | .slice _ _ _ _ _=>G
 | .convert _ _ _=>G
 |op=> !rdE op
where
 rdE:Op->Bool
  | .alloc _=>O
  | .box _ _=>O
  | .makeSlice _ _ _=>O
  | .buildSlice _ _ _=>O
  | .call ⟨.value _,_,_⟩=>O
  | .call ⟨.invoke _ _,_,_⟩=>O
  | .call ⟨.builtin .append,_,_⟩=>O
  | .makeMap _ _=>O
  | .lookup _ _ _ _=>O
  | .panic _=>O
  |_=>G
def zah(P:Program)(S:St C)(d:Nat)(t:TypeId)(x y:Operand)(K:Out C->U7 ρ):U7 ρ:=
 match P.underlying t with
 |some (.slice e)=>(match P.info? e with
  |some ti=>(match ti.zero with
   |some zv=>chk (V ti.size (C.size e) && (qb 0 (C.size e) && (V zv.cells.size (C.size e) && isNone (S.heap (nid d 0)))))
       (match S.op x with
       | .row id=>(match S.heap id with
        |some (.row T s)=>chk (V T e) ((zbM S T (S.op y)).bind λts=>(zo ti.bytes s ts).bind λs'=>
            K (.go {env:=upd (S.sub id .und).env d (.row (nid d 0)),heap:=upd (S.sub id .und).heap (nid d 0) (E (.row T s'))}))
        |_=>I)
       | .nils=>(zbM S e (S.op y)).bind λts=>(zo ti.bytes ⟨[],O⟩ ts).bind λs'=>
             K (.go {env:=upd S.env d (.row (nid d 0)),heap:=upd S.heap (nid d 0) (E (.row e s'))})
       |_=>I)
   |none=>I)
  |none=>I)
 |_=>I
theorem zdm{d:Nat}{t:TypeId}{x y:Operand}{K:Out C->U7 ρ}:zah P S d t x y K=(yX P S d t x y).bind K:=by
 unfold zah yX;cases P.underlying t with
 |none=>rfl
 |some td=>
  cases td<;>first | rfl | skip
  rename_i e;simp only;cases P.info? e with
  |none=>rfl
  |some ti=>
   simp only;cases ti.zero with
   |none=>rfl
   |some zv=>
    simp only[zt];congr 1;cases S.op x<;>first | rfl | skip
    ·rename_i id;simp only;cases S.heap id with
     |none=>rfl
     |some en=>
      cases en with
      |cell cs=>rfl
      |row T s=>simp only[zt,gh,jj]
      |obj q T b s=>rfl
      |orow T s g=>rfl
    grind
def zgg{D:Nat->Type}:AV D->Bool
 | .str _=>G
 | .sl _ _ _=>G
 | .nx _ _ _ _=>G
 |_=>O
theorem zi3{q:Opts}{d:Nat}{ty t:TypeId}{x:Operand}(h:zgg (S.op x)=G):yZ q P S d ty t x lo hi I=none:=by
 have h1:∀lo,yC P S d ty t x lo hi=none:=by
  intro lo;unfold yC;cases hx:S.op x<;>rw[hx] at h<;>first | (cases h;done) | rfl
 have h2:yY P S d t x hi=none:=by
  unfold yY;cases P.underlying t with
  |none=>rfl
  |some td=>
   cases td<;>first | rfl | skip
   rename_i e;simp only;cases P.info? e with
   |none=>rfl
   |some ti=>
    simp only;cases hx:S.op x<;>rw[hx] at h<;>first | (cases h;done) | rfl
 unfold yZ;cases lo with
 |none=>simp only;cases q.fs<;>simp[h1,h2]
 |some lo=>exact h1 _
def zi8(q:Opts) :U7 α->Bool
 |none=>q.fs
 |some _=>G
def zdn(P:Program)(S:St C)(d:Nat)(ty t:TypeId)(A:AV C.D)(x:Operand)(lo hi:U7 Operand)(K:Out C->U7 ρ):U7 ρ:=match A with
 | .row id=>zed P (S.frz1 id) ty (.slice t x lo hi I) λA=>K (.go ((S.frz1 id).put d A))
 |_=>I
theorem zk2 {q:Opts}{d:Nat}{ty t:TypeId}{x:Operand}{K:Out C->U7 ρ}(hl:zi8 q lo=G) (hf:zgg (S.op x)=O) :
    zdn P S d ty t (S.op x) x lo hi K=(xB q Γ P d ty S (.slice t x lo hi I)).bind K:=by
 have he:yB P S ty (.slice t x lo hi I)=none:=by
  show Yp P S t (S.op x) lo hi=I;revert hf;unfold Yp;cases S.op x<;>intro hf<;>first | (cases hf;done) | skip
  all_goals (split<;>first | rfl | simp_all)
 have ho:yZ q P S d ty t x lo hi I=yC P S d ty t x lo hi:=by
  unfold yZ;cases lo with
  |none=>simp only;rw[show q.fs=G from hl];rfl
  |some lo=>rfl
 unfold xB;simp only;rw[he];simp only;rw[ho];unfold zdn yC;cases S.op x<;>first | rfl | skip
 simp only;rw[zbO,gh];rfl
def zdo(P:Program)(S:St C)(d:Nat)(t:TypeId)(x:Operand)(hi:U7 Operand)(K:Out C->U7 ρ):U7 ρ:=
 match P.underlying t with
 |some (.slice e)=>(match P.info? e with
  |some ti=>(match S.op x with
   | .row id=>(match S.heap id with
    |some (.row T s)=>chk (V ti.size (C.size T) && isNone (S.heap (nid d 0))) (match Zm S s.len hi with
     |some j=>(z7 s 0 j).bind λs'=>K (.go {env:=upd (S.sub id .und).env d (.row (nid d 0)),heap:=upd (S.sub id .und).heap (nid d 0) (E (.row T s'))})
     |none=>I)
    |_=>I)
   |_=>I)
  |none=>I)
 |_=>I
theorem zk3 {q:Opts}{d:Nat}{ty t:TypeId}{x:Operand}{K:Out C->U7 ρ}(hl:zi8 q lo=O) (hf:zgg (S.op x)=O) :
    zdo P S d t x hi K=(xB q Γ P d ty S (.slice t x lo hi I)).bind K:=by
 have he:yB P S ty (.slice t x lo hi I)=none:=by
  show Yp P S t (S.op x) lo hi=I;revert hf;unfold Yp;cases S.op x<;>intro hf<;>first | (cases hf;done) | skip
  all_goals (split<;>first | rfl | simp_all)
 have ho:yZ q P S d ty t x lo hi I=yY P S d t x hi:=by
  unfold yZ;cases lo with
  |none=>simp only;rw[show q.fs=O from hl];rfl
  |some lo=>cases hl
 unfold xB;simp only;rw[he];simp only;rw[ho];unfold zdo yY;cases P.underlying t with
 |none=>rfl
 |some td=>
  cases td<;>first | rfl | skip
  rename_i e;simp only;cases P.info? e with
  |none=>rfl
  |some ti=>
   simp only;cases S.op x<;>first | rfl | skip
   rename_i id;simp only;cases S.heap id with
   |none=>rfl
   |some en=>
    cases en<;>first | rfl | skip
    rename_i T s;simp only[zt];cases Zm S s.len hi with
    |none=>rfl
    |some j=>simp only[gh];rfl
def VF(P:Program)(S:St C)(t:TypeId)(x y:Operand)(K:Out C->U7 ρ):U7 ρ:=match P.info? t,S.op x with
 |some ti,.pr _ _ _ _=>go ti (S.frz (AV.rows (S.op y)))
 |_,_=>(yv P S t x y).bind K
where
 go (ti:TypeInfo) (S:St C):U7 ρ:=match S.op x with
  | .pr id T i off=>(match S.heap id with
   |some (.row T' s)=>chk (V T T' && (YQ (S.op y) && (V ti.size (zr (S.op y)).length && (qs (off+(zr (S.op y)).length) (C.size T') && qb 0 (zr (S.op y)).length))))
       ((za s i).bind λq=>(C.imp T' ((C.emb T' q).take off++zr (S.op y)++(C.emb T' q).drop (off+(zr (S.op y)).length))).bind λq'=>
         K (.go {S with heap:=upd S.heap id (E (.row T' (s.set i q')))}))
   |_=>I)
  |_=>I
theorem zm3{x y:Operand}{K:Out C->U7 ρ}:VF.go x y K ti S=(yv.go x y ti S).bind K:=by
 unfold VF.go yv.go;cases S.op x<;>first | rfl | skip
 rename_i id T i off;simp only;cases S.heap id with
 |none=>rfl
 |some e=>
  cases e with
  |cell cs=>rfl
  |row T' s=>simp only[zt,gh,jj]
  |obj q T b s=>rfl
  |orow T s g=>rfl
theorem zm4{t:TypeId}{x y:Operand}{K:Out C->U7 ρ}:VF P S t x y K=(yv P S t x y).bind K:=by
 unfold VF;split
 ·rename_i ti id T i off h1 h2;rw[zm3];unfold yv;rw[h1,h2]
 ·rfl
def zhA(P:Program)(S:St C)(d:Nat)(t:TypeId)(x y:Operand)(K:Out C->U7 ρ):U7 ρ:=
 match P.underlying t with
 |some (.slice e)=>(match P.info? e with
  |some ti=>(match ti.zero,S.op x with
   |some zv,.int _ i=>chk (zde x y && (V ti.size (C.size e) && (qb 0 (C.size e) && isNone (S.heap (nid d 0)))))
       ((C.imp e (zv.cells.toList.map ZY)).bind λq=>(XQ ti.bytes i q).bind λs=>K (.go {env:=upd S.env d (.row (nid d 0)),heap:=upd S.heap (nid d 0) (E (.row e s))}))
   |_,_=>I)
  |none=>I)
 |_=>I
theorem zov{d:Nat}{t:TypeId}{x y:Operand}{K:Out C->U7 ρ}:zhA P S d t x y K=(w6 P S d t x y).bind K:=by
 unfold zhA w6;cases P.underlying t with
 |none=>rfl
 |some td=>
  cases td<;>first | rfl | skip
  rename_i e;simp only;cases P.info? e with
  |none=>rfl
  |some ti=>
   simp only;cases ti.zero with
   |none=>rfl
   |some zv=>
    cases S.op x<;>first | rfl | (simp only[zt,gh,jj])
def zvM(q:Opts)(Γ:List (Spec C))(P:Program)(n:Nat):yM C:=λo S _ K=>match o.dst with
 |some d=>chk (qb d n) (match o.op with
  | .call ⟨.value c,args,_⟩=>(match S.op c with
   | .clo f caps=>chk (zdd caps) (zhz Γ S d f (Xh (args.toList.map S.op) caps) K)
   |_=>I)
  | .call ⟨.invoke x name,args,_⟩=>(match S.op x with
   | .ifc t A=>(match zef P t name with
    |some f=>zhz Γ S d f (A::args.toList.map S.op) K
    |none=>I)
   |_=>I)
  | .call ⟨.builtin .append,args,ts⟩=>(match args.toList,ts.toList with
   |[x,y],[t,t']=>chk (V t t') (zah P S d t x y K)
   |_,_=>I)
  | .makeSlice t x y=>zhA P S d t x y K
  | .slice t x lo hi I=>bif zgg (S.op x) then zed P S o.type (.slice t x lo hi I) λA=>K (.go (S.put d A)) else bif zi8 q lo then zdn P S d o.type t (S.op x) x lo hi K else zdo P S d t x hi K
  | .convert t t' x=>(match yB P S o.type (.convert t t' x) with
   |some A=>K (.go (S.put d A))
   |none=>I)
  |op=>bif eff op then(xB q Γ P d o.type S op).bind K else zed P S o.type op λA=>K (.go (S.put d A)))
 |none=>(match o.op with
  | .store t x y=>VF P S t x y K
  |_=>(VC q Γ P n o S).bind K)
theorem zxC{q:Opts}{d:Nat}{ty:TypeId}{op:Op}(h:eff op=O):xB q Γ P d ty S op=(yB P S ty op).map λA =>.go (S.put d A):=by
 unfold xB;split<;>first | (cases h;done) | rfl
theorem ztr{q:Opts}{n:Nat}{o:Oper}{K:Out C->U7 ρ}:zvM q Γ P n o S ρ K=(VC q Γ P n o S).bind K:=by
 let⟨dst,op,ty,ps,af,g⟩:=o;cases dst with
 |none=>cases op<;>first | rfl | exact zm4
 |some d=>
  show chk (qb d n) _=(chk (qb d n) (xB q Γ P d ty S op)).bind K;rw[zt];congr 1;simp only;split
  ·rename_i c args ts;unfold xB;simp only;cases S.op c<;>first | rfl | (simp only[zt];rw[zgf])
  ·rename_i x name args ts;unfold xB WM;simp only;cases S.op x<;>first | rfl | skip
   rename_i t A;simp only;cases zef P t name with
   |none=>rfl
   |some f=>exact zgf
  ·rename_i args ts;unfold xB;simp only;generalize args.toList=l;generalize ts.toList=m
   match l,m with
   |[],_=>rfl
   |[_],_=>rfl
   |[x,y],[]=>rfl
   |[x,y],[_]=>rfl
   |[x,y],[t,t']=>simp only[zt,zdm]
   |[x,y],_::_::_::_=>rfl
   |_::_::_::_,_=>rfl
  ·rename_i t x y;exact zov
  ·rename_i t x lo hi;cases hf:zgg (S.op x) with
   |false=>
    rw[UC];cases hl:zi8 q lo with
    |false=>rw[UC];exact zk3 hl hf
    |true=>rw[D1];exact zk2 hl hf
   |true=>
    rw[D1,zbO];unfold xB;simp only;rw[zi3 hf];cases yB P S ty (.slice t x lo hi I)<;>rfl
  ·rename_i t t' x;unfold xB;grind
  ·cases he:eff op with
   |true=>rfl
   |false=>
    rw[UC,zbO,zxC he];cases yB P S ty op<;>rfl
def zhB(P:Program)(S:St C)(d:Nat)(t:TypeId)(x y:Operand)(K:Out C->U7 ρ):U7 ρ:=match x with
 | .tmp tx=>(match S.env tx with
  | .nx id T i .whole=>Wh S tx id T i (nid d 1) λS1=>zah P S1 d t x y K
  |_=>I)
 |_=>I
theorem zow{d:Nat}{t:TypeId}{x y:Operand}{K:Out C->U7 ρ}:zhB P S d t x y K=(Wi P S d t x y).bind K:=by
 unfold zhB Wi;cases x<;>first | rfl | skip
 rename_i tx;simp only;cases S.env tx<;>first | rfl | skip
 rename_i id T i nx;cases nx<;>first | rfl | skip
 simp only[zoZ];congr 1;funext S1;exact zdm
def zox(P:Program)(S:St C)(K:Out C->U7 ρ):KN->U7 ρ
 | .st t x y=>XF P S t x y K
 | .apn d t t' x y=>chk (V t t') (zhB P S d t x y K)
 | .apo d t t' x y=>chk (V t t') (WV P S d t x y K)
 | .bl d t i m y=>chk (V i 0 && V m 1) (XG P S d t y K)
 | .mk d t x y=>wJ P S d t x y K
 | .cy d ts x y=>WW P S d ts x y K
theorem zts{k:KN}{K:Out C->U7 ρ}:zox P S K k=(WX P S k).bind K:=by
 cases k<;>simp only[zox,WX,zt]
 ·exact zll
 ·rw[zow]
 ·rw[zo0]
 ·rw[zls]
 ·exact zne
 ·exact zo2
def Y6(q:Opts)(Γ:List (Spec C))(P:Program)(n:Nat):yM C:=λo S _ K=>match xc P S o.dst o.op with
 |some k=>chk (zvL n o.dst) (zox P S K k)
 |none=>zvM q Γ P n o S _ K
theorem Vk{q:Opts}{n:Nat}{o:Oper}{K:Out C->U7 ρ}:Y6 q Γ P n o S ρ K=(stp q Γ P n o S).bind K:=by
 unfold Y6 stp;cases xc P S o.dst o.op with
 |some k=>simp only[zt,zts]
 |none=>exact ztr
theorem zk4{q:Opts}{n:Nat}{o:Oper}{K:Out C->U7 ρ}:Y6 q Γ P n o S ρ K=(Y6 q Γ P n o S _ E).bind K:=by
 rw[Vk,Vk,gh];rfl
end
end
section
variable [Dfr]
section
variable {κ:Kp}{C:Cod}{S T:St C}{ν:Val}{vs:Nat->List Value}{ids:List Nat}{L:List (Nat×Value)}{b:Nat->Value}{Z:FS}{PV:List Priv}{P:Program}{ρ:Type}
variable {t t' ty:TypeId}{x y z:Operand}{d:Nat}{ps:String}{af:Array Edge}{g:U7 (Nat×Bool)}{A:AV C.D}{n:Nat}{w0:Start}{σ0:FS}{o:Oper}{D:Nat->Prop}
def zdp(P:Program)(S:St C)(t:TypeId)(m:Nat)(parts:List (Nat×Operand)):U7 (AV C.D):=match P.underlying t with
 |some (.slice e)=>(match P.info? e with
  |some ti=>(match ti.zero with
   |some zv=>chk (V ti.size (C.size e) && (qb 0 (C.size e) && (qs (m * C.size e) 16777216 && (V parts.length m && zec parts 0))))
       ((Yw S e (parts.map (·.2))).bind λxs=>E (.sl e ⟨xs,G⟩ O))
   |none=>I)
  |none=>I)
 |_=>I
theorem zrW(h:AbsL κ S ν vs ids L b Z PV)(hn:qb d n=G){parts:Array (Nat×Operand)}(hX:zdp P S t m parts.toList=E A):OpA κ P n w0 σ0 ⟨E d,.buildSlice t m parts,ty,ps,af,g⟩ (E (.go (S.put d A))) L b Z PV:=by
 unfold zdp at hX;split at hX
 ·rename_i e hu;split at hX
  ·rename_i ti hi;split at hX
   ·rename_i zv hz;let⟨hc,hX2⟩:=zb hX;simp only[gf] at hc;let⟨c1,c2,c3,c4,c5⟩:=hc;let⟨xs,hxs,hX3⟩:=gd hX2;cases hX3;let⟨r1,r2,r3⟩:=zdf h hxs;have hlen:((parts.toList.map (·.2)).map (opv L b)).length=m:=by
     have:=ge c4;simpa using this
    intro out ho a w hinv hf K Q hK hP;cases ho;refine vE (ρ:=Unit) (p:=E ()) (H:=λp' L' Z' PV'=>∃v,L'=(d,v)::L/\Z'=Z/\PV'=Priv.row (zx C e).o e v ⟨xs,G⟩::PV) (T:=(zx C e).o) (vs:=(parts.toList.map (·.2)).map (opv L b)) (xs:=xs) [] PV hn hu hi hz (ge c1) c3 c2 (zbL c5) hlen (λhh _=>⟨zc.none,zc.none_le _,Ty.rels_o.2 r1,by rw[D4];exact r2,r3⟩) (λv=>⟨v,rfl,rfl,rfl⟩) () rfl a w hinv hf K Q ?_;rintro p' L' Z' PV' a' w' hp' hi' hf' ⟨v,rfl,rfl,rfl⟩;let⟨h1,hh,hsub,hle,hi2⟩:=hi'.freeze (m:=0) rfl;have hh:zn (zx C e).o e v ⟨xs,G⟩ Z' h1:=hh;refine hK _ rfl _ _ _ _ _ hi2 hf' ⟨ν,vs,ids,(h.le hle).put (A :=.sl e ⟨xs,G⟩ O) (Rv.of_vrel (hh.fast hle λb o v e=>Xx b o v e)).vr trivial⟩
   ·cases hX
  ·cases hX
 ·cases hX
def rdQ:Op->Bool
 | .alloc _=>O
 | .box _ _=>O
 | .makeSlice _ _ _=>O
 | .call ⟨.value _,_,_⟩=>O
 | .call ⟨.builtin .append,_,_⟩=>O
 | .panic _=>O
 |_=>G
def evQ(P:Program)(S:St C)(ty:TypeId):Op->U7 (AV C.D)
 | .buildSlice t m parts=>zdp P S t m parts.toList
 |op=>yB P S ty op
def ztt(P:Program)(S:St C)(ty:TypeId)(op:Op)(K:AV C.D->U7 ρ):U7 ρ:=match op with
 | .buildSlice t m parts=>(match P.underlying t with
  |some (.slice e)=>(match P.info? e with
   |some ti=>(match ti.zero with
    |some zv=>chk (V ti.size (C.size e) && (qb 0 (C.size e) && (qs (m * C.size e) 16777216 && (V parts.toList.length m && zec parts.toList 0))))
        ((Yw S e (parts.toList.map (·.2))).bind λxs=>K (.sl e ⟨xs,G⟩ O))
    |none=>I)
   |none=>I)
  |_=>I)
 |op=>zed P S ty op K
theorem zxD{op:Op}{K:AV C.D->U7 ρ}:ztt P S ty op K=(evQ P S ty op).bind K:=by
 unfold ztt evQ;split
 ·unfold zdp;cases P.underlying _ with
  |none=>rfl
  |some td=>
   cases td<;>first | rfl | skip
   simp only;cases P.info? _ with
   |none=>rfl
   |some ti=>
    simp only;cases ti.zero with
    |none=>rfl
    |some zv=>simp only[zt,gh,jj]
 ·exact zbO
theorem zyZ{q:Opts}{Γ:List (Spec C)}(h:AbsL κ S ν vs ids L b Z PV)(hn:qb d n=G){op:Op}(hr:rdQ op=G)(he:evQ P S ty op=E A):OpA κ P n w0 σ0 ⟨E d,op,ty,ps,af,g⟩ (E (.go (S.put d A))) L b Z PV:=by
 unfold evQ at he;split at he
 ·exact zrW h hn he
 ·have:=znr (P:=P) (n:=n) (w0:=w0) (σ0:=σ0) (ps:=ps) (af:=af) (g:=g) h (op:=op) hn (ty:=ty);rw[he] at this;exact this
theorem zgh:∀{l:List Operand},(∀x∈l,S.op x=T.op x)->Yw S e l=Yw T e l
 |[],_=>rfl
 |x::r,h=>by
  unfold Yw;rw[h x (by simp),zgh λy hy=>h y (by simp[hy])]
end
end
section
variable [Dfr]
section
variable {C:Cod}{S T:St C}{P:Program}
def AV.hid{D:Nat->Type}:AV D->List Nat
 | .row id=>[id]
 | .pc id _=>[id]
 | .pr id _ _ _=>[id]
 | .nx id _ _ _=>[id]
 |_=>[]
def zfu(S:St C):Op->List Nat
 | .load _ x=>(S.op x).hid
 | .indexAddr _ x _=>(S.op x).hid
 | .binOp _ _ x _ _=>match S.op x with
  | .row id=>[id]
  | .nx id _ _ _=>[id]
  |_=>[]
 | .call ⟨.builtin .len,args,_⟩=>match args.toList with
  |[x]=>(S.op x).hid
  |_=>[]
 | .slice _ x _ _ _=>match S.op x with
  | .nx id _ _ _=>[id]
  |_=>[]
 |_=>[]
theorem Wc{U:Nat}{i:Int}{K:(U:Nat)->Sl (C.D U)->U7 α}(h:S.heap id=T.heap id):zJ S id U i K=zJ T id U i K:=by
 unfold zJ;rw[h]
theorem zrX{t:TypeId}{A:AV C.D}(h:∀id∈A.hid,S.heap id=T.heap id):x8 P S t A=x8 P T t A:=by
 cases A<;>first | rfl | (simp only[x8];rw[h _ (by simp[AV.hid])]) | skip
 rename_i id U i x;cases x<;>first | rfl | (simp only[x8];rw[Wc (h _ (by simp[AV.hid]))])
theorem zoy{t:TypeId}{A B:AV C.D}(h:∀id∈A.hid,S.heap id=T.heap id):XU P S t A B=XU P T t A B:=by
 unfold XU;split
 ·split
  ·cases A<;>first | rfl | (cases B<;>first | rfl | (simp only;rw[h _ (by simp[AV.hid])])) | skip
   rename_i id U i x;cases x<;>cases B<;>first | rfl | (simp only;rw[Wc (h _ (by simp[AV.hid]))])
  ·rfl
 ·rfl
 ·rfl
theorem ztu{t:TypeId}{A:AV C.D}(h:∀id∈A.hid,S.heap id=T.heap id):w5 P S t A=w5 P T t A:=by
 unfold w5;cases P.underlying t with
 |none=>rfl
 |some td=>
  cases A<;>first | rfl | (cases td<;>first | rfl | (simp only;rw[h _ (by simp[AV.hid])])) | skip
  rename_i id U i x;cases x<;>cases td<;>first | rfl | (simp only;rw[Wc (h _ (by simp[AV.hid]))])
theorem zbZ{dflt:Int}{o:U7 Operand}(h:∀x,o=E x->S.op x=T.op x):Zm S dflt o=Zm T dflt o:=by
 cases o with
 |none=>rfl
 |some x=>simp only[Zm];rw[h x rfl]
theorem zoz{t:TypeId}{A:AV C.D}(h1:∀x,lo=E x->S.op x=T.op x)(h2:∀x,hi=E x->S.op x=T.op x)(h3:∀id U i x,A = .nx id U i x->S.heap id=T.heap id):Yp P S t A lo hi=Yp P T t A lo hi:=by
 unfold Yp;have e1:=λdflt=>zbZ (S:=S) (T:=T) (dflt:=dflt) h1
 have e2:=λdflt=>zbZ (S:=S) (T:=T) (dflt:=dflt) h2
 simp only[e1,e2];split
 ·rfl
 ·rfl
 ·split
  ·exact Wc (h3 _ _ _ _ rfl)
  ·rfl
 ·rfl
theorem zrY{l:List Operand}(h:∀x∈l,S.op x=T.op x):l.map S.op=l.map T.op:=D3 h
theorem zoA{t:TypeId}{parts:List (Nat×Operand)}(h:∀q∈parts,S.op q.2=T.op q.2):WH P S t parts=WH P T t parts:=by
 unfold WH;have:parts.map (λq=>(q.1,S.op q.2))=parts.map λq=>(q.1,T.op q.2):=D3 λq hq=>by rw[h q hq]
 rw[this]
theorem zns{ty:TypeId}{op:Op}(hop:∀x∈op.operands.toList,S.op x=T.op x)(hh:∀id∈zfu S op,S.heap id=T.heap id):yB P S ty op=yB P T ty op:=by
 unfold yB;cases op
 case move x=>simp only;rw[hop x (by simp[W])]
 case assign x=>simp only;rw[hop x (by simp[W])]
 case pick c a e=>simp only;rw[hop c (by simp[W]),hop a (by simp[W]),hop e (by simp[W])]
 case nilCheck x=>simp only;rw[hop x (by simp[W])]
 case binOp bo t x y t'=>
  simp only;unfold x9;rw[<- hop x (by simp[W]),<- hop y (by simp[W])];cases Yb y with
  |true=>rfl
  |false=>
  simp only[UC];unfold wo;simp only[zfu] at hh;split
  ·grind
  ·rename_i id U i e;rw[e] at hh;split
   ·exact Wc (hh id (by simp))
   ·rfl
  ·rfl
 case unOp u t x=>cases u<;>first | rfl | (simp only;rw[hop x (by simp[W])])
 case convert t t' x=>simp only;rw[hop x (by simp[W])]
 case makeFunc f fs caps=>
  cases f<;>first | rfl | skip
  simp only;have hfs:=zrY (l:=fs.toList) λx hx=>hop x (by simp[W];grind)
  unfold zbb;generalize fs.toList=fl at hfs;rw[zrY (l:=caps.toList) λx hx=>hop x (by simp[W];grind)];grind
 case makeInterface t x=>simp only;rw[hop x (by simp[W])]
 case extract x i=>simp only;rw[hop x (by simp[W])]
 case typeAssert x xt t ok=>simp only;rw[hop x (by simp[W])]
 case build t parts=>exact zoA λq hq=>hop q.2 (by simp[W];grind)
 case field t x m=>simp only;rw[hop x (by simp[W])]
 case fieldAddr t x m=>simp only;rw[hop x (by simp[W])]
 case indexAddr t x y=>
  simp only;rw[<- hop x (by simp[W]),<- hop y (by simp[W])];exact zoy hh
 case load t x=>
  simp only;rw[<- hop x (by simp[W])];exact zrX hh
 case index t x y=>simp only;rw[hop x (by simp[W]),hop y (by simp[W])]
 case slice t x lo hi mx=>
  cases mx with
  |some m=>rfl
  |none=>
   simp only;rw[<- hop x (by simp[W])];simp only[zfu] at hh;exact zoz (λy e=>hop y (by subst e;simp[W])) (λy e=>hop y (by subst e;simp[W])) λid U i x e=>by
    grind
 case call c=>
  let⟨cal,args,ts⟩:=c;cases cal
  case value c=>rfl
  case invoke r m=>rfl
  case builtin bi=>
   have ha:∀x∈args.toList,S.op x=T.op x:=λx hx=>hop x (by simp[W,qk];simpa using hx)
   cases bi<;>first | rfl | skip
   case len=>
    simp only;split
    ·rename_i x t e1 e2;rw[e1] at ha;rw[<- ha x (by simp)];refine ztu λid hid=>hh id ?_
     simp only[zfu,e1];exact hid
    ·rfl
   all_goals grind
 all_goals rfl
structure EqX(D:Nat->Prop)(S T:St C):Prop where
 heap:S.heap=T.heap
 env:∀t,¬ D t->S.env t=T.env t
variable {D:Nat->Prop}
def zP(D:Nat->Prop):U7 (Out C)->U7 (Out C)->Prop
 |some (.go S),E (.go T)=>EqX D S T
 |some (.pan u S),E (.pan v T)=>u=v/\EqX D S T
 |none,I=>True
 |_,_=>False
omit [Dfr] in
theorem zP.chk{c:Bool}{x y:U7 (Out C)}(h:zP D x y):zP D (chk c x) (chk c y):=by
 cases c with
 |true=>exact h
 |false=>trivial
omit [Dfr] in
theorem zP.bind{x:U7 α}{f g:α->U7 (Out C)}(h:∀a,zP D (f a) (g a)):zP D (x.bind f) (x.bind g):=by
 cases x with
 |none=>trivial
 |some a=>exact h a
omit [Dfr] in
theorem EqX.put(h:EqX D S T)(d:Nat)(A:AV C.D){hp:Nat->U7 (Ent C)}:EqX D {env:=upd S.env d A,heap:=hp} {env:=upd T.env d A,heap:=hp}:=⟨rfl,λt ht=>by
 show upd S.env d A t=upd T.env d A t;unfold upd;cases V t d with
 |true=>rfl
 |false=>exact h.env t ht⟩
omit [Dfr] in
theorem EqX.sub(h:EqX D S T)(id:Nat)(R:AV C.D):EqX D (S.sub id R) (T.sub id R):=by
 refine⟨?_,λt ht=>?_⟩
 ·unfold St.sub;simp only;rw[h.heap]
 ·show AV.sub id R (S.env t)=AV.sub id R (T.env t);rw[h.env t ht]
omit [Dfr] in
theorem EqX.frz1(h:EqX D S T)(id:Nat):EqX D (S.frz1 id) (T.frz1 id):=by
 unfold St.frz1;rw[h.heap];split
 ·exact h.sub _ _
 ·rename_i T0 s g _;cases g.rd with
  |true=>exact h.sub _ _
  |false=>exact h
 ·exact h
omit [Dfr] in
theorem EqX.frz:∀(l:List Nat) {S T:St C},EqX D S T->EqX D (S.frz l) (T.frz l)
 |[],_,_,h=>h
 |id::r,_,_,h=>EqX.frz r (h.frz1 id)
omit [Dfr] in
theorem EqX.op(h:EqX D S T){x:Operand}(hx:∀t,x = .tmp t->¬ D t):S.op x=T.op x:=by
 cases x with
 |tmp t=>exact h.env t (hx t rfl)
 |const v=>rfl
 |global g=>rfl
 |func f=>rfl
def vw(D:Nat->Prop)(l:List Operand):Prop:=∀t,Operand.tmp t∈l->¬ D t
omit [Dfr] in
theorem EqX.ops(h:EqX D S T){l:List Operand}(hl:vw D l):∀x∈l,S.op x=T.op x:=λx hx=>h.op λt e=>hl t (e ▸ hx)
theorem znt(h:EqX D S T){d:Nat}{cs:List (AV C.D)}:zP D (zbI S d cs) (zbI T d cs):=by
 unfold zbI;rw[h.heap];exact .chk (h.put d _)
theorem zrZ(h:EqX D S T){d:Nat}{t:TypeId}:zP D (Xf P S d t) (Xf P T d t):=by
 unfold Xf;split
 ·split
  ·split
   ·unfold zrD;rw[h.heap];exact .chk (h.put d _)
   ·exact znt h
  ·trivial
 ·trivial
theorem ztv(h:EqX D S T){d:Nat}{t:TypeId}{x y:Operand}(hx:S.op x=T.op x):zP D (w6 P S d t x y) (w6 P T d t x y):=by
 unfold w6;rw[hx,h.heap];split
 ·split
  ·split
   ·exact .chk (.bind λq =>.bind λs=>h.put d _)
   ·trivial
  ·trivial
 ·trivial
theorem zix:∀{l:List Operand},(∀x∈l,S.op x=T.op x)->Yw S e l=Yw T e l
 |[],_=>rfl
 |x::r,h=>by
  unfold Yw;rw[h x (by simp),zix λy hy=>h y (D5 _ hy)]
theorem zoB(h:EqX D S T){d:Nat}{t:TypeId}{parts:List (Nat×Operand)}(hp:vw D (parts.map (·.2))):zP D (Y5 P S d t m parts) (Y5 P T d t m parts):=by
 unfold Y5;have e:parts.map (λq=>S.op q.2)=parts.map λq=>T.op q.2:=D3 λq hq=>h.ops hp _ (D6.2 ⟨q,hq,rfl⟩)
 rw[e];have h':=EqX.frz (AV.rowss (parts.map λq=>T.op q.2)) h;generalize S.frz _=S' at h' |-
 generalize T.frz _=T' at h' |-
 unfold Y5.go;have e2:=λe=>zix (e:=e) (h'.ops hp)
 simp only[h'.heap,e2];split
 ·split
  ·split
   ·exact .chk (.bind λxs=>h'.put d _)
   ·trivial
  ·trivial
 ·trivial
theorem EqX.heap'(h:EqX D S T){hp:Nat->U7 (Ent C)}:EqX D {S with heap:=hp} {T with heap:=hp}:=⟨rfl,h.env⟩
theorem zr0(h:EqX D S T){t:TypeId}{x y:Operand}(hx:∀t,x = .tmp t->¬ D t)(hy:∀t,y = .tmp t->¬ D t):zP D (yv P S t x y) (yv P T t x y):=by
 unfold yv;have ex:=h.op hx;have ey:=h.op hy;rw[ex,ey,h.heap];split
 ·split
  ·exact .chk h.heap'
  ·trivial
 ·rename_i ti _ _ _ _ _ _;have h':=EqX.frz (AV.rows (T.op y)) h;have ex':=h'.op hx;have ey':=h'.op hy;generalize S.frz _=S' at h' ex' ey' |-
  generalize T.frz _=T' at h' ex' ey' |-
  unfold yv.go;rw[ex',ey',h'.heap];split
  ·split
   ·exact .chk (.bind λq =>.bind λq'=>h'.heap')
   ·trivial
  ·trivial
 ·trivial
theorem zxE(h:S.heap=T.heap){A:AV C.D}:zbM S e A=zbM T e A:=by
 unfold zbM;rw[h]
theorem EqX.subRow(h:EqX D S T)(d id T':Nat)(s':Sl (C.D T')):EqX D {env:=upd (S.sub id .und).env d (.row (nid d 0)),heap:=upd (S.sub id .und).heap (nid d 0) (E (.row T' s'))} {env:=upd (T.sub id .und).env d (.row (nid d 0)),heap:=upd (T.sub id .und).heap (nid d 0) (E (.row T' s'))}:=by
 have:=h.sub id .und;exact⟨by show upd _ _ _=upd _ _ _;rw[this.heap],(this.put d _ (hp:=T.heap)).env⟩
theorem zgi(h:EqX D S T){d:Nat}{t:TypeId}{x y:Operand}(hx:S.op x=T.op x)(hy:S.op y=T.op y):zP D (yX P S d t x y) (yX P T d t x y):=by
 unfold yX;have e:=λe A=>zxE (e:=e) (A:=A) h.heap
 simp only[hx,hy,h.heap,e];split
 ·split
  ·split
   ·refine .chk ?_;split
    ·split
     ·exact .chk (.bind λts =>.bind λs'=>EqX.subRow h _ _ _ _)
     ·trivial
    ·exact .bind λts =>.bind λs'=>h.put d _
    ·trivial
   ·trivial
  ·trivial
 ·trivial
theorem zoC(h:EqX D S T){d:Nat}{t:TypeId}{x:Operand}(hx:S.op x=T.op x)(h1:∀y,hi=E y->S.op y=T.op y):zP D (yY P S d t x hi) (yY P T d t x hi):=by
 unfold yY;have e1:=λdflt=>zbZ (S:=S) (T:=T) (dflt:=dflt) h1
 have hs:=λid T' s'=>EqX.subRow h d id T' s'
 rw[hx];simp only[h.heap,e1];split
 ·split
  ·split
   ·split
    ·refine .chk ?_;split
     ·exact .bind λs'=>hs _ _ _
     ·trivial
    ·trivial
   ·trivial
  ·trivial
 ·trivial
end
end
section
variable [Dfr]
section
variable {C:Cod}{S T:St C}{P:Program}{D:Nat->Prop}
omit [Dfr] in
theorem EqX.owk(h:EqX D S T)(id:Nat)(e:Ent C):EqX D (S.owk id e) (T.owk id e):=by
 refine⟨?_,λt ht=>?_⟩
 ·unfold St.owk;simp only;rw[h.heap]
 ·show AV.knx _ (S.env t)=AV.knx _ (T.env t);rw[h.env t ht]
theorem EqX.newE(h:EqX D S T)(d i:Nat)(A:AV C.D)(e:U7 (Ent C)):EqX D {env:=upd S.env d A,heap:=upd S.heap i e} {env:=upd T.env d A,heap:=upd T.heap i e}:=by
 rw[h.heap];exact h.put d A
theorem znu(h:EqX D S T){s:Sl (C.D T0)}{g:Own}{i:Int}{cells:List (AV C.D)}:zP D (wB S id T0 s g i off cells E) (wB T id T0 s g i off cells E):=by
 unfold wB;simp only[vg];split
 ·rw[h.heap];split
  ·exact .chk (.bind λq =>.bind λg' =>.bind λq'=>(h.sub _ _).owk _ _)
  ·trivial
 ·refine .bind λq=>?_
  split
  ·exact .bind λg' =>.bind λq'=>h.owk _ _
  ·trivial
 ·trivial
theorem zxF{y:Operand}{N:Nat}(hy:S.op y=T.op y):VJ S ti y off N=VJ T ti y off N:=by unfold VJ;rw[hy]
theorem zoD(h:EqX D S T){t:TypeId}{x y:Operand}(hx:S.op x=T.op x)(hy:S.op y=T.op y):zP D (xR P S t x y) (xR P T t x y):=by
 have e1:=λti off N=>zxF (S:=S) (T:=T) (ti:=ti) (y:=y) (off:=off) (N:=N) hy
 unfold xR XF;rw[hx,hy,h.heap];simp only[e1];split
 ·split
  ·refine .chk ?_;cases Xb _ _ _ with
   |true=>exact znu h
   |false=>exact .bind λq =>.bind λq'=>⟨rfl,h.env⟩
  ·exact .chk (znu h)
  ·trivial
 ·split
  ·refine .chk (.bind λq=>?_);split
   ·exact .chk (.bind λy0 =>.bind λy1 =>.bind λq'=>⟨rfl,h.env⟩)
   ·trivial
  ·trivial
 ·trivial
theorem ztw(h:EqX D S T){d:Nat}{x y:Operand}(hx:S.op x=T.op x)(hy:S.op y=T.op y):zP D (Wl P S d ts x y) (Wl P T d ts x y):=by
 unfold Wl WW;rw[hx,hy,h.heap];split
 ·split
  ·split
   ·split
    ·refine .chk (.bind λq =>.bind λq2=>?_);split
     ·exact .chk (.bind λxs =>.bind λq'=>⟨rfl,(h.put d _ (hp:=λ_=>I)).env⟩)
     ·trivial
    ·trivial
   ·trivial
  ·trivial
 ·trivial
theorem zxG(h:EqX D S T){tx:Nat}{i:Int}{gid:Nat}{K K':St C->U7 (Out C)}(hK:∀S1 T1,EqX D S1 T1->(∀z,(∀t,z = .tmp t->t=tx\/¬ D t)->S1.op z=T1.op z)->zP D (K S1) (K' T1)):zP D (Wh S tx id T0 i gid K) (Wh T tx id T0 i gid K'):=by
 unfold Wh;rw[h.heap];split
 ·refine .chk (.bind λq=>?_);split
  ·refine hK _ _ (h.put tx _) λz hz=>?_
   cases z with
   |tmp t=>
    show upd S.env tx _ t=upd T.env tx _ t;unfold upd;cases e:V t tx with
    |true=>rfl
    |false=>
     simp only[UC];rcases hz t rfl with z | z
     ·subst z;simp at e
     ·exact h.env t z
   |const v=>rfl
   |global g=>rfl
   |func f=>rfl
  ·trivial
 ·trivial
theorem ztx(h:EqX D S T){d:Nat}{t:TypeId}{x y:Operand}(hx:∀t,x = .tmp t->¬ D t)(hy:∀t,y = .tmp t->¬ D t):zP D (Wi P S d t x y) (Wi P T d t x y):=by
 unfold Wi;cases x with
 |tmp tx=>
  simp only;rw[h.env tx (hx tx rfl)];split
  ·exact zxG h λS1 T1 h1 hz=>zgi h1 (hz _ λt e =>.inr (hx t e)) (hz _ λt e =>.inr (hy t e))
  ·trivial
 |const v=>trivial
 |global g=>trivial
 |func f=>trivial
theorem zty(h:EqX D S T){d:Nat}{t:TypeId}{x y:Operand}(hx:S.op x=T.op x)(hy:S.op y=T.op y):zP D (Wk P S d t x y) (Wk P T d t x y):=by
 have hs:=λid id2 (e:U7 (Ent C))=>((h.sub id .und).sub id2 .und).newE d (nid d 0) (.row (nid d 0)) e
 have hs2:=λid2 (e:U7 (Ent C))=>(h.sub id2 .und).newE d (nid d 0) (.row (nid d 0)) e
 unfold Wk WV;rw[hx,hy];rw[show isNone (S.heap (nid d 0))=isNone (T.heap (nid d 0)) by rw[h.heap]];split
 ·split
  ·split
   ·refine .chk ?_;split
    ·rw[h.heap];split
     ·split
      ·split
       ·exact .chk (.bind λts =>.bind λs'=>hs _ _ _)
       ·trivial
      ·exact .bind λts =>.bind λs'=>hs2 _ _
      ·trivial
     ·trivial
    ·trivial
   ·trivial
  ·trivial
 ·trivial
theorem zoE(h:EqX D S T){d:Nat}{t:TypeId}{y:Operand}(hy:S.op y=T.op y):zP D (xT P S d t y) (xT P T d t y):=by
 have hs2:=λid2 (e:U7 (Ent C))=>(h.sub id2 .und).newE d (nid d 0) (.row (nid d 0)) e
 unfold xT XG;rw[hy];rw[show isNone (S.heap (nid d 0))=isNone (T.heap (nid d 0)) by rw[h.heap]];split
 ·split
  ·split
   ·refine .chk ?_;split
    ·rw[show∀i,S.heap i=T.heap i from λi=>by rw[h.heap]];split
     ·exact .bind λq=>hs2 _ _
     ·trivial
    ·trivial
   ·trivial
  ·trivial
 ·trivial
theorem zr1(h:EqX D S T){d:Nat}{t:TypeId}{x y:Operand}(hx:S.op x=T.op x):zP D (XY P S d t x y) (XY P T d t x y):=by
 unfold XY wJ;rw[hx,h.heap];split
 ·split
  ·split
   ·refine .chk ?_;split
    ·refine .bind λq=>?_
     split
     ·exact .chk (.bind λs=>h.put d _)
     ·trivial
    ·trivial
   ·trivial
  ·trivial
 ·trivial
theorem zxH(h:S.heap=T.heap){x y:Operand}(hx:S.op x=T.op x)(hy:S.op y=T.op y):zfF S x y=zfF T x y:=by unfold zfF;rw[h,hx,hy]
theorem zxI{x:Operand}(hx:S.op x=T.op x):zfE S x=zfE T x:=by unfold zfE;rw[hx]
theorem zy0(h:S.heap=T.heap){x:Operand}(hx:S.op x=T.op x):isO S x=isO T x:=by unfold isO;rw[h,hx]
theorem zxJ(h:EqX D S T){op:Op}(hf:vw D op.operands.toList):xc P S dst op=xc P T dst op/\∀k,xc P T dst op=E k->zP D (WX P S k) (WX P T k):=by
 have hop:=h.ops hf;unfold xc;split
 ·rename_i t x y;have hx:=hop x (by simp[W]);have hy:=hop y (by simp[W]);rw[zxH h.heap hx hy];refine⟨rfl,λk hk=>?_⟩;cases hc:zfF T x y with
  |false=>grind
  |true=>rw[hc] at hk;cases hk;exact zoD h hx hy
 ·rename_i d args ts;split
  ·rename_i x y t t' e1 e2;have mx:x∈(W (.call ⟨.builtin .append,args,ts⟩)).toList:=by simp[W,qk];rw[<- qA,e1];simp
   have my:y∈(W (.call ⟨.builtin .append,args,ts⟩)).toList:=by simp[W,qk];rw[<- qA,e1];simp
   have hx:=hop x mx;have hy:=hop y my;rw[zxI hx,zy0 h.heap hy];refine⟨rfl,λk hk=>?_⟩;cases hc:zfE T x with
   |true=>
    rw[hc] at hk;cases hk;exact .chk (ztx h (λt e=>hf t (e ▸ mx)) (λt e=>hf t (e ▸ my)))
   |false=>
    rw[hc,UC] at hk;cases hc2:isO T y with
    |true=>rw[hc2] at hk;cases hk;exact .chk (zty h hx hy)
    |false=>grind
  grind
 ·rename_i d t m parts;split
  ·rename_i i y e1;have hy:=hop y (by simp[W];exact⟨i,by rw[<- qA,e1];simp⟩);rw[hy];refine⟨rfl,λk hk=>?_⟩;cases hc:(C.own (YK P t) && zdG (zr (T.op y)) (C.nst (YK P t))) with
   |true=>rw[hc] at hk;cases hk;exact .chk (zoE h hy)
   |false=>grind
  grind
 ·rename_i d t x y;refine⟨rfl,λk hk=>?_⟩;cases hc:C.own (YK P t) with
  |true=>rw[hc] at hk;cases hk;exact zr1 h (hop x (by simp[W]))
  |false=>rw[hc] at hk;cases hk
 ·rename_i d args ts;refine⟨rfl,λk hk=>?_⟩;split at hk
  ·rename_i x y e1;cases hk;exact ztw h (hop x (by simp[W,qk];rw[<- qA,e1];simp)) (hop y (by simp[W,qk];rw[<- qA,e1];simp))
  grind
 grind
end
end
section
variable [Dfr]
section
variable {C:Cod}{S T:St C}{P:Program}{D:Nat->Prop}
def vx(D:Nat->Prop)(ts:List (Nat×Sh)):Prop:=∀q∈ts,¬ D q.1
theorem zvN(h:EqX D S T):∀{ts:List (Nat×Sh)},vx D ts->fzT S ts=fzT T ts
 |[],_=>rfl
 |(t,s)::ts,hf=>by
  unfold fzT;rw[h.env t (hf (t,s) (by simp)),zvN h λq hq=>hf q (D5 _ hq)]
theorem zxK{t:Nat}{p:Nat}(h:EqX D S T)(ht:¬ D t):EqX D (nilA1 es t s p S) (nilA1 es t s p T):=by
 unfold nilA1;rw[h.env t ht,h.heap];split
 ·split
  ·cases isNone (T.heap _) with
   |true=>exact h.put t _
   |false=>exact h
  ·exact h
 ·exact h
theorem zr2{t:Nat}(ht:¬ D t):∀(l:List Sh) (p:Nat) {S T:St C},EqX D S T->EqX D (nilA es t l p S) (nilA es t l p T)
 |[],_,S,T,h=>h
 |s::l,p,S,T,h=>zr2 ht l _ (zxK h ht)
theorem zbg:∀(ts:List (Nat×Sh)) {S T:St C},EqX D S T->vx D ts->EqX D (nilT es ts S) (nilT es ts T)
 |[],S,T,h,_=>h
 |(t,s)::ts,S,T,h,hf=>by
  unfold nilT;rw[h.env t (hf (t,s) (by simp)),h.heap];have hf':vx D ts:=λq hq=>hf q (D5 _ hq)
  split
  ·split
   ·cases isNone (T.heap _) with
    |true=>exact zbg ts (h.put t _) hf'
    |false=>exact zbg ts h hf'
   ·exact zbg ts h hf'
  ·exact zbg ts (zr2 (hf _ (qE ..)) _ 0 h) hf'
  ·exact zbg ts h hf'
theorem zfv(h:S.heap=T.heap) :vy S bl=vy T bl:=by
 funext k;unfold vy;rw[h]
theorem znv(h:EqX D S T):∀{ts:List (Nat×Sh)}{bl:Bl},vx D ts->zgu S ts bl=zgu T ts bl
 |[],bl,_=>rfl
 |(t,s)::ts,bl,hf=>by
  unfold zgu;rw[h.env t (hf (t,s) (by simp)),znv h λq hq=>hf q (D5 _ hq)]
theorem znw(h:S.heap=T.heap):∀{es:List ESh}{k:Nat}{bl:Bl},zgv S es k bl=zgv T es k bl
 |[],k,bl=>rfl
 |e::es,k,bl=>by
  unfold zgv;rw[zfv h,znw h]
theorem zai(h:EqX D S T){g:Sig}(hf:vx D g.ts):Zy g m S=Zy g m T:=by
 unfold Zy;rw[znv h hf,znw h.heap]
theorem zvO(h:S.heap=T.heap) :∀{es:List ESh}{k:Nat},fzE S bl es k=fzE T bl es k
 |[],k=>rfl
 |e::es,k=>by
  unfold fzE;rw[zfv h,zvO h]
theorem zy1(h:EqX D S T){p:Nat}:EqX D (nil1 es id s p S) (nil1 es id s p T):=by
 unfold nil1;rw[h.heap];split
 ·split
  ·cases isNone (T.heap _) with
   |true=>exact h.heap'
   |false=>exact h
  ·exact h
 ·exact h
theorem zr3:∀(l:List Sh) (p:Nat) {S T:St C},EqX D S T->EqX D (nilC es id l p S) (nilC es id l p T)
 |[],p,S,T,h=>h
 |s::l,p,S,T,h=>zr3 l _ (zy1 h)
theorem zr4{all:List ESh}:∀(es:List ESh) (k:Nat) {S T:St C},EqX D S T->EqX D (nilE all bl es k S) (nilE all bl es k T)
 |[],k,S,T,h=>h
 |e::es,k,S,T,h=>by
  refine zr4 es _ ?_;unfold zgx;split
  ·exact zr3 _ 0 h
  ·exact h
theorem zr5(h:EqX D S T){g:Sig}(hf:vx D g.ts):EqX D (g.prep m S) (g.prep m T):=by
 unfold Sig.prep;rw[zvN h hf];have h':=zbg (es:=g.es) g.ts (EqX.frz (fzT T g.ts) h) hf;generalize nilT g.es g.ts (S.frz _)=S' at h' |-
 generalize nilT g.es g.ts (T.frz _)=T' at h' |-
 simp only;rw[zai h' hf];have h2:=zr4 (all:=g.es) (bl:=Zy g m T') g.es 0 h';generalize nilE g.es _ g.es 0 S'=S2 at h2 |-
 generalize nilE g.es _ g.es 0 T'=T2 at h2 |-
 rw[zai h2 hf,zvO h2.heap];exact EqX.frz _ h2
theorem zr6(h:S.heap=T.heap) :∀{es:List ESh}{k:Nat},zfC S m es k=zfC T m es k
 |[],_=>rfl
 |e::es,k=>by unfold zfC;rw[h,zr6 h]
theorem zk5(h:EqX D S T){g:Sig}(hf:vx D g.ts):YW g m S bl=YW g m T bl:=by
 unfold YW;rw[zr6 h.heap,zfv h.heap,show g.ts.map (λt=>S.env t.1)=g.ts.map λt=>T.env t.1 from D3 λq hq=>h.env _ (hf q hq)]
theorem zr7(h:EqX D S T)(As:List (AV C.D)):EqX D (virt S As) (virt T As):=⟨h.heap,λt ht=>by
 show(bif qb t vB then S.env t else _)=(bif qb t vB then T.env t else _)
 rw[h.env t ht]⟩
theorem zk6(h:EqX D S T):EqX D (unvirt S) (unvirt T):=⟨h.heap,λt ht=>by
 show(bif qb t vB then S.env t else _)=(bif qb t vB then T.env t else _)
 rw[h.env t ht]⟩
theorem znx(h:EqX D S T):EqX (λt=>D (vB+t)) (xb S) (xb T):=⟨h.heap,λt ht=>h.env _ ht⟩
theorem zgj(hD:∀t,D t->t < vB){g:Sig}:vx D g.shift.ts:=λq hq=>by
 obtain⟨p,hp,rfl⟩:=D6.1 hq;grind
def zi9(D:Nat->Prop) :U7 (St C×Bl×ins.ty C)->U7 (St C×Bl×ins.ty C)->Prop
 |some (S,bl,x),E (T,bl',x')=>EqX D S T/\bl=bl'/\x=x'
 |none,I=>True
 |_,_=>False
theorem zr8(hp0:EqX D S T)(hD:∀t,D t->t < vB){N:Nat}:zi9 D (YH ins S N) (YH ins T N):=by
 unfold YH;have hf:=zgj hD (g:=ins);have hp:=zr5 hp0 (g:=ins.shift) (m:=0) hf;have hb:=zai hp (g:=ins.shift) (m:=0) hf;have hg:∀bl,YW ins 0 (xb (ins.shift.prep 0 S)) bl=YW ins 0 (xb (ins.shift.prep 0 T)) bl:=λbl=>zk5 (znx hp) λq hq hd=>by
  grind
 simp only[hb,hg];cases V N ins.ts.length && qs ins.es.length 64 with
 |false=>trivial
 |true=>
  show zi9 D (qC _ _) (qC _ _);cases YW ins 0 (xb (ins.shift.prep 0 T)) (Zy ins.shift 0 (ins.shift.prep 0 T)) with
  |none=>trivial
  |some x=>exact⟨hp,rfl,rfl⟩
theorem ztz(h:EqX D S T)(hD:∀t,D t->t < vB){As:List (AV C.D)}:zi9 D (YT ins S As) (YT ins T As):=by
 unfold YT;have hv:=zr7 h As;have hf:=zgj hD (g:=ins);have hp:=zr5 hv (g:=ins.shift) (m:=0) hf;have hb:=zai hp (g:=ins.shift) (m:=0) hf;have hg:∀bl,YW ins 0 (xb (ins.shift.prep 0 (virt S As))) bl=YW ins 0 (xb (ins.shift.prep 0 (virt T As))) bl:=λbl=>zk5 (znx hp) λq hq hd=>by
  grind
 simp only[hb,hg];cases V As.length ins.ts.length && qs ins.es.length 64 with
 |false=>trivial
 |true=>
  show zi9 D (qC _ _) (qC _ _);cases YW ins 0 (xb (ins.shift.prep 0 (virt T As))) (Zy ins.shift 0 (ins.shift.prep 0 (virt T As))) with
  |none=>trivial
  |some x=>exact⟨hp,rfl,rfl⟩
theorem ziy(h:EqX D S T){Sr:St C}{d:Nat}:EqX D (Zx S Sr d bl es) (Zx T Sr d bl es):=by
 refine⟨?_,λt ht=>?_⟩
 ·unfold Zx;simp only;rw[h.heap]
 ·show AV.kill _ (AV.knx _ (S.env t))=AV.kill _ (AV.knx _ (T.env t));rw[h.env t ht]
theorem zfw(h:S.heap=T.heap){Sr:St C}{d:Nat}:∀{k:Nat},VB S Sr d bl k=VB T Sr d bl k
 |0=>rfl
 |k+1=>by unfold VB;rw[h,zfw h]
theorem zdq{outs:List (XK×Sig)}{r:zf C outs}{f g:XE C->St C->U7 (Out C)}(h:∀e Sr,zP D (f e Sr) (g e Sr)):zP D (zR outs r f) (zR outs r g):=by
 have hf:zR outs r (λ_ _=>True):=by
  revert r
  induction outs with
  |nil=>intro r;exact r.elim
  |cons o l ih=>
   have one:∀y:XK.ty C o.1 o.2,Yg o.1 o.2 y (λ_ _=>True):=λy=>by
    let⟨k,g⟩:=o;cases k<;>trivial
   cases l with
   |nil=>intro r;exact one r
   |cons o2 l=>
    intro r;cases r with
    |inl a=>exact one a
    |inr y=>exact ih (r:=y)
 revert r
 induction outs with
 |nil=>intro r;exact r.elim
 |cons o l ih=>
  have one:∀y:XK.ty C o.1 o.2,zP D (Yg o.1 o.2 y f) (Yg o.1 o.2 y g):=λy=>by
   let⟨k,sg⟩:=o;cases k<;>exact h _ _
  cases l with
  |nil=>intro r _;exact one r
  |cons o2 l=>
   intro r hr;cases r with
   |inl a=>exact one a
   |inr y=>exact ih (r:=y) hr
theorem zr9(h:EqX D S T){s:Spec C}{d:Nat}{x:s.ins.ty C}:zP D (xz s d S bl x) (xz s d T bl x):=by
 unfold xz;refine .bind λr =>.chk (zdq λe Sr=>?_)
 unfold Wa;rw[zfw h.heap];refine .chk ?_;have hm:=zk6 (ziy h (Sr:=Sr) (d:=d) (bl:=bl) (es:=yk s.outs r));cases e with
 |ret=>exact⟨hm.heap,(hm.put d _ (hp:=λ_=>I)).env⟩
 |pan A=>exact⟨rfl,hm⟩
 |normal=>trivial
 |exit i=>trivial
theorem ziz(h:EqX D S T){s:Spec C}{d:Nat}{x:s.ins.ty C}:zP D (yD s d S x) (yD s d T x):=by
 unfold yD;refine .bind λr=>zdq λe Sr =>.chk ?_
 unfold Wa;rw[zfw h.heap];refine .chk ?_;have hm:=zk6 (ziy h (Sr:=Sr) (d:=d) (bl:=[]) (es:=yk s.outs r));cases e with
 |ret=>exact⟨hm.heap,(hm.put d _ (hp:=λ_=>I)).env⟩
 |pan A=>exact⟨rfl,hm⟩
 |normal=>trivial
 |exit i=>trivial
theorem ziA(h:EqX D S T){s:Spec C}{d:Nat}{x:s.ins.ty C}:zP D (yP s d S x) (yP s d T x):=by
 unfold yP;refine .chk (.bind λr=>zdq λe Sr=>?_);unfold zbf;cases e with
 |ret=>exact .chk ⟨h.heap,(h.put d _ (hp:=λ_=>I)).env⟩
 |pan A=>exact .chk ⟨rfl,h⟩
 |normal=>trivial
 |exit i=>trivial
theorem zoF(h:S.heap=T.heap){i:Int}{K:(U:Nat)->Sl (C.D U)->U7 α}:zJ S id T0 i K=zJ T id T0 i K:=by
 unfold zJ;rw[h]
omit [Dfr] in
mutual
theorem zy2(h:S.heap=T.heap):∀{A:AV C.D}{K:AV C.D->U7 α},vI S A K=vI T A K
 | .nx id T i .whole,K=>zoF h
 | .agg cs,K=>zhC h (As:=cs)
 | .nx _ _ _ (.part _ _ _),K=>rfl
 | .nx _ _ _ (.elem _ _ _),K=>rfl
 | .int _ _,K=>rfl
 | .bool _,K=>rfl
 | .str _,K=>rfl
 | .tup _,K=>rfl
 | .sl _ _ _,K=>rfl
 | .row _,K=>rfl
 | .pc _ _,K=>rfl
 | .pr _ _ _ _,K=>rfl
 | .pz _ _ _,K=>rfl
 | .pnil,K=>rfl
 | .nils,K=>rfl
 | .clo _ _,K=>rfl
 | .nilf,K=>rfl
 | .ifc _ _,K=>rfl
 | .nili,K=>rfl
 | .und,K=>rfl
theorem zhC(h:S.heap=T.heap):∀{As:List (AV C.D)}{K:List (AV C.D)->U7 α},Wb S As K=Wb T As K
 |[],K=>rfl
 |A::As,K=>by
  show vI S A _=vI T A _;rw[zy2 h (A:=A)];congr 1;funext B;exact zhC h (As:=As)
end
omit [Dfr] in
mutual
theorem zy3:∀{A:AV C.D}{f g:AV C.D->U7 (Out C)},(∀B,zP D (f B) (g B))->zP D (vI T A f) (vI T A g)
 | .nx id T0 i .whole,f,g,h=>by
  show zP D (zJ T id T0 i _) (zJ T id T0 i _);unfold zJ;split
  ·refine .chk (.bind λq=>?_);split
   ·exact h _
   ·trivial
  ·trivial
 | .agg cs,f,g,h=>zhD (As:=cs) λBs=>h _
 | .nx _ _ _ (.part _ _ _),f,g,h=>h _
 | .nx _ _ _ (.elem _ _ _),f,g,h=>h _
 | .int _ _,f,g,h=>h _
 | .bool _,f,g,h=>h _
 | .str _,f,g,h=>h _
 | .tup _,f,g,h=>h _
 | .sl _ _ _,f,g,h=>h _
 | .row _,f,g,h=>h _
 | .pc _ _,f,g,h=>h _
 | .pr _ _ _ _,f,g,h=>h _
 | .pz _ _ _,f,g,h=>h _
 | .pnil,f,g,h=>h _
 | .nils,f,g,h=>h _
 | .clo _ _,f,g,h=>h _
 | .nilf,f,g,h=>h _
 | .ifc _ _,f,g,h=>h _
 | .nili,f,g,h=>h _
 | .und,f,g,h=>h _
theorem zhD:∀{As:List (AV C.D)}{f g:List (AV C.D)->U7 (Out C)},(∀Bs,zP D (f Bs) (g Bs))->zP D (Wb T As f) (Wb T As g)
 |[],f,g,h=>h _
 |A::As,f,g,h=>zy3 (A:=A) λB=>zhD (As:=As) λBs=>h _
end
theorem zxL(h:EqX D S T)(hD:∀t,D t->t < vB)(As Bs:List (AV C.D)):EqX D (zgb S As Bs) (zgb T As Bs):=by
 have h1:=EqX.frz (AV.nxss As) (zr7 h As);refine⟨h1.heap,λt ht=>?_⟩;show(bif qb t vB then _ else match zaX As Bs (t - vB) with | some B=>B | none=>_)=(bif qb t vB then _ else match zaX As Bs (t - vB) with | some B=>B | none=>_);rw[h1.env t ht]
theorem zhE(hD:∀t,D t->t < vB):∀{ts:List (Nat×Sh)}{S T:St C}{f g:St C->U7 (Out C)},EqX D S T->(∀S1 T1,EqX D S1 T1->zP D (f S1) (g T1))->zP D (wA ts S f) (wA ts T g)
 |[],S,T,f,g,h,k=>k _ _ h
 |(t,s)::ts,S,T,f,g,h,k=>by
  unfold wA;have hn:¬ D (vB+t):=λhd=>by grind
  have hc:∀id,XB S id=XB T id:=λid=>by unfold XB;rw[h.heap]
  rw[h.env _ hn];split
  ·rename_i T0 o id off _;rw[hc];have h1:=EqX.frz (XB T id) h;rw[h1.heap];split
   ·refine .bind λq=>zhE hD ?_ k
    have h2:=h1.sub id .und;rw[h2.heap];exact h2.put (vB+t) _
   ·trivial
  ·exact zhE hD h k
theorem ziB(h:EqX D S T)(hD:∀t,D t->t < vB){d:Nat}{As:List (AV C.D)}:∀{Γ:List (Spec C)},zP D (xA Γ S d f As) (xA Γ T d f As)
 |[]=>trivial
 |s::Γ=>by
  unfold xA;cases(V s.f f && (s.view || s.viewO)) with
  |false=>exact ziB h hD
  |true=>
   simp only[D1];rw[zhC h.heap];refine zhD λBs =>.chk (zhE hD (zxL h hD As Bs) λS1 T1 h1=>?_)
   have hl:=zr8 h1 hD (ins:=s.ins) (N:=As.length);generalize YH s.ins S1 As.length=a at hl;generalize YH s.ins T1 As.length=b at hl
   match a,b,hl with
   |none,I,_=>trivial
   |some (S2,bl,x),E (T2,_,_),⟨h2,rfl,rfl⟩=>
    show zP D (bif s.view then yP s d S x else yD s d S x) (bif s.view then yP s d T x else yD s d T x);cases s.view with
    |true=>exact ziA h
    |false=>exact ziz h
theorem zdr(h:EqX D S T)(hD:∀t,D t->t < vB){Γ0:List (Spec C)}{d:Nat}{As:List (AV C.D)}:∀{Γ:List (Spec C)},zP D (YI Γ0 Γ S d f As) (YI Γ0 Γ T d f As)
 |[]=>ziB h hD
 |s::Γ=>by
  unfold YI;cases V s.f f with
  |false=>exact zdr h hD
  |true=>
   simp only[D1];have hl:=ztz h hD (ins:=s.ins) (As:=As);generalize YT s.ins S As=a at hl;generalize YT s.ins T As=b at hl
   match a,b,hl with
   |none,I,_=>exact zdr h hD
   |some (S2,bl,x),E (T2,_,_),⟨h2,rfl,rfl⟩=>
    show zP D (bif s.view then yP s d S x else bif s.viewO then yD s d S x else xz s d S2 bl x) (bif s.view then yP s d T x else bif s.viewO then yD s d T x else xz s d T2 bl x);cases s.view with
    |true=>exact ziA h
    |false=>
     cases s.viewO with
     |true=>exact ziz h
     |false=>exact zr9 h2
theorem zk7(h:EqX D S T)(hD:∀t,D t->t < vB){d:Nat}{As:List (AV C.D)}{Γ:List (Spec C)}:zP D (vv Γ S d f As) (vv Γ T d f As):=zdr h hD
theorem zk8(h:EqX D S T){ty:TypeId}{op:Op}(hf:vw D op.operands.toList):yB P S ty op=yB P T ty op:=zns (h.ops hf) λid _=>by rw[h.heap]
omit [Dfr] in
theorem zP.map{x:U7 (AV C.D)}{d:Nat}(h:EqX D S T):zP D (x.map λA =>.go (S.put d A)) (x.map λA =>.go (T.put d A)):=by
 cases x with
 |none=>trivial
 |some A=>exact⟨h.heap,(h.put d A (hp:=λ_=>Option.none)).env⟩
theorem ziC(h:EqX D S T){x:Operand}(hx:S.op x=T.op x):zP D (Xg S x) (Xg T x):=by
 unfold Xg;rw[hx];split
 ·exact .chk ⟨rfl,h⟩
 ·trivial
theorem zgk(h:EqX D S T){d:Nat}{ty t:TypeId}{x:Operand}(hx:S.op x=T.op x)(hf:vw D (qS t x lo hi I).operands.toList):zP D (yC P S d ty t x lo hi) (yC P T d ty t x lo hi):=by
 unfold yC;rw[hx];split
 ·rename_i id e;have h1:=EqX.frz1 h id;rw[zk8 h1 hf];exact .bind λA=>⟨h1.heap,(h1.put d A (hp:=λ_=>I)).env⟩
 ·trivial
theorem zoG(h:EqX D S T){q:Opts}{d:Nat}{ty t:TypeId}{x:Operand}{mx:U7 Operand}(hf:vw D (qS t x lo hi mx).operands.toList):zP D (yZ q P S d ty t x lo hi mx) (yZ q P T d ty t x lo hi mx):=by
 have hop:=h.ops hf;have hx:S.op x=T.op x:=hop x (by simp[W]);unfold yZ;split
 ·cases q.fs with
  |true=>exact zgk h hx hf
  |false=>
   have h1:∀y,hi=E y->S.op y=T.op y:=λy e=>hop y (by subst e;simp[W])
   exact zoC h hx h1
 ·exact zgk h hx hf
 ·trivial
theorem zm5(h:EqX D S T){d:Nat}{t:TypeId}:zP D (Xz S d t) (Xz T d t):=by
 unfold Xz;rw[h.heap];split
 ·exact .chk (h.put d _)
 ·trivial
theorem zhF(h:EqX D S T){t:TypeId}{x y:Operand}(hx:S.op x=T.op x)(hy:S.op y=T.op y){f g:(et id q T:Nat)->(b:ByteArray)->(s:Sl (C.D T))->(M:MapR C.D C.opv T)->M.k.ty->U7 (Out C)}(hfg:∀et id q T b s M k,zP D (f et id q T b s M k) (g et id q T b s M k)):zP D (zaf P S t x y f) (zaf P T t x y g):=by
 unfold zaf;rw[hx,hy,h.heap];split
 ·split
  ·split
   ·split
    ·split
     ·exact .chk (hfg _ _ _ _ _ _ _ _)
     ·trivial
    ·trivial
   ·trivial
  ·trivial
 ·trivial
theorem ztA(h:EqX D S T){d:Nat}{t:TypeId}{x y:Operand}(hx:S.op x=T.op x)(hy:S.op y=T.op y):zP D (zga P S d t x y) (zga P T d t x y):=by
 refine zhF h hx hy λet id q T b s M k=>?_
 split
 ·exact .chk ⟨h.heap,(h.put d _ (hp:=λ_=>I)).env⟩
 ·trivial
theorem zoH(h:EqX D S T){t:TypeId}{x y z:Operand}(hx:S.op x=T.op x)(hy:S.op y=T.op y)(hz:S.op z=T.op z):zP D (zbN P S t x y z) (zbN P T t x y z):=by
 refine zhF h hx hy λet id q T b s M k=>?_
 rw[hz];split
 ·exact⟨by rw[h.heap],h.env⟩
 ·trivial
theorem zoI(h:EqX D S T){x y:Operand}(hx:S.op x=T.op x)(hy:S.op y=T.op y):zP D (wH P S ts x y) (wH P T ts x y):=by
 unfold wH;split
 ·exact zhF h hx hy λet id q T b s M k=>⟨by rw[h.heap],h.env⟩
 ·trivial
theorem zy4{q:Opts}{Γ:List (Spec C)}{n:Nat}{o:Oper}(h:EqX D S T)(hD:∀t,D t->t < vB)(hf:vw D o.op.operands.toList):zP D (VC q Γ P n o S) (VC q Γ P n o T):=by
 let⟨dst,op,ty,ps,af,g⟩:=o;have hop:=h.ops hf;simp only at hf hop;unfold VC;cases dst with
 |none=>
  simp only;split
  ·rename_i t x y;exact zr0 h (λt e=>hf t (by simp[W,e])) (λt e=>hf t (by simp[W,e]))
  ·rename_i t x y z;exact zoH h (hop x (by simp[W])) (hop y (by simp[W])) (hop z (by simp[W]))
  ·rename_i args ts;split
   ·rename_i x y e;have ha:∀z∈args.toList,S.op z=T.op z:=λz hz=>hop z (by simp[W,qk];simpa using hz)
    rw[e] at ha;exact zoI h (ha x (by simp)) (ha y (by simp))
   ·trivial
  ·rename_i x;exact ziC h (hop x (by simp[W]))
  ·trivial
 |some d=>
  simp only;refine .chk ?_;have rd:∀op',op'=op->zP D ((yB P S ty op').map λA =>.go (S.put d A)) ((yB P T ty op').map λA =>.go (T.put d A)):=λop' e=>by
   subst e;rw[zk8 h hf];exact .map h
  unfold xB;split
  ·exact zrZ h
  ·rename_i t x;rw[hop x (by simp[W])];refine .chk ?_;cases C.bz t with
   |true=>exact .bind λq=>zP.map (x:=E (.pz _ q 0)) h
   |false=>exact znt h
  ·rename_i t x y;exact ztv h (hop x (by simp[W]))
  ·rename_i t m parts;exact zoB h (by simpa[W] using hf)
  ·rename_i t x lo hi mx;rw[zk8 h hf];split
   ·exact⟨h.heap,(h.put d _ (hp:=λ_=>I)).env⟩
   ·exact zoG h hf
  ·rename_i t t' x;have hx:=hop x (by simp[W]);grind
  ·rename_i c args ts;have ha:args.toList.map S.op=args.toList.map T.op:=D3 λx hx=>hop x (by simp[W,qk];grind)
   rw[hop c (by simp[W,qk]),ha];split
   ·exact zP.chk (zk7 h hD)
   ·trivial
  ·rename_i x name args ts;have ha:args.toList.map S.op=args.toList.map T.op:=D3 λx hx=>hop x (by simp[W,qk];exact .inr (by simpa using hx))
   unfold WM;rw[hop x (by simp[W,qk]),ha];split
   ·split
    ·exact zk7 h hD
    ·trivial
   ·trivial
  ·rename_i args ts;split
   ·rename_i x y t t' e1 e2;have ha:∀z∈args.toList,S.op z=T.op z:=λz hz=>hop z (by simp[W,qk];simpa using hz)
    rw[e1] at ha;exact .chk (zgi h (ha x (by simp)) (ha y (by simp)))
   ·trivial
  ·exact zm5 h
  ·rename_i t x y;exact ztA h (hop x (by simp[W])) (hop y (by simp[W]))
  ·rename_i x;exact ziC h (hop x (by simp[W]))
  grind
theorem zA8{q:Opts}{Γ:List (Spec C)}{n:Nat}{o:Oper}(h:EqX D S T)(hD:∀t,D t->t < vB)(hf:vw D o.op.operands.toList):zP D (stp q Γ P n o S) (stp q Γ P n o T):=by
 let⟨h1,h2⟩:=zxJ (P:=P) (dst:=o.dst) h hf;unfold stp;rw[h1];cases hk:xc P T o.dst o.op with
 |some k=>exact .chk (h2 k hk)
 |none=>exact zy4 h hD hf
end
end
section
variable [Dfr]
def xo(id:Nat):Nat:=id+1099511627776
mutual
def AV.avoid{D:Nat->Type}(l:List Nat):AV D->Bool
 | .row id=> !zz id l
 | .pc id _=> !zz id l
 | .pr id _ _ _=> !zz id l
 | .nx id _ _ _=> !zz id l && !zz (xo id) l
 | .agg cs=>AV.avoids l cs
 | .tup cs=>AV.avoids l cs
 | .clo _ cs=>AV.avoids l cs
 | .ifc _ A=>AV.avoid l A
 |_=>G
def AV.avoids{D:Nat->Type}(l:List Nat):List (AV D)->Bool
 |[]=>G
 |A::As=>AV.avoid l A && AV.avoids l As
end
omit [Dfr] in
mutual
theorem zds{D:Nat->Type}{R:AV D}(hm:zz id l=G):∀{A:AV D},A.avoid l=G->AV.sub id R A=A
 | .row j,h=>by
  unfold AV.sub;cases e:V j id with
  |true=>
   have:=ge e;subst this;simp only[AV.avoid,hm] at h;cases h
  |false=>rfl
 | .pc j o,h=>by
  unfold AV.sub;cases e:V j id with
  |true=>
   have:=ge e;subst this;simp only[AV.avoid,hm] at h;cases h
  |false=>rfl
 | .pr j _ _ _,h=>by
  unfold AV.sub;cases e:V j id with
  |true=>
   have:=ge e;subst this;simp only[AV.avoid,hm] at h;cases h
  |false=>rfl
 | .nx j _ _ _,h=>by
  unfold AV.sub;cases e:V j id with
  |true=>
   have:=ge e;subst this;simp only[AV.avoid,hm] at h;cases h
  |false=>rfl
 | .agg cs,h=>by unfold AV.sub;rw[Wd hm h]
 | .tup cs,h=>by unfold AV.sub;rw[Wd hm h]
 | .clo f cs,h=>by unfold AV.sub;rw[Wd hm h]
 | .ifc t A,h=>by unfold AV.sub;rw[zds hm (A:=A) h]
 | .int _ _,_=>rfl
 | .bool _,_=>rfl
 | .str _,_=>rfl
 | .sl _ _ _,_=>rfl
 | .pz _ _ _,_=>rfl
 | .pnil,_=>rfl
 | .nils,_=>rfl
 | .nilf,_=>rfl
 | .nili,_=>rfl
 | .und,_=>rfl
theorem Wd{D:Nat->Type}{R:AV D}(hm:zz id l=G):∀{A:List (AV D)},AV.avoids l A=G->AV.subs id R A=A
 |[],_=>rfl
 |A::As,h=>by
  simp only[AV.avoids,gf] at h;unfold AV.subs;rw[zds hm h.1,Wd hm h.2]
end
omit [Dfr] in
mutual
theorem zb0{D:Nat->Type}(hp:∀i,p i=G->zz i l=G):∀{A:AV D},A.avoid l=G->AV.kill p A=A
 | .row j,h=>by
  unfold AV.kill;cases e:p j with
  |true=>simp only[AV.avoid,hp j e] at h;cases h
  |false=>rfl
 | .pc j o,h=>by
  unfold AV.kill;cases e:p j with
  |true=>simp only[AV.avoid,hp j e] at h;cases h
  |false=>rfl
 | .pr j _ _ _,h=>by
  unfold AV.kill;cases e:p j with
  |true=>simp only[AV.avoid,hp j e] at h;cases h
  |false=>rfl
 | .nx j _ _ _,h=>by
  unfold AV.kill;cases e:p j with
  |true=>simp only[AV.avoid,hp j e] at h;cases h
  |false=>rfl
 | .agg cs,h=>by unfold AV.kill;rw[wu hp h]
 | .tup cs,h=>by unfold AV.kill;rw[wu hp h]
 | .clo f cs,h=>by unfold AV.kill;rw[wu hp h]
 | .ifc t A,h=>by unfold AV.kill;rw[zb0 hp (A:=A) h]
 | .int _ _,_=>rfl
 | .bool _,_=>rfl
 | .str _,_=>rfl
 | .sl _ _ _,_=>rfl
 | .pz _ _ _,_=>rfl
 | .pnil,_=>rfl
 | .nils,_=>rfl
 | .nilf,_=>rfl
 | .nili,_=>rfl
 | .und,_=>rfl
theorem wu{D:Nat->Type}(hp:∀i,p i=G->zz i l=G):∀{A:List (AV D)},AV.avoids l A=G->AV.kills p A=A
 |[],_=>rfl
 |A::As,h=>by
  simp only[AV.avoids,gf] at h;unfold AV.kills;rw[zb0 hp h.1,wu hp h.2]
end
omit [Dfr] in
mutual
theorem zaj{D:Nat->Type}(hp:∀i,p i=G->zz (xo i) l=G):∀{A:AV D},A.avoid l=G->AV.knx p A=A
 | .row j,h=>rfl
 | .pc j o,h=>rfl
 | .pr j _ _ _,h=>rfl
 | .nx j _ _ _,h=>by
  unfold AV.knx;cases e:p j with
  |true=>simp only[AV.avoid,hp j e,Dr,Bool.and_false] at h;cases h
  |false=>rfl
 | .agg cs,h=>by unfold AV.knx;rw[XW hp h]
 | .tup cs,h=>by unfold AV.knx;rw[XW hp h]
 | .clo f cs,h=>by unfold AV.knx;rw[XW hp h]
 | .ifc t A,h=>by unfold AV.knx;rw[zaj hp (A:=A) h]
 | .int _ _,_=>rfl
 | .bool _,_=>rfl
 | .str _,_=>rfl
 | .sl _ _ _,_=>rfl
 | .pz _ _ _,_=>rfl
 | .pnil,_=>rfl
 | .nils,_=>rfl
 | .nilf,_=>rfl
 | .nili,_=>rfl
 | .und,_=>rfl
theorem XW{D:Nat->Type}(hp:∀i,p i=G->zz (xo i) l=G):∀{A:List (AV D)},AV.avoids l A=G->AV.knxs p A=A
 |[],_=>rfl
 |A::As,h=>by
  simp only[AV.avoids,gf] at h;unfold AV.knxs;rw[zaj hp h.1,XW hp h.2]
end
section
variable {C:Cod}{S T:St C}{P:Program}
def Ent.avoid(l:List Nat):Ent C->Bool
 | .cell cs=>AV.avoids l cs
 | .row _ _=>G
 | .obj _ _ _ _=>G
 | .orow _ _ _=>G
def zk9(l:List Nat):U7 (Ent C)->Bool
 |some e=>e.avoid l
 |none=>G
structure Keeps(S T:St C)(d:U7 Nat)(l:List Nat)(p:Nat->Bool):Prop where
 env:∀t,t < vB->d≠E t->(S.env t).avoid l=G->T.env t=S.env t
 heap:∀id,p id=O->zk9 l (S.heap id)=G->T.heap id=S.heap id
omit [Dfr] in
theorem Keeps.refl(S:St C){d:U7 Nat}:Keeps S S d l p:=⟨λ_ _ _ _=>rfl,λ_ _ _=>rfl⟩
omit [Dfr] in
theorem Keeps.trans{U:St C}{d:U7 Nat}(h:Keeps S T d l p)(k:Keeps T U d l p):Keeps S U d l p:=
 ⟨λt h1 h2 h3=>by have e:=h.env t h1 h2 h3;rw[k.env t h1 h2 (by grind),e],λid h1 h2=>by have e:=h.heap id h1 h2;rw[k.heap id h1 (by grind),e]⟩
omit [Dfr] in
theorem Keeps.sub{R:AV C.D}{d:U7 Nat}(hm:zz id l=G)(hp:p id=G):Keeps S (S.sub id R) d l p:=by
 refine⟨λt _ _ h=>zds hm h,λj hj h=>?_⟩;show(bif V j id then I else(S.heap j).map (Ent.sub id R))=S.heap j;cases e:V j id with
 |true=>have:=ge e;grind
 |false=>
  simp only[UC];cases hs:S.heap j with
  |none=>rfl
  |some en=>
   rw[hs] at h;cases en with
   |row T s=>rfl
   |obj q T b s=>rfl
   |orow T s g=>rfl
   |cell cs=>show E (Ent.cell (AV.subs id R cs))=_;rw[Wd hm h]
theorem zb1(S:St C)(id:Nat):(∃R,S.frz1 id=S.sub id R)\/S.frz1 id=S:=by
 unfold St.frz1;split
 ·grind
 all_goals grind
omit [Dfr] in
theorem Keeps.frz{d:U7 Nat}:∀(r:List Nat) {S:St C},(∀id∈r,zz id l=G/\p id=G)->Keeps S (S.frz r) d l p
 |[],S,_ =>.refl S
 |id::r,S,h=>by
  have h1:=h id (by simp);have k:Keeps S (S.frz1 id) d l p:=by
   rcases zb1 S id with⟨R,e⟩ | e
   ·rw[e];exact .sub h1.1 h1.2
   ·rw[e];exact .refl S
  exact k.trans (Keeps.frz r λj hj=>h j (D5 _ hj))
theorem Keeps.new{d:Nat}{A:AV C.D}{e:U7 (Ent C)}(hp:p id=G):Keeps S {env:=upd S.env d A,heap:=upd S.heap id e} (E d) l p:=
 ⟨λt _ h2 _=>zq λe=>h2 (by rw[e]),λj hj _=>zq λe=>by grind⟩
omit [Dfr] in
theorem Keeps.ent{e:U7 (Ent C)}{d:U7 Nat}(hp:p id=G):Keeps S {S with heap:=upd S.heap id e} d l p:=
 ⟨λt _ _ _=>rfl,λj hj _=>zq λe=>by grind⟩
omit [Dfr] in
theorem Keeps.put{d:Nat}{A:AV C.D}:Keeps S (S.put d A) (E d) l p:=⟨λt _ h2 _=>zq λe=>h2 (by rw[e]),λj _ _=>rfl⟩
omit [Dfr] in
theorem Keeps.virt{As:List (AV C.D)}{d:U7 Nat}:Keeps S (virt S As) d l p:=⟨λt ht _ _=>by
 show(bif qb t vB then S.env t else _)=_
 rw[show qb t vB=G from by rw[Dd];exact ht];rfl,λj _ _=>rfl⟩
omit [Dfr] in
theorem Keeps.unvirt{d:U7 Nat}:Keeps S (unvirt S) d l p:=⟨λt ht _ _=>by
 show(bif qb t vB then S.env t else _)=_
 rw[show qb t vB=G from by rw[Dd];exact ht];rfl,λj _ _=>rfl⟩
omit [Dfr] in
theorem Keeps.nilA1{t q:Nat}{d:U7 Nat}(hp:∀id,1048576<=id->p id=G)(ht:vB<=t):Keeps S (nilA1 es t s q S) d l p:=by
 unfold Px.nilA1;split
 ·split
  ·cases isNone (S.heap _) with
   |true=>
    refine⟨λt' ht' _ _=>zq λe=>?_,λj hj _=>zq λe=>?_⟩
    all_goals grind
   |false=>exact .refl S
  ·exact .refl S
 ·exact .refl S
omit [Dfr] in
theorem Keeps.nilA{t:Nat}{d:U7 Nat}(hp:∀id,1048576<=id->p id=G)(ht:vB<=t):∀(sl:List Sh) (q:Nat) {S:St C},Keeps S (nilA es t sl q S) d l p
 |[],q,S =>.refl S
 |s::sl,q,S=>(Keeps.nilA1 hp ht).trans (Keeps.nilA hp ht sl _)
omit [Dfr] in
theorem Keeps.nilT{d:U7 Nat}(hp:∀id,1048576<=id->p id=G):∀(ts:List (Nat×Sh)) {S:St C},(∀q∈ts,vB<=q.1)->Keeps S (nilT es ts S) d l p
 |[],S,_ =>.refl S
 |(t,s)::ts,S,hts=>by
  have hts':∀q∈ts,vB<=q.1:=λq hq=>hts q (D5 _ hq)
  unfold Px.nilT;split
  ·split
   ·cases isNone (S.heap _) with
    |false=>exact Keeps.nilT hp ts hts'
    |true=>
     refine Keeps.trans ?_ (Keeps.nilT hp ts hts');refine⟨λt' ht' _ _=>zq λe=>?_,λj hj _=>zq λe=>?_⟩
     ·have:=hts _ (qE ..);grind
     grind
   ·exact Keeps.nilT hp ts hts'
  ·exact(Keeps.nilA hp (hts _ (qE ..)) _ 0).trans (Keeps.nilT hp ts hts')
  ·exact Keeps.nilT hp ts hts'
omit [Dfr] in
theorem Keeps.nil1{q:Nat}{d:U7 Nat}(hp:∀id,1048576<=id->p id=G)(hid:p id=G):Keeps S (nil1 es id s q S) d l p:=by
 unfold Px.nil1;split
 ·split
  ·cases isNone (S.heap _) with
   |true=>
    refine⟨λ_ _ _ _=>rfl,λj hj _=>?_⟩;show upd (upd S.heap _ _) id _ j=S.heap j;have e1:j≠id:=λe=>by grind
    rw[zq e1];exact zq λe=>by grind
   |false=>exact .refl S
  ·exact .refl S
 ·exact .refl S
omit [Dfr] in
theorem Keeps.nilC{d:U7 Nat}(hp:∀id,1048576<=id->p id=G)(hid:p id=G):∀(sl:List Sh) (q:Nat) {S:St C},Keeps S (nilC es id sl q S) d l p
 |[],q,S =>.refl S
 |s::sl,q,S=>(Keeps.nil1 hp hid).trans (Keeps.nilC hp hid sl _)
omit [Dfr] in
theorem Keeps.nilE{all:List ESh}{d:U7 Nat}(hp:∀id,1048576<=id->p id=G)(hb:∀id,yd id bl=G->p id=G):∀(es:List ESh) (k:Nat) {S:St C},Keeps S (nilE all bl es k S) d l p
 |[],k,S =>.refl S
 |e::es,k,S=>by
  refine Keeps.trans ?_ (Keeps.nilE hp hb es _);unfold zgx;split
  ·rename_i id e';exact Keeps.nilC hp (hb id (Xi e')) _ 0
  ·exact .refl S
def zvP(g:Sig)(m:Nat)(S:St C):Bl:=Zy g m (nilT g.es g.ts (S.frz (fzT S g.ts)))
def zgl(g:Sig)(m:Nat)(S:St C):List Nat:=
 let S1:=nilT g.es g.ts (S.frz (fzT S g.ts))
 let S2:=nilE g.es (Zy g m S1) g.es 0 S1
 fzT S g.ts++fzE S2 (Zy g m S2) g.es 0
omit [Dfr] in
theorem Keeps.prep{g:Sig}{d:U7 Nat}(hp:∀id,1048576<=id->p id=G)(hts:∀q∈g.ts,vB<=q.1)(hb:∀id,yd id (zvP g m S)=G->p id=G)(hf:∀id∈zgl g m S,zz id l=G/\p id=G):Keeps S (g.prep m S) d l p:=by
 unfold Sig.prep;simp only;refine(Keeps.frz _ λid hid=>hf id (by unfold zgl;grind)).trans ((Keeps.nilT hp g.ts hts).trans ((Keeps.nilE hp hb g.es 0).trans (Keeps.frz _ λid hid=>hf id (by unfold zgl;grind))))
theorem zbh(d k:Nat)(hk:k < 64):nid d k / 64=d+1:=by unfold nid;omega
theorem Keeps.merge{Sr:St C}{d:Nat}(hg:∀id∈YD es bl,zz id l=G/\p id=G)(hb:∀id,yd id bl=G->p id=G)(hn:∀k,k < 64->p (nid d k)=G)(hes:es.length<=64)(hx:∀id,yd id bl=G->zz (xo id) l=G):Keeps S (Zx S Sr d bl es) (E d) l p:=by
 have hg':∀i,zz i (YD es bl)=G->zz i l=true:=λi hi=>(hg i (zO.1 hi)).1
 refine⟨λt _ _ h=>by show AV.kill _ (AV.knx _ (S.env t))=_;rw[zaj (λid hid=>hx id (by grind)) h,zb0 hg' h],λj hj h=>?_⟩;have e1:(Zx S Sr d bl es).heap j=bif zz j (YD es bl) then I else(S.heap j).map λe=>Ent.kill (λi=>zz i (YD es bl)) (Ent.knx (λi=>yd i bl && !zz i (kpL Sr bl 0)) e):=by
  refine vH λk e he hge=>?_
  rw[Dc];intro e';unfold xy at e';split at e'
  ·rename_i id hid;subst e';rw[hb _ (Xi hid)] at hj;cases hj
  grind
 rw[e1];cases hm:zz j (YD es bl) with
 |true=>rw[(hg j (zO.1 hm)).2] at hj;cases hj
 |false=>
  simp only[UC];cases hs:S.heap j with
  |none=>rfl
  |some en=>
   rw[hs] at h;cases en with
   |row T s=>rfl
   |obj q T b s=>rfl
   |orow T s g=>rfl
   |cell cs=>show E (Ent.cell (AV.kills _ (AV.knxs _ cs)))=_;rw[XW (λid hid=>hx id (by grind)) h,wu hg' h]
abbrev Tch:=List Nat×(Nat->Bool)
def zdt(d:Nat):U7 Tch:=E ([],λi=>V (i / 64) (d+1))
def zb2:Bl->List Nat
 |[]=>[]
 |some id::r=>xo id::zb2 r
 |none::r=>zb2 r
theorem zfx:∀{bl:Bl},yd id bl=G->xo id∈zb2 bl
 |some a::r,h=>by
  simp only[yd,UR] at h;rcases h with h | h
  ·rw[ge h];simp[zb2]
  ·exact D5 _ (zfx h)
 |none::r,h=>zfx (bl:=r) h
 |[],h=>by cases h
def zsa(id:Nat)(l:List Nat):U7 Tch:=E (l,λi=>V i id || zz i l)
def WN(Γ:List (Spec C))(S:St C)(d f:Nat)(As:List (AV C.D)):U7 Tch:=match Γ with
 |[]=>E ([],λi=>V (i / 64) (d+1))
 |s::Γ=>bif V s.f f then(match YT s.ins S As with
  |some (S2,bl,x)=>bif s.view then E ([],λ_=>O) else bif s.viewO then chk (s.outs.all λo=>qs o.2.es.length 64) (E ([],λi=>V (i / 64) (d+1))) else go s bl (zvP s.ins.shift 0 (virt S As)) (zgl s.ins.shift 0 (virt S As)++((s.outs.flatMap λo=>YD o.2.es bl)++zb2 bl))
  |none=>WN Γ S d f As) else WN Γ S d f As
where
 go (s:Spec C) (bl b1:Bl) (l:List Nat):U7 Tch:=chk (s.outs.all λo=>qs o.2.es.length 64) (E (l,λi=>zz i l || (yd i bl || (V (i / 64) (d+1) || (qs 1048576 i || yd i b1)))))
def ztB(Γ:List (Spec C))(P:Program)(o:Oper)(S:St C):U7 Tch:=match o.dst with
 |none=>match o.op with
  | .store t x y=>(match S.op x with
   | .pc id _=>zsa id []
   | .pr id _ _ _=>zsa id (AV.rows (S.op y))
   |_=>I)
  | .mapUpdate _ x _ _=>(match S.op x with
   | .row id=>E ([],λi=>V i id)
   |_=>I)
  | .call ⟨.builtin .delete,args,_⟩=>(match args.toList with
   |[x,_]=>(match S.op x with
    | .row id=>E ([],λi=>V i id)
    |_=>I)
   |_=>I)
  |_=>E ([],λ_=>O)
 |some d=>match o.op with
  | .alloc _=>zdt d
  | .box _ _=>zdt d
  | .makeSlice _ _ _=>zdt d
  | .makeMap _ _=>zdt d
  | .buildSlice _ _ parts=>go d (AV.rowss (parts.toList.map λq=>S.op q.2))
  | .call ⟨.value c,args,_⟩=>(match S.op c with
   | .clo f caps=>WN Γ S d f (Xh (args.toList.map S.op) caps)
   |_=>I)
  | .call ⟨.invoke x name,args,_⟩=>(match S.op x with
   | .ifc t A=>(match zef P t name with
    |some f=>WN Γ S d f (A::args.toList.map S.op)
    |none=>I)
   |_=>I)
  | .call ⟨.builtin .append,args,_⟩=>(match args.toList with
   |[x,y]=>(match S.op x with
    | .row id=>go d [id]
    | .nils=>zdt d
    |_=>I)
   |_=>I)
  | .slice _ x _ _ _=>go d (S.op x).hid
  | .panic _=>E ([],λ_=>O)
  |_=>E ([],λ_=>O)
where
 go (d:Nat) (l:List Nat):U7 Tch:=E (l,λi=>zz i l || V (i / 64) (d+1))
theorem ZV(h:id∈l):zz id l=true:=zO.2 h
theorem We(d:Nat):V (nid d 0 / 64) (d+1)=true:=by rw[zbh d 0 (by omega)];simp
theorem zak:∀{outs:List (XK×Sig)}{r:zf C outs},∃o∈outs,yk outs r=o.2.es
 |[],r=>r.elim
 |[o],r=>⟨o,by simp,rfl⟩
 |o::o2::l,r=>by
  cases r with
  |inl a=>exact⟨o,by simp,rfl⟩
  |inr y=>
   let⟨o',h1,h2⟩:=zak (outs:=o2::l) (r:=y);exact⟨o',D5 _ h1,h2⟩
theorem XD{K:XE C->St C->U7 α}{z:α}{outs:List (XK×Sig)}{r:zf C outs}(h:zR outs r K=E z):∃e S,K e S=E z:=by
 have hq:zR outs r (λ_ _=>True):=by
  clear h;revert r
  induction outs with
  |nil=>intro r;exact r.elim
  |cons o l ih=>
   have one:∀y:XK.ty C o.1 o.2,Yg o.1 o.2 y (λ_ _=>True):=λy=>by
    let⟨k,g⟩:=o;cases k<;>trivial
   cases l with
   |nil=>intro r;exact one r
   |cons o2 l=>
    intro r;cases r with
    |inl a=>exact one a
    |inr y=>exact ih (r:=y)
 let⟨e,S,h1,_⟩:=XA h hq;grind
theorem zi4{s:Spec C}(hvo:s.viewO=G){d:Nat}{x:s.ins.ty C}{S':St C}(h:yD s d S x=E (.go S')):Keeps S S' (E d) [] λi=>V (i / 64) (d+1):=by
 simp only[Spec.viewO,gf] at hvo;unfold yD at h;let⟨r,_,h⟩:=gd h;let⟨e,Sr,h⟩:=XD h;let⟨_,h⟩:=zb h;unfold Wa at h;let⟨_,h⟩:=zb h;cases e with
 |normal=>cases h
 |exit i=>cases h
 |pan A=>cases h
 |ret=>
  cases h;let⟨o,ho,he⟩:=zak (outs:=s.outs) (r:=r);have hg:YD (yk s.outs r) []=[]:=by cases yk s.outs r<;>rfl
  have hc:=D0.1 hvo.2 o ho;simp only[gf] at hc;refine Keeps.trans (.merge (λid hid=>?_) (λid hid=>?_) (λk hk=>?_) ?_ (λid hid=>?_)) (Keeps.trans .unvirt .put)
  ·grind
  ·cases hid
  ·simp only[zbh d k hk,qH]
  ·rw[he];exact Dj hc.2
  ·cases hid
theorem zi5{s:Spec C}{d:Nat}{x:s.ins.ty C}{S':St C}(h:yP s d S x=E (.go S')):Keeps S S' (E d) l p:=by
 let⟨_,h⟩:=zb h;let⟨r,_,h⟩:=gd h;let⟨e,Sr,h⟩:=XD h;unfold zbf at h;cases e with
 |normal=>cases h
 |exit i=>cases h
 |pan A=>let⟨_,h⟩:=zb h;cases h
 |ret=>let⟨_,h⟩:=zb h;cases h;exact .put
theorem zcX{d:Nat}{As:List (AV C.D)}{S':St C}:∀{Γ:List (Spec C)},xA Γ S d f As=E (.go S')->Keeps S S' (E d) [] λi=>V (i / 64) (d+1)
 |[],h=>by cases h
 |s::Γ,h=>by
  unfold xA at h;cases hf:(V s.f f && (s.view || s.viewO)) with
  |false=>rw[hf] at h;exact zcX h
  |true=>
   rw[hf,D1] at h;let⟨Bs,h,_⟩:=zbR h;let⟨_,h⟩:=zb h;let⟨T,h,_⟩:=vS h;split at h
   ·rename_i S2 bl x hl;cases hv:s.view with
    |true=>rw[hv] at h;exact zi5 h
    |false=>
     rw[hv] at h;simp only[gf,UR,hv] at hf;exact zi4 (by grind) h
   ·cases h
theorem za0{Γ0:List (Spec C)}{d:Nat}{As:List (AV C.D)}{S':St C}:∀{Γ:List (Spec C)},YI Γ0 Γ S d f As=E (.go S')->WN Γ S d f As=E (l,p)->Keeps S S' (E d) l p
 |[],h,ht=>by cases ht;exact zcX h
 |s::Γ,h,ht=>by
  unfold YI at h;unfold WN at ht;cases hf:V s.f f with
  |false=>rw[hf] at h ht;exact za0 h ht
  |true=>
   rw[hf] at h ht;simp only[D1] at h ht;split at h
   ·rename_i S2 bl x hl;rw[hl] at ht;simp only at ht;cases hv:s.view with
    |true=>
     rw[hv] at h ht;cases ht;simp only[D1] at h;let⟨_,h⟩:=zb h;let⟨r,_,h⟩:=gd h;let⟨e,Sr,h⟩:=XD h;unfold zbf at h;cases e with
     |normal=>cases h
     |exit i=>cases h
     |pan A=>let⟨_,h⟩:=zb h;cases h
     |ret=>let⟨_,h⟩:=zb h;cases h;exact .put
    |false=>
    rw[hv] at h ht;rw[UC] at h ht;cases hv2:s.viewO with
    |true=>
     rw[hv2] at h ht;rw[D1] at h ht;let⟨hc,ht⟩:=zb ht;cases ht;unfold yD at h;let⟨r,_,h⟩:=gd h;let⟨e,Sr,h⟩:=XD h;let⟨_,h⟩:=zb h;unfold Wa at h;let⟨_,h⟩:=zb h;cases e with
     |normal=>cases h
     |exit i=>cases h
     |pan A=>cases h
     |ret=>
      cases h;let⟨o,ho,he⟩:=zak (outs:=s.outs) (r:=r);have hg:YD (yk s.outs r) []=[]:=by cases yk s.outs r<;>rfl
      refine Keeps.trans (.merge (λid hid=>?_) (λid hid=>?_) (λk hk=>?_) ?_ (λid hid=>?_)) (Keeps.trans .unvirt .put)
      ·grind
      ·cases hid
      ·simp only[zbh d k hk,qH]
      ·rw[he];exact Dj (D0.1 hc o ho)
      ·cases hid
    |false=>
    rw[hv2] at h ht;simp only[UC] at h ht;let⟨hc,ht⟩:=zb ht;cases ht;unfold YT at hl;let⟨_,hl⟩:=zb hl;let⟨x',hx,he⟩:=DB.1 hl;cases he;unfold xz at h;let⟨r,_,h⟩:=gd h;let⟨_,h⟩:=zb h;let⟨e,Sr,h⟩:=XD h;unfold Wa at h;let⟨_,h⟩:=zb h;cases e with
    |normal=>cases h
    |exit i=>cases h
    |pan A=>cases h
    |ret=>
     cases h;let⟨o,ho,he⟩:=zak (outs:=s.outs) (r:=r);refine Keeps.trans .virt (Keeps.trans (.prep (g:=s.ins.shift) (m:=0) (λid h=>?_) (λq hq=>?_) (λid hid=>?_) (λid hid=>?_)) (Keeps.trans (.merge (λid hid=>?_) (λid hid=>?_) (λk hk=>?_) ?_ (λid hid=>?_)) (Keeps.trans .unvirt .put)))
     ·simp[Nat.ble_eq,h]
     ·obtain⟨p,hp,rfl⟩:=D6.1 hq;grind
     ·grind
     ·have:=ZV (DC ((s.outs.flatMap λo=>YD o.2.es (Zy s.ins.shift 0 (s.ins.shift.prep 0 (virt S As))))++zb2 (Zy s.ins.shift 0 (s.ins.shift.prep 0 (virt S As)))) hid);grind
     ·have:id∈zgl s.ins.shift 0 (virt S As)++((s.outs.flatMap λo=>YD o.2.es (Zy s.ins.shift 0 (s.ins.shift.prep 0 (virt S As))))++zb2 (Zy s.ins.shift 0 (s.ins.shift.prep 0 (virt S As)))):=DE _ (DC _ (List.mem_flatMap.2 ⟨o,ho,by grind⟩));have:=ZV this;grind
     ·grind
     ·simp only[zbh d k hk,qH,qK,qF]
     ·rw[he];exact Dj (D0.1 hc o ho)
     ·exact ZV (DE _ (DE _ (zfx hid)))
   ·rename_i hl;rw[hl] at ht;exact za0 h ht
theorem zgm{d:Nat}{As:List (AV C.D)}{S':St C}{Γ:List (Spec C)}(h:vv Γ S d f As=E (.go S'))(ht:WN Γ S d f As=E (l,p)):Keeps S S' (E d) l p:=za0 h ht
theorem zfb{d:Nat}{cs:List (AV C.D)}{S':St C}(h:zbI S d cs=E (.go S'))(hp:p (nid d 0)=G):Keeps S S' (E d) l p:=by
 let⟨_,h⟩:=zb h;cases h;exact .new hp
theorem zhG{d:Nat}{t:TypeId}{x:Operand}{S':St C}(h:yY P S d t x hi=E (.go S')):Keeps S S' (E d) (S.op x).hid λi=>zz i (S.op x).hid || V (i / 64) (d+1):=by
 unfold yY at h;split at h
 ·split at h
  ·split at h
   ·rename_i id ex;rw[ex];have hid:zz id (AV.hid (.row (D:=C.D) id))=true:=ZV (by simp[AV.hid]);split at h
    ·let⟨_,h⟩:=zb h;split at h
     ·let⟨q,_,h⟩:=gd h;cases h;exact Keeps.trans (.sub hid (by simp only[hid,qK])) (.new (by simp only[We,qF]))
     ·cases h
    ·cases h
   ·cases h
  ·cases h
 ·cases h
theorem zbi{d:Nat}{ty t:TypeId}{x:Operand}{S':St C}(h:yC P S d ty t x lo hi=E (.go S')):Keeps S S' (E d) (S.op x).hid λi=>zz i (S.op x).hid || V (i / 64) (d+1):=by
 unfold yC at h;split at h
 ·rename_i id ex;let⟨A,_,h⟩:=gd h;cases h;rw[ex];have hid:zz id (AV.hid (.row (D:=C.D) id))=true:=ZV (by simp[AV.hid])
  have:=Keeps.frz (d:=E d) (l:=AV.hid (.row (D:=C.D) id)) (p:=λi=>zz i (AV.hid (.row (D:=C.D) id)) || V (i / 64) (d+1)) [id] (S:=S) (λj hj=>by
   grind)
  exact Keeps.trans this .put
 ·cases h
theorem zxM{q:Opts}{Γ:List (Spec C)}{n:Nat}{o:Oper}{S':St C}(h:VC q Γ P n o S=E (.go S'))(ht:ztB Γ P o S=E (l,p)):Keeps S S' o.dst l p:=by
 let⟨dst,op,ty,ps,af,g⟩:=o;unfold VC at h;unfold ztB at ht;cases dst with
 |none=>
  simp only at h ht |-
  split at h
  ·rename_i t x y;simp only at ht;unfold yv at h;split at h
   ·rename_i ti id off hi ex;rw[ex] at ht;cases ht;split at h
    ·let⟨_,h⟩:=zb h;cases h;exact .ent (by simp)
    ·cases h
   ·rename_i ti id T i off hi ex;rw[ex] at ht;cases ht;refine Keeps.trans (.frz (AV.rows (S.op y)) λj hj=>⟨ZV hj,by rw[ZV hj];simp⟩) ?_;have hx:(S.frz (AV.rows (S.op y))).op x = .pr id T i off\/¬ (S.frz (AV.rows (S.op y))).op x = .pr id T i off:=Classical.em _;have key:∀(S1:St C),(∀id' T' i' off',S1.op x = .pr id' T' i' off'->id'=id)->yv.go x y ti S1=E (.go S')->Keeps S1 S' I (AV.rows (S.op y)) λi=>V i id || zz i (AV.rows (S.op y)):=by
     intro S1 hk h;unfold yv.go at h;split at h
     ·rename_i id' T' i' off' ex';have:=hk _ _ _ _ ex';subst this;split at h
      ·let⟨_,h⟩:=zb h;let⟨q,_,h⟩:=gd h;let⟨q',_,h⟩:=gd h;cases h;exact .ent (by simp)
      ·cases h
     ·cases h
    refine key _ ?_ h;intro id' T' i' off' e';cases x with
    |const v=>exact absurd ex (by cases v<;>(try (intro h;cases h;done))<;>(simp only[St.op,zbC,ZY];grind))
    |global g=>cases ex
    |func f=>cases ex
    |tmp tt=>
     have e1:S.env tt = .pr id T i off:=ex;have e2:(S.frz (AV.rows (S.op y))).env tt = .pr id' T' i' off':=e';have frzpr:∀(r:List Nat) (S1:St C),(∀a b c d,S1.env tt = .pr a b c d->a=id)->(∀R,S1.env tt=R->(∃a b c d,R = .pr a b c d)\/R = .und)->(∀a b c d,(S1.frz r).env tt = .pr a b c d->a=id):=by
      intro r
      induction r with
      |nil=>intro S1 h1 _;exact h1
      |cons j r ih=>
       intro S1 h1 h2;refine ih (S1.frz1 j) ?_ ?_
       ·intro a b c d e;rcases zb1 S1 j with⟨R0,e0⟩ | e0
        ·rw[e0] at e;have e:AV.sub j R0 (S1.env tt)=_:=e;rcases h2 _ rfl with⟨a',b',c',d',h⟩ | h
         ·rw[h] at e;unfold AV.sub at e;cases hb:V a' j with
          |true=>grind
          |false=>grind
         ·rw[h] at e;cases e
        grind
       ·intro R e;rcases zb1 S1 j with⟨R0,e0⟩ | e0
        ·rw[e0] at e;have e:AV.sub j R0 (S1.env tt)=_:=e;rcases h2 _ rfl with⟨a',b',c',d',h⟩ | h
         ·rw[h] at e;unfold AV.sub at e;cases hb:V a' j with
          |true=>grind
          |false=>grind
         ·rw[h] at e;exact .inr e.symm
        grind
     grind
   ·cases h
  ·rename_i t x y z;simp only at ht;let⟨kt,et,id,T,b,s,M,k,h1,h2,ex,h4,h5,h⟩:=WK h;rw[ex] at ht;cases ht;split at h
   ·cases h;exact .ent (by simp)
   ·cases h
  ·rename_i args ts _;simp only at ht;split at h
   ·rename_i x y e;rw[e] at ht;simp only at ht;unfold wH at h;split at h
    ·let⟨kt,et,id,T,b,s,M,k,h1,h2,ex,h4,h5,h⟩:=WK h;rw[ex] at ht;cases ht;cases h;exact .ent (by simp)
    ·cases h
   ·cases h
  ·rename_i x;unfold Xg at h;split at h
   ·let⟨_,h⟩:=zb h;cases h
   ·cases h
  ·cases h
 |some d=>
  simp only at h ht |-
  let⟨_,h⟩:=zb h;unfold xB at h;have pan:∀x,Xg S x=E (.go S')->False:=λx h=>by
   unfold Xg at h;split at h
   ·let⟨_,h⟩:=zb h;cases h
   ·cases h
  split at h
  ·cases ht;unfold Xf at h;split at h
   ·split at h
    ·split at h
     ·let⟨_,h⟩:=zb h;cases h;exact .new (We d)
     ·exact zfb h (We d)
    ·cases h
   ·cases h
  ·cases ht;let⟨_,h⟩:=zb h;rw[qX] at h;split at h
   ·let⟨q,_,h⟩:=gd h;cases h;exact .put
   ·exact zfb h (We d)
  ·cases ht;unfold w6 at h;split at h
   ·split at h
    ·split at h
     ·let⟨_,h⟩:=zb h;let⟨q,_,h⟩:=gd h;let⟨q',_,h⟩:=gd h;cases h;exact .new (We d)
     ·cases h
    ·cases h
   ·cases h
  ·rename_i t m parts;cases ht;unfold Y5 at h;refine Keeps.trans (.frz _ λj hj=>⟨ZV hj,by simp only[ZV hj,qK]⟩) ?_;generalize S.frz _=S1 at h |-
   unfold Y5.go at h;split at h
   ·split at h
    ·split at h
     ·let⟨_,h⟩:=zb h;let⟨q,_,h⟩:=gd h;cases h;exact .new (by simp only[We,qF])
     ·cases h
    ·cases h
   ·cases h
  ·rename_i t x lo hi mx;cases ht;split at h
   ·cases h;exact .put
   ·unfold yZ at h;split at h
    ·cases hq:q.fs with
     |true=>rw[hq,D1] at h;exact zbi h
     |false=>rw[hq,UC] at h;exact zhG h
    ·exact zbi h
    ·cases h
  ·cases ht;split at h
   ·cases h;exact .put
   ·cases h
  ·rename_i c args ts _;simp only at ht;split at h
   ·rename_i f caps ec;rw[ec] at ht;exact zgm (zb h).2 ht
   ·cases h
  ·rename_i x name args ts _;simp only at ht;unfold WM at h;split at h
   ·rename_i t A ex;rw[ex] at ht;simp only at ht;split at h
    ·rename_i f ef;rw[ef] at ht;exact zgm h ht
    ·cases h
   ·cases h
  ·rename_i args ts _;simp only at ht;split at h
   ·rename_i x y t t' e1 e2;rw[e1] at ht;simp only at ht;let⟨_,h⟩:=zb h;unfold yX at h;split at h
    ·split at h
     ·split at h
      ·let⟨_,h⟩:=zb h;split at h
       ·rename_i id ex;rw[ex] at ht;cases ht;have hid:zz id [id]=true:=ZV (by simp);split at h
        ·let⟨_,h⟩:=zb h;let⟨q,_,h⟩:=gd h;let⟨q',_,h⟩:=gd h;cases h;exact Keeps.trans (.sub hid (by grind)) (.new (by simp only[We,qF]))
        ·cases h
       ·rename_i ex;rw[ex] at ht;cases ht;let⟨q,_,h⟩:=gd h;let⟨q',_,h⟩:=gd h;cases h;exact .new (We d)
       ·cases h
      ·cases h
     ·cases h
    ·cases h
   ·cases h
  ·cases ht;unfold Xz at h;split at h
   ·let⟨_,h⟩:=zb h;cases h;exact .new (We d)
   ·cases h
  ·cases ht;let⟨kt,et,id,T,b,s,M,k,h1,h2,ex,h4,h5,h⟩:=WK h;split at h
   ·let⟨_,h⟩:=zb h;cases h;exact .put
   ·cases h
  ·grind
  ·let⟨A,_,h⟩:=DB.1 h;cases h;exact .put
omit [Dfr] in
theorem Keeps.owk{e:Ent C}{d:U7 Nat}(hm:zz (xo id) l=G)(hp:p id=G):Keeps S (S.owk id e) d l p:=by
 have hx:∀i,V i id=G->zz (xo i) l=true:=λi hi=>by rw[ge hi];exact hm
 refine⟨λt _ _ h=>zaj hx h,λj hj h=>?_⟩;show(bif V j id then E e else(S.heap j).map (Ent.knx _))=S.heap j;cases e1:V j id with
 |true=>have:=ge e1;grind
 |false=>
  simp only[UC];cases hs:S.heap j with
  |none=>rfl
  |some en=>
   rw[hs] at h;cases en with
   |row T s=>rfl
   |obj q T b s=>rfl
   |orow T s g=>rfl
   |cell cs=>show E (Ent.cell (AV.knxs _ cs))=_;rw[XW hx h]
def zy5:KN->U7 Nat
 | .st _ _ _=>I
 | .apn d _ _ _ _=>E d
 | .apo d _ _ _ _=>E d
 | .bl d _ _ _ _=>E d
 | .mk d _ _ _=>E d
 | .cy d _ _ _=>E d
theorem zsb{op:Op}{k:KN}(h:xc P S dst op=E k):zy5 k=dst:=by
 unfold xc at h;split at h
 ·cases hc:zfF S _ _ with
  |true=>rw[hc] at h;cases h;rfl
  |false=>grind
 ·split at h
  ·rename_i x y _ _ _ _;cases hc:zfE S x with
   |true=>rw[hc] at h;cases h;rfl
   |false=>
    rw[hc,UC] at h;cases hc2:isO S y with
    |true=>rw[hc2] at h;cases h;rfl
    |false=>grind
  ·cases h
 ·split at h
  ·cases hc:(C.own (YK P _) && zdG (zr (S.op _)) (C.nst (YK P _))) with
   |true=>rw[hc] at h;cases h;rfl
   |false=>grind
  ·cases h
 ·cases hc:C.own (YK P _) with
  |true=>rw[hc] at h;cases h;rfl
  |false=>rw[hc] at h;cases h
 ·split at h<;>cases h;rfl
 ·cases h
def zdu(S:St C):KN->U7 Tch
 | .st _ x y=>(match S.op x with
  | .pr id T _ off=>E (bif Xb off (zr (S.op y)).length (C.nst T) then xo id::AV.rowss (zr (S.op y)) else [],λi=>V i id || zz i (AV.rowss (zr (S.op y))))
  | .nx id _ _ _=>E ([],λi=>V i id)
  |_=>I)
 | .apn d _ _ x _=>(match S.op x with
  | .nx id _ _ _=>E ([xo id,nid d 1],λi=>V i id || V (i / 64) (d+1))
  |_=>I)
 | .apo d _ _ x y=>(match S.op x,S.op y with
  | .row id,.row id2=>E ([id,id2],λi=>zz i [id,id2] || V (i / 64) (d+1))
  | .nils,.row id2=>E ([id2],λi=>zz i [id2] || V (i / 64) (d+1))
  |_,_=>I)
 | .bl d _ _ _ y=>E (AV.rowss (zr (S.op y)),λi=>zz i (AV.rowss (zr (S.op y))) || V (i / 64) (d+1))
 | .mk d _ _ _=>E ([],λi=>V (i / 64) (d+1))
 | .cy _ _ x _=>(match S.op x with
  | .nx id _ _ _=>E ([],λi=>V i id)
  |_=>I)
theorem zhH{D:Nat->Type}:∀{cs:List (AV D)}{k:Nat},cs[k]?=E (.row id)->id∈AV.rowss cs
 |A::cs,0,h=>by
  simp at h;subst h;simp[AV.rowss,AV.rows]
 |A::cs,k+1,h=>by
  have:=zhH (cs:=cs) (k:=k) (by simpa using h);simp only[AV.rowss,U9];grind
 |[],k,h=>by simp at h
theorem zfc{s:Sl (C.D T0)}{g:Own}{i:Int}{cells:List (AV C.D)}{S':St C}(h:wB S id T0 s g i off cells E=E (.go S'))(hx:zz (xo id) l=G)(hp:p id=G)(hr:∀id2,id2∈AV.rowss cells->zz id2 l=G/\p id2=G){d:U7 Nat}:Keeps S S' d l p:=by
 unfold wB at h;simp only[vg] at h;split at h
 ·rename_i id2 hc;split at h
  ·let⟨_,h⟩:=zb h;let⟨q,_,h⟩:=gd h;let⟨g',_,h⟩:=gd h;let⟨q',_,h⟩:=gd h;cases h;let⟨r1,r2⟩:=hr id2 (zhH hc);exact Keeps.trans (.sub r1 r2) (.owk hx hp)
  ·cases h
 ·let⟨q,_,h⟩:=gd h;split at h
  ·let⟨g',_,h⟩:=gd h;let⟨q',_,h⟩:=gd h;cases h;exact .owk hx hp
  ·cases h
 ·cases h
theorem zdv{gid d:Nat}{t:TypeId}{x y:Operand}{S':St C}(h:yX P S d t x y=E (.go S'))(hx:S.op x = .row gid)(hm:zz gid l=G)(hp:p gid=G)(hd:p (nid d 0)=G):Keeps S S' (E d) l p:=by
 unfold yX at h;split at h
 ·split at h
  ·split at h
   ·let⟨_,h⟩:=zb h;rw[hx] at h;simp only at h;split at h
    ·let⟨_,h⟩:=zb h;let⟨_,_,h⟩:=gd h;let⟨_,_,h⟩:=gd h;cases h;exact Keeps.trans (.sub hm hp) (.new hd)
    ·cases h
   ·cases h
  ·cases h
 ·cases h
theorem zy6(d:Nat):V (nid d 1 / 64) (d+1)=true:=by rw[zbh d 1 (by omega)];simp
theorem zoJ{k:KN}{S':St C}(h:WX P S k=E (.go S'))(ht:zdu S k=E (l,p)):Keeps S S' (zy5 k) l p:=by
 cases k with
 |st t x y=>
  simp only[WX] at h;simp only[zdu] at ht;unfold xR XF at h;split at h
  ·rename_i ti id T i off hi ex;rw[ex] at ht;cases ht;split at h
   ·rename_i T' s g hs;let⟨hc,h⟩:=zb h;simp only[gf] at hc;obtain rfl:=ge hc.1;cases hin:Xb off (zr (S.op y)).length (C.nst T) with
    |true=>
     rw[hin] at h;simp only[D1] at h |-
     exact zfc h (by simp[zz]) (by simp) λid2 h2=>⟨by simp[zz,ZV h2],by simp[ZV h2]⟩
    |false=>
     rw[hin] at h;simp only[UC] at h |-
     let⟨q,_,h⟩:=gd h;let⟨q',_,h⟩:=gd h;cases h;exact .ent (by simp)
   ·rename_i T' s hs;let⟨hc,h⟩:=zb h;simp only[gf] at hc;obtain rfl:=ge hc.1;rw[hc.2.2];simp only[D1];exact zfc h (by simp[zz]) (by simp) λid2 h2=>⟨by simp[zz,ZV h2],by simp[ZV h2]⟩
   ·cases h
  ·rename_i ti id T i U k off hi ex;rw[ex] at ht;cases ht;split at h
   ·let⟨_,h⟩:=zb h;let⟨q,_,h⟩:=gd h;split at h
    ·let⟨_,h⟩:=zb h;let⟨_,_,h⟩:=gd h;let⟨_,_,h⟩:=gd h;let⟨_,_,h⟩:=gd h;cases h;exact .ent (by simp)
    ·cases h
   ·cases h
  ·cases h
 |cy d ts x y=>
  simp only[WX] at h;simp only[zdu] at ht;unfold Wl WW at h;split at h
  ·split at h
   ·split at h
    ·rename_i ti id T i id2 T2 i2 hi ex ey;rw[ex] at ht;cases ht;split at h
     ·let⟨_,h⟩:=zb h;let⟨_,_,h⟩:=gd h;let⟨_,_,h⟩:=gd h;split at h
      ·let⟨_,h⟩:=zb h;let⟨_,_,h⟩:=gd h;let⟨_,_,h⟩:=gd h;cases h;exact Keeps.trans (.ent (by simp)) .put
      ·cases h
     ·cases h
    ·cases h
   ·cases h
  ·cases h
 |apn d t t' x y=>
  simp only[WX] at h;simp only[zdu] at ht;have h:=(zb h).2;unfold Wi at h;cases x with
  |const v=>cases h
  |global g=>cases h
  |func f=>cases h
  |tmp tx=>
   simp only at h;split at h
   ·rename_i id T i ex;have ht:(match S.env tx with | .nx id _ _ _=>E ([xo id,nid d 1],λi=>V i id || V (i / 64) (d+1)) | _=>I)=E (l,p):=ht;rw[ex] at ht;cases ht;unfold Wh at h;split at h
    ·let⟨hc,h⟩:=zb h;simp only[gf] at hc;let⟨_,_,h⟩:=gd h;split at h
     ·have k2:=zdv (gid:=nid d 1) (l:=[xo id,nid d 1]) (p:=λi=>V i id || V (i / 64) (d+1)) h (by show upd S.env tx _ tx=_;rw[zp]) (by simp[zz]) (by simp[zy6]) (by simp[We]);refine Keeps.trans ⟨λt ht hd ha=>?_,λj hj _=>?_⟩ k2
      ·show upd S.env tx _ t=S.env t;by_cases e:t=tx
       ·subst e;rw[ex] at ha;simp[AV.avoid,zz] at ha
       ·rw[zq e]
      ·show upd (upd S.heap id _) (nid d 1) _ j=S.heap j;rw[zq λe=>by subst e;simp[zy6] at hj,zq λe=>by subst e;simp at hj]
     ·cases h
    ·cases h
   ·cases h
 |apo d t t' x y=>
  simp only[WX] at h;simp only[zdu] at ht;let⟨_,h⟩:=zb h;unfold Wk WV at h;split at h
  ·split at h
   ·split at h
    ·let⟨_,h⟩:=zb h;split at h
     ·rename_i id2 ey;rw[ey] at ht;split at h
      ·split at h
       ·rename_i id ex;rw[ex] at ht;cases ht;split at h
        ·let⟨_,h⟩:=zb h;let⟨_,_,h⟩:=gd h;let⟨_,_,h⟩:=gd h;cases h;exact Keeps.trans (.sub (by simp[zz]) (by simp[zz])) (Keeps.trans (.sub (by simp[zz]) (by simp[zz])) (.new (by simp[We])))
        ·cases h
       ·rename_i ex;rw[ex] at ht;cases ht;let⟨_,_,h⟩:=gd h;let⟨_,_,h⟩:=gd h;cases h;exact Keeps.trans (.sub (by simp[zz]) (by simp[zz])) (.new (by simp[We]))
       ·cases h
      ·cases h
     ·cases h
    ·cases h
   ·cases h
  ·cases h
 |bl d t i m y=>
  simp only[WX] at h;simp only[zdu] at ht;cases ht;let⟨_,h⟩:=zb h;unfold xT XG at h;split at h
  ·split at h
   ·split at h
    ·let⟨_,h⟩:=zb h;split at h
     ·rename_i id2 hc;split at h
      ·let⟨_,_,h⟩:=gd h;cases h;have hm:=ZV (zhH hc);exact Keeps.trans (.sub hm (by simp[hm])) (.new (by simp[We]))
      ·cases h
     ·cases h
    ·cases h
   ·cases h
  ·cases h
 |mk d t x y=>
  simp only[WX] at h;simp only[zdu] at ht;cases ht;unfold XY wJ at h;split at h
  ·split at h
   ·split at h
    ·let⟨_,h⟩:=zb h;split at h
     ·let⟨_,_,h⟩:=gd h;split at h
      ·let⟨_,h⟩:=zb h;let⟨_,_,h⟩:=gd h;cases h;exact .new (by simp[We])
      ·cases h
     ·cases h
    ·cases h
   ·cases h
  ·cases h
def tch(Γ:List (Spec C))(P:Program)(o:Oper)(S:St C):U7 Tch:=match xc P S o.dst o.op with
 |some k=>zdu S k
 |none=>ztB Γ P o S
theorem zsc{q:Opts}{Γ:List (Spec C)}{n:Nat}{o:Oper}{S':St C}(h:stp q Γ P n o S=E (.go S'))(ht:tch Γ P o S=E (l,p)):Keeps S S' o.dst l p:=by
 unfold stp at h;unfold tch at ht;cases hk:xc P S o.dst o.op with
 |some k=>
  rw[hk] at h ht;let⟨_,h⟩:=zb h;rw[<- zsb hk];exact zoJ h ht
 |none=>rw[hk] at h ht;exact zxM h ht
end
variable [Dfr]
def zbj:List Operand->List Nat
 |[]=>[]
 | .tmp t::r=>t::zbj r
 |_::r=>zbj r
theorem zb3{t:Nat}:∀{l:List Operand},Operand.tmp t∈l->t∈zbj l
 |x::r,h=>by
  rcases De.1 h with h | h
  ·subst h;simp[zbj]
  ·have:=zb3 h;cases x<;>simp[zbj,this]
def wv(ops:Array Oper)(o:Oper):List Nat:=match o.guard with
 |none=>[]
 |some (j,_)=>match(ops[j]?).bind (·.dst) with
  |some d=>[d]
  |none=>[]
def looks(ops:Array Oper)(o:Oper):List Nat:=zbj o.op.operands.toList++wv ops o
def zB(o:Oper):List Nat:=(o.after.toList.filter (qO .any)).map (·.on)
theorem zoK{o:Oper}{e:Edge}(h:e∈o.after)(hb:qO .any e=G):e.on∈zB o:=D6.2 ⟨e,D9.2 ⟨by simpa using h,hb⟩,rfl⟩
def zb4(l cl:List Nat):Bool:=l.all λj=>zz j cl
def zeg:List (Nat×Nat)->Nat->Nat
 |[],_=>0
 |(i,m)::r,j=>bif V i j then m else zeg r j
def Ya(al:List (Nat×Nat)):List Nat->Nat
 |[]=>0
 |j::ds=>qU (qU (qG 1 j) (zeg al j)) (Ya al ds)
section
variable {C:Cod}{ρ:Type}
def zgn(S:St C)(l:List Nat)(dst:U7 Nat)(t:Nat):Bool:=(S.env t).avoid l && (qb t vB && (match dst with | some d=> !V t d | none=>G))
def zgo(ops:Array Oper)(S:St C)(l:List Nat)(p:Nat->Bool)(dst:U7 Nat)(r:Nat):Bool:=match ops[r]? with
 |some q=>(looks ops q).all (zgn S l dst) && ((match q.dst with | some d=>zgn S l dst d | none=>G) && (zfu S q.op).all λid=> !p id && zk9 l (S.heap id))
 |none=>G
def zdw(S:St C)(l:List Nat):St C:={S with env:=λt=>bif zz t l then .und else S.env t}
def zy7(ops:Array Oper):List Nat:=ops.toList.filterMap (·.dst)
def WO(ops:Array Oper)(n:Nat)(cl:List Nat)(taken:List Nat)(i:Nat)(o:Oper):Bool:=match o.dst with
 |none=>G
 |some d=>qb d n && (qb d vB && (!zz d (looks ops o) &&
     ((qy ops.size).all λj=>V j i || (match ops[j]? with
       |none=>G
       |some q=>(bif zz j cl then(!zz j taken || !zz d (looks ops q)) else(!zz d (looks ops q) || zz i (zB q))) && (match q.dst with
           |some d'=> !V d d'
           |none=>G)))))
def flB(C:Cod)(P:Program)(ops:Array Oper)(n j:Nat):Bool:=match ops[j]? with
 |none=>O
 |some o=>(match o.dst,o.op,o.guard with
  |some d,.alloc t,I=>(match P.info? t with
   |some ti=>(match ti.zero with
    |some zv=>(match C.oal t zv.cells.toList with
     |none=>qb d n && (qb d vB && (qy ops.size).all λj'=>V j' j || (match ops[j']? with
         |none=>G
         |some q=>(!zz d (looks ops q) || zz j (zB q)) && (match q.dst with
          |some d'=> !V d d'
          |none=>G)))
     |some _=>O)
    |none=>O)
   |none=>O)
  |_,_,_=>O)
def WP(C:Cod)(P:Program)(ops:Array Oper)(n:Nat):List Nat:=(qy ops.size).filter (flB C P ops n)
def rmL(i:Nat)(l:List Nat):List Nat:=l.filter λj=> !V j i
def zoL(ops:Array Oper)(fl cl:List Nat)(i:Nat):Bool:=(qy ops.size).all λj=>V j i || (zz j fl || (zz j cl || (match ops[j]? with
 |none=>G
 |some q=> !zb4 (zB q) (rmL i fl++cl))))
def zsd(ops:Array Oper)(fl cl:List Nat)(i i2:Nat):Bool:=(qy ops.size).all λj=>(V j i || V j i2) || (zz j fl || (zz j cl || (match ops[j]? with
 |none=>G
 |some q=> !zb4 (zB q) (rmL i (rmL i2 fl)++cl))))
open Classical in
noncomputable def Yc(a b:U7 α):U7 α:=if a=b then a else I
theorem ZI(a:U7 α):Yc a a=a:=by unfold Yc;grind
theorem za1{a b:U7 α}{r:α}(h:Yc a b=E r):a=E r/\b=E r:=by
 unfold Yc at h;grind
def yE(stp:yM C)(tc:Oper->St C->U7 Tch)(P:Program)(n:Nat)(ops:Array Oper)(okB:Bool)(cl taken:List Nat)(m:Nat)(K:XE C->St C->U7 ρ)(i:Nat)(early:Bool)(o:Oper)(run:Bool)(S:St C)(next:St C->List Nat->U7 ρ):U7 ρ:=
 bif early then chk (WO ops n cl taken i o) (bif run then(match o.dst with
     |some d=>chk (rdQ o.op) (ztt P S o.type o.op λA=>next (S.put d A) (i::taken))
     |none=>I)
  else(match o.dst with
   |some d=>next (S.put d (.tup [])) (i::taken)
   |none=>next S (i::taken)))
 else chk okB (bif run then(match tc o S with
     |none=>I
     |some (l,p)=>chk (taken.all λr=>qc m r || zgo ops S l p o.dst r) (stp o S _ λout=>match out with
      | .go S'=>next S' taken
      | .pan v S'=>K (.pan v) (zdw S' (zy7 ops))))
  else chk (taken.all λr=>qc m r || zgo ops S [] (λ_=>O) o.dst r) (match o.dst with
   |some d=>chk (qb d n) (next (S.put d (.tup [])) taken)
   |none=>next S taken))
def xC(stp:yM C)(tc:Oper->St C->U7 Tch)(P:Program)(n:Nat)(ops:Array Oper)(okB:Bool)(i:Nat)(early:Bool)(cl taken:List Nat)(al:List (Nat×Nat))(S:St C)(K:XE C->St C->U7 ρ)(next:List Nat->List Nat->List (Nat×Nat)->St C->U7 ρ):U7 ρ:=match ops[i]? with
    |none=>I
    |some o=>chk (!zz i cl && zb4 (zB o) cl) (match o.guard with
     |none=>yE stp tc P n ops okB cl taken (Ya al (zB o)) K i early o G S λS tk=>next (i::cl) tk ((i,Ya al (zB o))::al) S
     |some (j,want)=>chk (zz j (zB o)) (match(ops[j]?).bind (·.dst) with
      |none=>I
      |some dg=>match S.env dg with
       | .bool q=>if q=G then yE stp tc P n ops okB cl taken (Ya al (zB o)) K i early o want (S.put dg (.bool G)) (λS tk=>next (i::cl) tk ((i,Ya al (zB o))::al) S)
           else yE stp tc P n ops okB cl taken (Ya al (zB o)) K i early o (!want) (S.put dg (.bool O)) (λS tk=>next (i::cl) tk ((i,Ya al (zB o))::al) S)
       | .tup []=>yE stp tc P n ops okB cl taken (Ya al (zB o)) K i early o O S λS tk=>next (i::cl) tk ((i,Ya al (zB o))::al) S
       |_=>I))
def wg(ops:Array Oper)(cl:List Nat)(i:Nat):Bool:=match ops[i]? with
 |some o=> !zz i cl && zb4 (zB o) cl
 |none=>O
noncomputable def ZM(stp:yM C)(tc:Oper->St C->U7 Tch)(P:Program)(n:Nat)(ops:Array Oper):List (Nat×Bool)->List Nat->List Nat->List (Nat×Nat)->St C->(XE C->St C->U7 ρ)->U7 ρ
 |[],cl,taken,al,S,K=>chk (zb4 (qy ops.size) cl) (K .normal S)
 |(i,early)::ord,cl,taken,al,S,K=>bif qb i 4096 then
     (bif wg ops cl i then xC stp tc P n ops (zoL ops (WP C P ops n) cl i) i early cl taken al S K λcl tk al S=>ZM stp tc P n ops ord cl tk al S K
     else ZM stp tc P n ops ord cl taken al S K)
   else bif wg ops cl ((i - 4096) / 64) && wg ops cl ((i - 4096) % 64) then chk (zsd ops (WP C P ops n) cl ((i - 4096) / 64) ((i - 4096) % 64)) (Yc
    (xC stp tc P n ops G ((i - 4096) / 64) O cl taken al S K λcl tk al S=>ZM stp tc P n ops ord cl tk al S K)
    (xC stp tc P n ops G ((i - 4096) % 64) O cl taken al S K λcl tk al S=>ZM stp tc P n ops ord cl tk al S K))
   else ZM stp tc P n ops ord cl taken al S K
end
variable [Dfr]
section
variable {κ:Kp}{C:Cod}{S S1:St C}{n:Nat}{w0:Start}{σ0:FS}{P:Program}{ρ:Type}{ops:Array Oper}{D:Nat->Prop}{Γ:List (Spec C)}{qo:Opts}
def Xm(ops:Array Oper)(S:St C)(q:Oper)(run:Bool):Prop:=match q.guard with
 |none=>run=G
 |some (j,want)=>∃dg,(ops[j]?).bind (·.dst)=E dg/\((∃b,S.env dg = .bool b/\run=(b == want))\/(S.env dg = .tup []/\run=O))
def QV(P:Program)(ops:Array Oper)(S:St C)(q:Oper):Prop:=∃run,Xm ops S q run/\match run with
 |true=>rdQ q.op=G/\∃d,q.dst=E d/\evQ P S q.type q.op=E (S.env d)
 |false=>∀d,q.dst=E d->S.env d = .tup []
theorem Xm.congr(h:Xm ops S q run)(he:∀t∈wv ops q,S1.env t=S.env t):Xm ops S1 q run:=by
 unfold Xm wv at *
 cases hg:q.guard with
 |none=>grind
 |some jw=>
  let⟨j,want⟩:=jw;rw[hg] at h he;simp only at h he |-
  grind
theorem ve{t:Nat}(h:t∈wv ops q):t∈looks ops q:=DE _ h
theorem zdx{ty:TypeId}(he:∀t∈looks ops q,S1.env t=S.env t)(hh:∀id∈zfu S q.op,S1.heap id=S.heap id):evQ P S1 ty q.op=evQ P S ty q.op:=by
 have hop:∀x∈q.op.operands.toList,S.op x=S1.op x:=λx hx=>by
  cases x with
  |tmp t=>exact(he t (DC _ (zb3 hx))).symm
  |const v=>rfl
  |global g=>rfl
  |func f=>rfl
 unfold evQ;split
 ·rename_i t m parts e;rw[e] at hop;have:∀e,Yw S1 e (parts.toList.map (·.2))=Yw S e (parts.toList.map (·.2)):=λe=>zgh (S:=S1) (T:=S) λx hx=>(hop x (by simpa[W] using hx)).symm
  unfold zdp;grind
 ·exact(zns (S:=S) (T:=S1) hop λid hid=>(hh id hid).symm).symm
theorem QV.congr(h:QV P ops S q)(he:∀t∈looks ops q,S1.env t=S.env t)(hd:∀d,q.dst=E d->S1.env d=S.env d)(hh:∀id∈zfu S q.op,S1.heap id=S.heap id):QV P ops S1 q:=by
 let⟨run,hg,h⟩:=h;refine⟨run,hg.congr λt ht=>he t (ve ht),?_⟩;cases run with
 |true=>
  let⟨h1,d,h2,h3⟩:=h;exact⟨h1,d,h2,by rw[zdx he hh,h3,hd d h2]⟩
 |false=>grind
theorem zdy{t:Nat}(hk:Keeps S S1 dst l p)(h:zgn S l dst t=G):S1.env t=S.env t:=by
 simp only[zgn,gf] at h;let⟨h1,h2,h3⟩:=h;refine hk.env t (by rwa [Dd] at h2) (λe=>?_) h1;rw[e] at h3;simp at h3
omit [Dfr] in
theorem QV.keep{r:Nat}(h:QV P ops S q)(hk:Keeps S S1 dst l p)(hq:ops[r]?=E q)(hr:zgo ops S l p dst r=G):QV P ops S1 q:=by
 unfold zgo at hr;rw[hq] at hr;simp only[gf] at hr;let⟨h1,h2,h3⟩:=hr;refine h.congr (λt ht=>zdy hk (D0.1 h1 t ht)) (λd e=>?_) λid hid=>?_
 ·rw[e] at h2;exact zdy hk h2
 ·have:=D0.1 h3 id hid;simp only[gf,Dz] at this;exact hk.heap id this.1 this.2
theorem Xm.wanted(h:Xm ops S q run)(hA:At n w0 σ0 κ S a w):qB q (yielded ops a.tmps)=run:=by
 unfold Xm at h;unfold qB;cases hg:q.guard with
 |none=>grind
 |some jw=>
  let⟨j,want⟩:=jw;rw[hg] at h;simp only at h |-
  let⟨dg,e,h⟩:=h;have hy:=hA.yield e;rcases h with⟨b,h1,h2⟩ | ⟨h1,h2⟩
  ·rw[hy.1 b h1,h2];simp
  grind
theorem At.eqx(h:At n w0 σ0 κ S a w)(e:EqX (λ_=>False) S S1):At n w0 σ0 κ S1 a w:=by
 have:S=S1:=by
  let⟨e1,h1⟩:=S;let⟨e2,h2⟩:=S1;have a1:h1=h2:=e.heap;have a2:e1=e2:=funext λt=>e.env t λh=>h
  rw[a1,a2]
 grind
theorem ztC (hgl:C.gl w0.w σ0) (hΓ:∀s∈Γ,s.OK P) {r:Nat}{So:St C}(hq:ops[r]?=E q) (hA:At n w0 σ0 κ So a w) (hX:EqX D So S) (hv:QV P ops S q) (hl:∀t∈looks ops q,¬ D t) (hn:∀d,q.dst=E d->qb d n=G) 
    (hK:∀S1 a' w',At n w0 σ0 κ S1 a' w'->EqX (λt=>D t/\q.dst≠E t) S1 S->K a' w'):wpOp P ops Q r K a w:=by
 let⟨run,hg,hv⟩:=hv;have hg':Xm ops So q run:=hg.congr λt ht=>hX.env t (hl t (ve ht))
 have hput:∀d A,q.dst=E d->S.env d=A->EqX (λt=>D t/\q.dst≠E t) (So.put d A) S:=λd A e eA=>⟨hX.heap,λt ht=>by
  show upd So.env d A t=S.env t;by_cases h:t=d
  ·subst h;rw[zp,eA]
  · rw[zq h]
    exact hX.env t λhd=>ht ⟨hd,λe'=>h (by grind)⟩⟩
 unfold wpOp;rw[hq];simp only[hg'.wanted hA];cases run with
 |true=>
  simp only[jq];left;let⟨hr,d,hd,he⟩:=hv;let⟨L,b,Z,PV,hAb,hi,hf⟩:=hA;have hev:evQ P So q.type q.op=E (S.env d):=by
   rw[<- he];exact zdx (ops:=ops) (λt ht=>hX.env t (hl t ht)) λid _=>by rw[hX.heap]
  let⟨ν,vs,ids,hAb⟩:=hAb;have hok:=zyZ (P:=P) (n:=n) (w0:=w0) (σ0:=σ0) (q:=⟨O⟩) (Γ:=Γ) (ps:=q.pos) (af:=q.after) (g:=q.guard) hAb (hn d hd) hr hev;have hqe:q=⟨E d,q.op,q.type,q.pos,q.after,q.guard⟩:=by
   cases q;grind
  rw[<- hqe] at hok;refine hok _ rfl a w hi hf K Q ?_ ?_
  ·intro S' e L' Z' PV' a' w' hi' hf' hA';cases e;exact hK _ _ _ ⟨L',b,Z',PV',hA',hi',hf'⟩ (hput d _ hd rfl)
  grind
 |false=>
  simp only[jk,jp];cases hd:q.dst with
  |none=>
   refine hK So _ _ hA ⟨hX.heap,λt ht=>hX.env t λh=>ht ⟨h,by rw[hd];simp⟩⟩
  |some d=>exact hK _ _ _ (hA.skip (hn d hd)) (hput d _ hd (hv d hd))
def WfL(ops:Array Oper):List Nat->Prop
 |[]=>True
 |i::cl=>(∀o,ops[i]?=E o->∀j∈zB o,j∈cl)/\WfL ops cl
def zgp(ops:Array Oper)(al:List (Nat×Nat)):Prop:=∀i m,(i,m)∈al->∀o,ops[i]?=E o->∀X:Nat->Prop,(∀k q,ops[k]?=E q->X k->∀j∈zB q,X j)->(∀j,X j->j < ops.size)->X i->∀a,qc m a=G->X a
theorem ziD:∀{al:List (Nat×Nat)}{j a:Nat},qc (zeg al j) a=G->∃m,(j,m)∈al/\qc m a=G
 |[],j,a,h=>by simp[zeg] at h
 |(i,m)::r,j,a,h=>by
  unfold zeg at h;cases e:V i j with
  |true=>rw[e] at h;have:=ge e;grind
  |false=>
   rw[e] at h;let⟨m',h1,h2⟩:=ziD h;grind
theorem zla{a:Nat}(h:qc (qG 1 j) a=G):a=j:=by
 have h:qc (1 <<< j) a=true:=h;rw[Nat.one_shiftLeft,Nat.testBit_two_pow] at h;grind
theorem zeh{al:List (Nat×Nat)}(hal:zgp ops al)(X:Nat->Prop)(hX:∀k q,ops[k]?=E q->X k->∀j∈zB q,X j)(hin:∀j,X j->j < ops.size):∀{ds:List Nat},(∀j∈ds,X j)->∀a,qc (Ya al ds) a=G->X a
 |[],_,a,h=>by simp[Ya] at h
 |j::ds,hd,a,h=>by
  have h:qc (((qG 1 j) ||| (zeg al j)) ||| (Ya al ds)) a=true:=h;rw[qT,qT,UR,UR] at h;rcases h with(h | h) | h
  ·rw[zla h];grind
  ·let⟨m,h1,h2⟩:=ziD h;have hj:=hd j (by simp);obtain⟨o,ho⟩:∃o,ops[j]?=E o:=⟨ops[j]'(hin j hj),qN _⟩
   exact hal j m h1 o ho X hX hin hj a h2
  ·exact zeh hal X hX hin (λk hk=>hd k (D5 _ hk)) a h
end
variable [Dfr]
abbrev onX(X:Array Bool)(k:Nat):Bool:=X.getD k O
theorem zfy{X:Array Bool}(h:i < X.size):onX (X.setIfInBounds i G) i=true:=by
 unfold onX;rw[UB];simp[h]
theorem Wf{X:Array Bool}(h:i≠k):onX (X.setIfInBounds i G) k=onX X k:=by
 unfold onX;rw[UB,qZ h,<- UB]
theorem Y7{X:Array Bool}(h:onX X k=G):onX (X.setIfInBounds i G) k=true:=by
 by_cases e:i=k
 ·subst e;rcases Nat.lt_or_ge i X.size with z | z
  ·exact zfy z
  grind
 ·rw[Wf e];exact h
theorem YJ{X:Array Bool}(h:onX (X.setIfInBounds i G) k=O):onX X k=false:=by
 cases e:onX X k with
 |false=>rfl
 |true=>rw[Y7 e] at h;cases h
theorem zhI{X:Array Bool}(hi:i < X.size)(h:onX X i=O){fuel:Nat}(hc:X.toList.count O<=fuel+1):(X.setIfInBounds i G).toList.count O<=fuel:=by
 rw[Array.toList_setIfInBounds,List.count_set (by simpa using hi)];have h0:X.toList[i]'(by simpa using hi)=false:=by
  unfold onX at h;rw[UB] at h;grind
 grind
theorem zny{X:Array Bool}(hi:i < X.size)(h:onX X i=O):0 < X.toList.count false:=by
 rw[List.count_pos_iff];have h0:X.toList[i]'(by simpa using hi)=false:=by
  unfold onX at h;rw[UB] at h;grind
 grind
section
variable {Fx:List Nat}{κ:Kp}{C:Cod}{S S':St C}{n:Nat}{w0:Start}{σ0:FS}{P:Program}{ρ:Type}{ops:Array Oper}{Γ:List (Spec C)}{qo:Opts}{cl taken:List Nat}{al:List (Nat×Nat)}{X:Array Bool}
structure Cfg(P:Program)(ops:Array Oper)(n:Nat)(cl taken:List Nat)(al:List (Nat×Nat))(S:St C)(X:Array Bool)(Fx:List Nat):Prop where
 size:X.size=ops.size
 sub:∀i,onX X i=G->i∈cl\/i∈Fx
 fon:∀i∈Fx,onX X i=G/\i ∉ cl
 wf:WfL ops cl
 tk:∀i∈cl,onX X i=O->i∈taken
 inc:∀i∈cl,i < ops.size
 tcl:∀i∈taken,i∈cl
 closed:∀k q,ops[k]?=E q->onX X k=G->∀j∈zB q,onX X j=G
 qv:∀r q,r∈taken->onX X r=O->ops[r]?=E q->QV P ops S q
 ds:∀r q d,r∈taken->onX X r=O->ops[r]?=E q->q.dst=E d->qb d n=G/\d < vB/\d ∉ looks ops q/\∀j o,ops[j]?=E o->j≠r->(onX X j=O->d∈looks ops o->r∈zB o)/\o.dst≠E d
 anc:zgp ops al
def zoM(ops:Array Oper)(taken:List Nat)(X:Array Bool)(t:Nat):Prop:=∃r q,r∈taken/\onX X r=O/\ops[r]?=E q/\q.dst=E t
theorem Cfg.hit(h:Cfg P ops n cl taken al S X Fx)(hi:i∈cl)(hd:∀q,ops[i]?=E q->∀j∈zB q,onX X j=G):Cfg P ops n cl taken al S (X.setIfInBounds i G) Fx where
 size:=by simp[h.size]
 sub k hk:=by
  by_cases e:i=k
  ·grind
  ·rw[Wf e] at hk;exact h.sub k hk
 fon k hk:=⟨Y7 (h.fon k hk).1,(h.fon k hk).2⟩
 wf:=h.wf
 tk k hk ho:=h.tk k hk (YJ ho)
 inc:=h.inc
 tcl:=h.tcl
 closed k q hq hk j hj:=by
  by_cases e:i=k
  ·subst e;exact Y7 (hd q hq j hj)
  ·rw[Wf e] at hk;exact Y7 (h.closed k q hq hk j hj)
 qv r q hr ho hq:=h.qv r q hr (YJ ho) hq
 ds r q d hr ho hq he:=by
  let⟨h1,h2,h3,h4⟩:=h.ds r q d hr (YJ ho) hq he;exact⟨h1,h2,h3,λj o hj hne=>⟨λk=>(h4 j o hj hne).1 (YJ k),(h4 j o hj hne).2⟩⟩
 anc:=h.anc
omit [Dfr] in
theorem zgp.add(h:zgp ops al){o:Oper}(ho:ops[i]?=E o):zgp ops ((i,Ya al (zB o))::al):=by
 intro j m hm q hq Y hY hin hj a ha;rcases De.1 hm with e | e
 ·cases e;rw[ho] at hq;cases hq;exact zeh h Y hY hin (hY i o ho hj) a ha
 ·exact h j m e q hq Y hY hin hj a ha
theorem Cfg.sync(h:Cfg P ops n cl taken al S X Fx){o:Oper}(ho:ops[i]?=E o)(hi:i ∉ cl)(hiF:i ∉ Fx)(hd:∀j∈zB o,j∈cl)(hx:∀j∈zB o,onX X j=G)(hq:∀r q,r∈taken->onX X r=O->ops[r]?=E q->QV P ops S' q):Cfg P ops n (i::cl) taken ((i,Ya al (zB o))::al) S' (X.setIfInBounds i G) Fx where
 size:=by simp[h.size]
 sub k hk:=by
  by_cases e:i=k
  ·subst e;simp
  ·rw[Wf e] at hk;exact(h.sub k hk).imp_left (D5 _)
 fon k hk:=⟨Y7 (h.fon k hk).1,λhm=>by
  rcases De.1 hm with e | e
  ·grind
  ·exact(h.fon k hk).2 e⟩
 wf:=⟨λo' ho' j hj=>by grind,h.wf⟩
 tk k hk hoff:=by
  rcases De.1 hk with e | e
  ·subst e;rw[zfy (by rw[h.size];grind)] at hoff;cases hoff
  ·exact h.tk k e (YJ hoff)
 inc k hk:=by
  rcases De.1 hk with e | e
  ·grind
  ·exact h.inc k e
 tcl k hk:=D5 _ (h.tcl k hk)
 closed k q hq hk j hj:=by
  by_cases e:i=k
  ·subst e;rw[ho] at hq;cases hq;exact Y7 (hx j hj)
  ·rw[Wf e] at hk;exact Y7 (h.closed k q hq hk j hj)
 qv r q hr hoff hq':=hq r q hr (YJ hoff) hq'
 ds r q d hr hoff hq he:=by
  let⟨h1,h2,h3,h4⟩:=h.ds r q d hr (YJ hoff) hq he;exact⟨h1,h2,h3,λj o hj hne=>⟨λk=>(h4 j o hj hne).1 (YJ k),(h4 j o hj hne).2⟩⟩
 anc:=h.anc.add ho
omit [Dfr] in
theorem Cfg.early (h:Cfg P ops n cl taken al S X Fx) {o:Oper}(ho:ops[i]?=E o) (hi:i ∉ cl) (hiF:i ∉ Fx) (hd:∀j∈zB o,j∈cl) (he:WO ops n cl taken i o=G) (hv:QV P ops S' o) (hS:∀t,o.dst≠E t->S'.env t=S.env t) (hh:S'.heap=S.heap) :
    Cfg P ops n (i::cl) (i::taken) ((i,Ya al (zB o))::al) S' X Fx:=by
 have he2:∀d,o.dst=E d->qb d n=G/\d < vB/\d ∉ looks ops o/\∀j q,ops[j]?=E q->j≠i->(j∈cl->j∈taken->d ∉ looks ops q)/\(j ∉ cl->d∈looks ops q->i∈zB q)/\q.dst≠E d:=λd e=>by
  unfold WO at he;rw[e] at he;simp only[gf,Dz] at he;let⟨h1,h2,h3,h4⟩:=he;refine⟨h1,by rwa [Dd] at h2,λhm=>(by rw[zO.2 hm] at h3;cases h3),λj q hj hne=>?_⟩;have:=D0.1 h4 j (DA.2 (UD.1 hj).1);rw[hj] at this;simp only[UR,gf] at this;rcases this with z | ⟨z1,z2⟩
  ·exact absurd (ge z) hne
  · refine⟨λhc ht hm=>?_,λhc hm=>?_,λe'=>?_⟩
    ·rw[zO.2 hc,D1,zO.2 ht,zO.2 hm] at z1;cases z1
    · have:zz j cl=false:=by
        cases e:zz j cl with
        |false=>rfl
        |true=>exact absurd (zO.1 e) hc
      rw[this,UC,zO.2 hm] at z1;exact zO.1 (by simpa using z1)
    ·rw[e'] at z2;simp at z2
 refine⟨h.size,λk hk=>(h.sub k hk).imp_left (D5 _),λk hk=>⟨(h.fon k hk).1,λhm=>(by
  rcases De.1 hm with e | e
  ·grind
  ·exact(h.fon k hk).2 e)⟩,⟨λo' ho' j hj=>by grind,h.wf⟩,λk hk hoff=>?_,λk hk=>?_,λk hk=>?_,h.closed,λr q hr hoff hq=>?_,λr q d hr hoff hq e=>?_,h.anc.add ho⟩
 · rcases De.1 hk with e | e
   ·subst e;simp
   ·exact D5 _ (h.tk k e hoff)
 · rcases De.1 hk with e | e
   ·grind
   ·exact h.inc k e
 · rcases De.1 hk with e | e
   ·subst e;simp
   ·exact D5 _ (h.tcl k e)
 · rcases De.1 hr with e | e
   ·grind
   · have hne:r≠i:=λe'=>hi (e' ▸ h.tcl r e)
     refine(h.qv r q e hoff hq).congr (λt ht=>?_) (λd ed=>?_) λid _=>by rw[hh]
     ·exact hS t λe'=>((he2 t e').2.2.2 r q hq hne).1 (h.tcl r e) e ht
     grind
 · rcases De.1 hr with e' | e'
   · subst e';rw[ho] at hq;cases hq;let⟨h1,h2,h3,h4⟩:=he2 d e;refine⟨h1,h2,h3,λj o' hj hne=>⟨λhoff' hm=>?_,(h4 j o' hj hne).2.2⟩⟩;by_cases hc:j∈cl
     ·exact absurd hm ((h4 j o' hj hne).1 hc (h.tk j hc hoff'))
     grind
   ·exact h.ds r q d e' hoff hq e
theorem ztD:∀{cl:List Nat},WfL ops cl->(∀i∈cl,i < ops.size)->(∃i∈cl,onX X i=O)->∃i q,i∈cl/\onX X i=O/\ops[i]?=E q/\∀j∈zB q,onX X j=G
 |[],_,_,⟨i,h,_⟩=>by cases h
 |i::cl,⟨h1,h2⟩,hin,hex=>by
  by_cases hx:∃i∈cl,onX X i=O
  ·let⟨j,q,k1,k2,k3,k4⟩:=ztD h2 (λj hj=>hin j (D5 _ hj)) hx;grind
  ·have hall:∀j∈cl,onX X j=true:=λj hj=>by
    grind
   let⟨j,hj,hoff⟩:=hex;rcases De.1 hj with e | e
   ·subst e;have hlt:=hin j (by simp);exact⟨j,ops[j],by simp,hoff,qN hlt,λk hk=>hall k (h1 _ (qN hlt) k hk)⟩
   grind
theorem YU(hs:X.size=ops.size) :i∈qx .any ops X↔onX X i=O/\∃o,ops[i]?=E o/\∀j∈zB o,onX X j=true:=by
 rw[mem_ready];constructor
 ·rintro⟨h1,o,h2,h3⟩;have hlt:i < X.size:=by grind
  refine⟨by grind,o,h2,λj hj=>?_⟩;obtain⟨e,he,rfl⟩:=D6.1 hj;grind
 ·rintro⟨h1,o,h2,h3⟩;have hlt:i < X.size:=by grind
  exact⟨by grind,o,h2,λe he hb=>h3 e.on (zoK he hb)⟩
theorem ziE(hall:∀i∈taken,onX X i=G):∀t,¬ zoM ops taken X t:=λt ⟨r,q,h1,h2,_⟩=>by grind
theorem EqX.weaken{D D':Nat->Prop}{So:St C}(h:EqX D So S)(hD:∀t,D t->D' t):EqX D' So S:=⟨h.heap,λt ht=>h.env t λhd=>ht (hD t hd)⟩
theorem AbsL.mask{L:List (Nat×Value)}{b:Nat->Value}{Z:FS}{PV:List Priv}{ν:Val}{vs:Nat->List Value}{ids:List Nat}{So:St C}(h:AbsL κ So ν vs ids L b Z PV)(e:EqX (λt=>t∈l) So S):AbsL κ (zdw S l) ν vs ids L b Z PV:=by
 have hh:(zdw S l).heap=So.heap:=e.heap.symm;have henv:∀t,(zdw S l).env t = .und\/(zdw S l).env t=So.env t:=λt=>by
  show(bif zz t l then AV.und else S.env t)=_\/(bif zz t l then AV.und else S.env t)=_;cases hm:zz t l with
  |true=>exact .inl rfl
  |false=>
   refine .inr (e.env t λhd=>?_).symm;rw[zO.2 hd] at hm;cases hm
 refine⟨⟨h.nd,λid=>by rw[hh];exact h.dom id,by rw[h.pv,hh],λid cs hc=>h.cell id cs (by grind),λt=>?_,h.one⟩,λt=>?_,λid cs hc=>?_,λk hk hs=>have q:=h.keep k hk (by grind);⟨q.1,q.2.1,λhf=>q.2.2 (by grind)⟩⟩
 ·rcases henv t with z | z
  ·rw[z];trivial
  ·rw[z];exact h.env t
 ·rcases henv t with z | z
  ·rw[z];trivial
  ·rw[z,hh];exact h.live t
 ·rw[hh] at hc |-;exact h.livec id cs hc
theorem znz{d:Nat}{A:AV C.D}(h:S.env d=A):S.put d A=S:=by
 unfold St.put;have:upd S.env d A=S.env:=by
  funext t;by_cases e:t=d
  ·subst e;rw[zp,h]
  ·rw[zq e]
 rw[this]
theorem zP.inv {D:Nat->Prop}{x:U7 (Out C)}{out:Out C}(h:zP D x (E out)):∃out',x=E out'/\match out',out with
    | .go S,.go T=>EqX D S T
    | .pan u S,.pan v T=>u=v/\EqX D S T
    |_,_=>False:=by
 match x,out,h with
 |some (.go S),.go T,h=>exact⟨_,rfl,h⟩
 |some (.pan u S),.pan v T,h=>exact⟨_,rfl,h⟩
 |some (.go S),.pan v T,h=>exact h.elim
 |some (.pan u S),.go T,h=>exact h.elim
theorem Y8 {early:Bool}{next:List Nat->List Nat->List (Nat×Nat)->St C->U7 ρ}{K:XE C->St C->U7 ρ}{r:ρ}{stp:yM C}{tc:Oper->St C->U7 Tch}(h:xC stp tc P n ops okB i early cl taken al S K next=E r) :
    ∃o run,ops[i]?=E o/\i ∉ cl/\(∀j∈zB o,j∈cl)/\(∀t∈wv ops o,∃j,j∈zB o/\(ops[j]?).bind (·.dst)=E t)/\Xm ops S o run/\yE stp tc P n ops okB cl taken (Ya al (zB o)) K i early o run S (λS tk=>next (i::cl) tk ((i,Ya al (zB o))::al) S)=E r:=by
 unfold xC at h;split at h
 ·cases h
 · rename_i o ho;let⟨hc,h⟩:=zb h;simp only[gf,Dz] at hc;have h1:i ∉ cl:=λhm=>by rw[zO.2 hm] at hc;cases hc.1
   have h2:∀j∈zB o,j∈cl:=λj hj=>zO.1 (D0.1 hc.2 j hj)
   split at h
   ·rename_i hg;exact⟨o,G,ho,h1,h2,λt ht=>(by unfold wv at ht;grind),(by unfold Xm;rw[hg]),h⟩
   · rename_i j want hg;let⟨hj,h⟩:=zb h;have hj:=zO.1 hj;split at h
     ·cases h
     · rename_i dg hdg;have hgt:∀t∈wv ops o,∃j,j∈zB o/\(ops[j]?).bind (·.dst)=E t:=λt ht=>by
         unfold wv at ht;rw[hg] at ht;grind
       have hgr:∀{run:Bool},((∃b,S.env dg = .bool b/\run=(b == want))\/(S.env dg = .tup []/\run=O))->Xm ops S o run:=λ{run} k=>by
        unfold Xm;grind
       split at h
       · rename_i q e;cases q with
         |true=>
          rw[jv rfl,znz e] at h;exact⟨o,want,ho,h1,h2,hgt,hgr (.inl ⟨G,e,by simp⟩),h⟩
         |false=>
          rw[jx (by simp),znz e] at h;grind
       all_goals grind
theorem zdz{early:Bool}{K:XE C->St C->U7 ρ}{stp:yM C}{tc:Oper->St C->U7 Tch}(hi:qb i 4096=G)(hr:wg ops cl i=G):ZM stp tc P n ops ((i,early)::ord) cl taken al S K=xC stp tc P n ops (zoL ops (WP C P ops n) cl i) i early cl taken al S K λcl tk al S=>ZM stp tc P n ops ord cl tk al S K:=by
 show(bif qb i 4096 then(bif wg ops cl i then _ else _) else _)=_;rw[hi,hr,D1,D1]
theorem zcY{early:Bool}{K:XE C->St C->U7 ρ}{stp:yM C}{tc:Oper->St C->U7 Tch}(hi:qb i 4096=G)(hr:wg ops cl i=O):ZM stp tc P n ops ((i,early)::ord) cl taken al S K=ZM stp tc P n ops ord cl taken al S K:=by
 show(bif qb i 4096 then(bif wg ops cl i then _ else _) else _)=_;rw[hi,hr,D1,UC]
theorem zdA {early:Bool}{K:XE C->St C->U7 ρ}{stp:yM C}{tc:Oper->St C->U7 Tch}(hi:qb i 4096=O):ZM stp tc P n ops ((i,early)::ord) cl taken al S K=(bif wg ops cl ((i - 4096) / 64) && wg ops cl ((i - 4096) % 64) then chk (zsd ops (WP C P ops n) cl ((i - 4096) / 64) ((i - 4096) % 64)) (Yc
      (xC stp tc P n ops G ((i - 4096) / 64) O cl taken al S K λcl tk al S=>ZM stp tc P n ops ord cl tk al S K)
      (xC stp tc P n ops G ((i - 4096) % 64) O cl taken al S K λcl tk al S=>ZM stp tc P n ops ord cl tk al S K))
    else ZM stp tc P n ops ord cl taken al S K):=by
 show(bif qb i 4096 then(bif wg ops cl i then _ else _) else _)=_;rw[hi,UC]
theorem zoN {o:Oper}{K:XE C->St C->U7 ρ}{r:ρ}{stp:yM C}{tc:Oper->St C->U7 Tch}{next:St C->List Nat->U7 ρ}(hg:Xm ops S o run) (hgl:∀t∈wv ops o,o.dst≠E t)
    {okB:Bool} (h:yE stp tc P n ops okB cl taken m K i G o run S next=E r):WO ops n cl taken i o=G/\∃S',next S' (i::taken)=E r/\QV P ops S' o/\(∀t,o.dst≠E t->S'.env t=S.env t)/\S'.heap=S.heap:=by
 unfold yE at h;rw[D1] at h;let⟨he,h⟩:=zb h;refine⟨he,?_⟩;have hlook:∀d,o.dst=E d->d ∉ looks ops o:=λd e hm=>by
  unfold WO at he;rw[e] at he;simp only[gf,Dz] at he;rw[zO.2 hm] at he;cases he.2.2.1
 have hput:∀d A t,o.dst=E d->o.dst≠E t->(S.put d A).env t=S.env t:=λd A t e k=>zq λe'=>k (by rw[e,e'])
 cases run with
 |true=>
  rw[D1] at h;split at h
  · rename_i d hd;let⟨hr,h⟩:=zb h;rw[zxD] at h;let⟨A,hA,h⟩:=gd h;refine⟨_,h,⟨G,hg.congr λt ht=>hput d A t hd (hgl t ht),hr,d,hd,?_⟩,λt k=>hput d A t hd k,rfl⟩;rw[zdx (ops:=ops) (S:=S) (λt ht=>hput d A t hd λe=>?_) λid _=>rfl,hA]
    ·show E A=E (upd S.env d A d);rw[zp]
    grind
  ·cases h
 |false=>
  rw[UC] at h;split at h
  ·rename_i d hd;refine⟨_,h,⟨O,hg.congr λt ht=>hput d _ t hd (hgl t ht),λd' e=>?_⟩,λt k=>hput d _ t hd k,rfl⟩;rw[hd] at e;cases e;exact zp
  ·rename_i hd;exact⟨_,h,⟨O,hg,λd' e=>by grind⟩,λt _=>rfl,rfl⟩
theorem Sep.perm{Z:FS}{A B:List Priv}(p:A.Perm B):∀{h:zc},Sep Z A h->Sep Z B h:=by
 induction p with
 |nil=>grind
 |cons x _ ih=>
  intro h k;let⟨h1,h2,k1,k2,l1,l2,d⟩:=k.uncons;exact .cons k1 (ih k2) l1 l2 d
 |swap x y l=>
  intro h k;let⟨h1,h2,k1,k2,l1,l2,d⟩:=k.uncons;let⟨g1,g2,m1,m2,n1,n2,e⟩:=k2.uncons;have d1:h1.disj g2:=d.mono (.refl _) n2;exact .cons (h2:=h1.or g2) m1 (.cons k1 m2 (zc.le_or _ _) (zc.le_or_right d1) d1) (n1.trans l2) (zc.or_le l1 (n2.trans l2)) ((zc.or_disj (d.mono (.refl _) n1) e.symm).symm)
 |trans _ _ i1 i2=>grind
omit [Dfr] in
structure Home(C:Cod)(w0:Start)(σ0:FS)(st:Start)(σs:FS)(FR:List Priv):Prop where
 home:∀{Z PV w},Inv st σs Z PV w->Inv w0 σ0 Z (PV++FR) w
 gl:C.gl st.w σs
theorem Home.make(hgl:C.gl w0.w σ0){A B:List Priv}{Z:FS}(hi:Inv w0 σ0 Z (A++B) w):∃st,Home C w0 σ0 st Z B/\Inv st Z Z A w:=by
 let⟨gg,hs,hg⟩:=hi.own;let⟨f1,f2,s1,s2,l1,l2,dd⟩:=hs.split;exact⟨⟨w,f1⟩,⟨λ{τ PV w'} k=>hi.call hg s2 l1 l2 dd k,C.glm hi.le hi.ext hgl⟩,.start hi.sub s1 (hg.sub.mono l1) (hg.mono l1).apart⟩
structure Fl where
 i:Nat
 d:Nat
 ad:Addr
 zs:List Value
def frF(F:List Fl):List Priv:=F.map λf =>.cell f.ad f.zs
def zy8(C:Cod)(P:Program)(ops:Array Oper)(n i d:Nat)(zs:List Value):Prop:=
 ∃o t ti zv,ops[i]?=E o/\o.dst=E d/\o.op = .alloc t/\o.guard=I/\P.info? t=E ti/\ti.zero=E zv/\zv.cells.toList=zs/\C.oal t zs=I/\qb d n=G/\d < vB/\∀j q,ops[j]?=E q->j≠i->(d∈looks ops q->i∈zB q)/\q.dst≠E d
theorem zy9(h:i∈WP C P ops n):∃d zs,zy8 C P ops n i d zs:=by
 have h:=(D9.1 h).2;unfold flB at h;split at h
 ·cases h
 ·rename_i o ho;split at h
  ·rename_i d t e1 e2 e3;split at h
   ·rename_i ti hti;split at h
    ·rename_i zv hz;split at h
     ·rename_i hoal;simp only[gf] at h;let⟨h1,h2,h3⟩:=h;refine⟨d,_,o,t,ti,zv,ho,e1,e2,e3,hti,hz,rfl,hoal,h1,by rwa [Dd] at h2,λj q hq hne=>?_⟩;have:=D0.1 h3 j (DA.2 (UD.1 hq).1);rw[hq] at this;simp only[UR,gf,Dz] at this;rcases this with z | ⟨z1,z2⟩
      ·exact absurd (ge z) hne
      ·refine⟨λhm=>?_,λe=>?_⟩
       ·rcases z1 with z | z
        ·rw[zO.2 hm] at z;cases z
        ·exact zO.1 z
       ·rw[e] at z2;simp at z2
     ·cases h
    ·cases h
   ·cases h
  ·cases h
structure FOK(C:Cod)(P:Program)(ops:Array Oper)(n:Nat)(a:Act)(F:List Fl):Prop where
 op:∀f∈F,zy8 C P ops n f.i f.d f.zs
 fl:∀f∈F,f.i∈WP C P ops n
 val:∀f∈F,a.tmps.getD f.d undef = .pointer (E f.ad)
 nd:(F.map Fl.i).Nodup
def flD(ops:Array Oper)(taken:List Nat)(X:Array Bool)(F:List Fl)(t:Nat):Prop:=zoM ops taken X t\/∃f∈F,f.d=t
structure Rl(P:Program)(ops:Array Oper)(n:Nat)(w0:Start)(σ0:FS)(κ:Kp)(taken:List Nat)(X:Array Bool)(F:List Fl)(So S:St C)(a:Act)(w:World):Prop where
 at_:∃st σs,Home C w0 σ0 st σs (frF F)/\At n st σs κ So a w
 eqx:EqX (flD ops taken X F) So S
 fok:FOK C P ops n a F
def zei(ops:Array Oper)(j:Nat)(a a':Act):Prop:=∀t,(∀o,ops[j]?=E o->o.dst≠E t)->a'.tmps.getD t undef=a.tmps.getD t undef
theorem VG{v:Value}{t:Nat}(h:dst≠E t):(a.put dst v).tmps.getD t undef=a.tmps.getD t undef:=by
 cases dst with
 |none=>rfl
 |some d=>
  show(a.tmps.setIfInBounds d v).getD t undef=_;rw[UB,qZ (λe=>h (by rw[e])),<- UB]
theorem znA{o:Oper}(h:o.wp P a w K Q):o.wp P a w (λa' w'=>K a' w'/\∀t,o.dst≠E t->a'.tmps.getD t undef=a.tmps.getD t undef) Q:=by
 unfold qD at *
 generalize (execOp a.eval o).run P w=r at *
 cases r with
 |ok n w'=>
  cases n<;>simp only[qR] at h |-<;>
   first
    |exact⟨h,λt ht=>VG ht⟩
    |exact Calls.mono h (λe w'' he=>by cases e<;>first | exact⟨he,λt ht=>VG ht⟩ | exact he)
    |exact Rows.mono h (λ_ _ he=>⟨he,λt ht=>VG ht⟩)
    |exact h
 |halt x w'=>cases x<;>simp only[qR] at h |-<;>exact h
theorem ziF(h:wpOp P ops Q j K a w):wpOp P ops Q j (λa' w'=>K a' w'/\zei ops j a a') a w:=by
 unfold wpOp zei at *
 cases ho:ops[j]? with
 |none=>grind
 |some o=>
  rw[ho] at h;simp only at h |-
  split
  ·rename_i hw;rw[jv hw] at h;refine h.imp (λh=>qP (λa' w' hk=>⟨hk.1,λt ht=>hk.2 t (ht o rfl)⟩) (znA h)) id
  ·rename_i hw;rw[jx hw] at h;exact⟨h,λt ht=>VG (ht o rfl)⟩
omit [Dfr] in
theorem FOK.next{a':Act}{F:List Fl}(h:FOK C P ops n a F)(ht:zei ops j a a')(hj:∀f∈F,f.i≠j):FOK C P ops n a' F:=
 ⟨h.op,h.fl,λf hf=>by
  let⟨o,t,ti,zv,_,_,_,_,_,_,_,_,_,_,p⟩:=h.op f hf
  rw[ht f.d λq hq=>(p j q hq (hj f hf).symm).2];exact h.val f hf,h.nd⟩
theorem WfL.deps(hq:ops[j]?=E q)(hk:k∈zB q):∀{cl:List Nat},WfL ops cl->j∈cl->k∈cl:=by
 intro cl
 induction cl with
 |nil=>grind
 |cons i cl ih=>
  intro h hj;let⟨h1,h2⟩:=(show(∀o,ops[i]?=E o->∀j∈zB o,j∈cl)/\WfL ops cl from h);rcases De.1 hj with e | e
  all_goals grind
omit [Dfr] in
theorem Cfg.flt(h:Cfg P ops n cl taken al S X Fx){o:Oper}(ho:ops[i]?=E o)(hi:i ∉ cl)(hx:∀j∈zB o,onX X j=G):Cfg P ops n cl taken al S (X.setIfInBounds i G) (i::Fx) where
 size:=by simp[h.size]
 sub k hk:=by
  by_cases e:i=k
  ·grind
  ·rw[Wf e] at hk;exact(h.sub k hk).imp_right (D5 _)
 fon k hk:=by
  rcases De.1 hk with e | e
  ·subst e;exact⟨zfy (by rw[h.size];grind),hi⟩
  ·exact⟨Y7 (h.fon k e).1,(h.fon k e).2⟩
 wf:=h.wf
 tk k hk hoff:=h.tk k hk (YJ hoff)
 inc:=h.inc
 tcl:=h.tcl
 closed k q hq hk j hj:=by
  by_cases e:i=k
  ·subst e;rw[ho] at hq;cases hq;exact Y7 (hx j hj)
  ·rw[Wf e] at hk;exact Y7 (h.closed k q hq hk j hj)
 qv r q hr ho hq:=h.qv r q hr (YJ ho) hq
 ds r q d hr ho hq he:=by
  let⟨h1,h2,h3,h4⟩:=h.ds r q d hr (YJ ho) hq he;exact⟨h1,h2,h3,λj o hj hne=>⟨λk=>(h4 j o hj hne).1 (YJ k),(h4 j o hj hne).2⟩⟩
 anc:=h.anc
theorem Cfg.absorb(h:Cfg P ops n cl taken al S X Fx){Fy:List Nat}{o:Oper}(ho:ops[i]?=E o)(hi:i∈Fx)(hd:∀j∈zB o,j∈cl)(hF:∀k,k∈Fy↔k∈Fx/\k≠i)(hq:∀r q,r∈taken->onX X r=O->ops[r]?=E q->QV P ops S' q):Cfg P ops n (i::cl) taken ((i,Ya al (zB o))::al) S' X Fy where
 size:=h.size
 sub k hk:=by
  rcases h.sub k hk with z | z
  ·grind
  grind
 fon k hk:=by
  let⟨h1,h2⟩:=(hF k).1 hk;refine⟨(h.fon k h1).1,λhm=>?_⟩;rcases De.1 hm with e | e
  ·exact h2 e
  ·exact(h.fon k h1).2 e
 wf:=⟨λo' ho' j hj=>by grind,h.wf⟩
 tk k hk hoff:=by
  rcases De.1 hk with e | e
  ·subst e;rw[(h.fon k hi).1] at hoff;cases hoff
  ·exact h.tk k e hoff
 inc k hk:=by
  rcases De.1 hk with e | e
  ·grind
  ·exact h.inc k e
 tcl k hk:=D5 _ (h.tcl k hk)
 closed:=h.closed
 qv:=hq
 ds:=h.ds
 anc:=h.anc.add ho
theorem zm6{d:Nat}{t:TypeId}:xc P S (E d) (.alloc t)=none:=by unfold xc;rfl
theorem zoO{d:Nat}{t ty:TypeId}:xB qo Γ P d ty S (.alloc t)=Xf P S d t:=by unfold xB;rfl
theorem zoP{d:Nat}{t ty:TypeId}{ps:String}{af:Array Edge}{g:U7 (Nat×Bool)}:stp qo Γ P n ⟨E d,.alloc t,ty,ps,af,g⟩ S=chk (qb d n) (Xf P S d t):=by
 unfold stp;simp only[zm6];unfold VC;simp only[zoO]
theorem zse {o:Oper}{d:Nat}{t:TypeId}{zv:Value}{zs:List Value}{out:Out C}(p2:o.dst=E d) (p3:o.op = .alloc t) (p5:P.info? t=E ti) (p6:ti.zero=E zv) (p7:zv.cells.toList=zs) (p8:C.oal t zs=I) (hs:stp qo Γ P n o S=E out) :
    S.heap (nid d 0)=I/\out = .go {env:=upd S.env d (.pc (nid d 0) 0),heap:=upd S.heap (nid d 0) (E (.cell (zs.map ZY)))}:=by
 let⟨dst,op,ty,ps,af,g⟩:=o;simp only at p2 p3;subst p2 p3 p7;rw[zoP] at hs;let⟨_,hs⟩:=zb hs;unfold Xf at hs;rw[p5] at hs;simp only[p6,p8] at hs;let⟨h0,hs⟩:=zb hs;cases hs;exact⟨Ze h0,rfl⟩
theorem absorb (hgl:C.gl w0.w σ0) {next:List Nat->List Nat->List (Nat×Nat)->St C->U7 ρ}{K:XE C->St C->U7 ρ}{r:ρ}(hdr:xC (Y6 qo Γ P n) (tch Γ P) P n ops okB i O cl taken al S K next=E r) {F:List Fl}(hi:i∈F.map Fl.i) {So:St C}
    (hc:Cfg P ops n cl taken al S X (F.map Fl.i)) (hR:Rl P ops n w0 σ0 κ taken X F So S a w):∃S' So' F' al',next (i::cl) taken al' S'=E r/\Cfg P ops n (i::cl) taken al' S' X (F'.map Fl.i)/\Rl P ops n w0 σ0 κ taken X F' So' S' a w:=by
 let⟨o,run,ho,hicl,hd,hgt,hg,h⟩:=Y8 hdr;obtain⟨f,hf,rfl⟩:=D6.1 hi;obtain⟨F1,F2,rfl⟩:=List.append_of_mem hf;let⟨o',t,ti,zv,p1,p2,p3,p4,p5,p6,p7,p8,p9,p10,p11⟩:=hR.fok.op f hf;rw[ho] at p1;cases p1;have hrun:run=true:=by unfold Xm at hg;grind
 subst hrun;unfold yE at h;rw[UC] at h;let⟨_,h⟩:=zb h;rw[D1] at h;have hdeps:∀k∈zB o,onX X k=true:=hc.closed f.i o ho (hc.fon f.i hi).1
 have hanc:∀r',onX X r'=O->qc (Ya al (zB o)) r'=false:=λr' hr'=>by
  cases e:qc (Ya al (zB o)) r' with
  |false=>rfl
  |true=>
   have this:onX X r'=true:=zeh hc.anc (λk=>onX X k=G) (λk q hk hon=>hc.closed k q hk hon) (λk hk=>by rw[<- hc.size];grind) hdeps r' e;grind
 split at h
 ·cases h
 · rename_i l p htc;let⟨hall,h⟩:=zb h;rw[Vk] at h;let⟨out,hs,h⟩:=gd h;obtain⟨h0,rfl⟩:=zse p2 p3 p5 p6 p7 p8 hs;have hkeep:=zsc hs htc;have hnd:=hR.fok.nd;rw[qJ,UI] at hnd;let⟨hnd1,hnd2⟩:=qV.1 ((List.Perm.nodup_iff qI).1 hnd);refine⟨_,{env:=upd So.env f.d (.pc (nid f.d 0) 0),heap:=upd So.heap (nid f.d 0) (E (.cell (f.zs.map ZY)))},F1++F2,_,h,hc.absorb ho hi hd (λk=>?_) (λr' q' h1 h2 h3=>?_),?_,?_,?_⟩
   · simp only[qJ,UI,U9,De] at hnd1 |-
     constructor
     ·grind
     grind
   ·have:=D0.1 hall r' h1;rw[hanc r' h2,DF] at this;exact(hc.qv r' q' h1 h2 h3).keep hkeep h3 this
   · let⟨st,σs,hh,L,b,Z,PV,⟨ν,vs,ids,hA⟩,hinv,hfi⟩:=hR.at_
     have hi2:Inv w0 σ0 Z ((.cell f.ad f.zs::PV)++frF (F1++F2)) w:=(hh.home hinv).sub_own λg k=>Sep.perm (by
      simp only[frF,qJ,UI,List.cons_append];rw[<- Df,<- Df]
      exact qI) k
     let⟨st',hh',hinv'⟩:=Home.make hgl hi2;refine⟨st',Z,hh',L,b,Z,_,?_,hinv',hfi⟩;have hv:look L b f.d = .pointer (E (f.ad.add 0)):=by rw[<- hfi.get,hR.fok.val f hf];simp[Addr.add]
     refine zy.unput (hA.new (d:=f.d) (by rw[hR.eqx.heap];exact h0) (yL κ f.d 0) (e :=.cell _) (v :=.slice I 0 0) (a:=⟨f.ad,λ_ =>.slice I 0 0⟩) (us:=f.zs) (A :=.pc (nid f.d 0) 0) (u :=.pointer (E (f.ad.add 0))) (λν' h1 h2=>⟨?_,by show nid f.d 0=nid f.d 0;rfl⟩) rfl rfl (λcs hcs=>?_) (by simp[Ent.at,Addr.add])) hv
     ·show Value.pointer (E f.ad) = .pointer (E ((ν'.adr _).a.add 0));rw[h2];simp[Addr.add]
     ·cases hcs;exact⟨xL _,YR _⟩
   · refine⟨?_,λt' ht'=>?_⟩
     ·show upd So.heap _ _=upd S.heap _ _;rw[hR.eqx.heap]
     · show upd So.env _ _ t'=upd S.env _ _ t';by_cases e:t'=f.d
       ·subst e;rw[zp,zp]
       · rw[zq e,zq e];refine hR.eqx.env t' λhD=>ht' ?_
         rcases hD with z | ⟨g,hg1,hg2⟩
         ·exact .inl z
         · refine .inr ⟨g,?_,hg2⟩;rcases U9.1 hg1 with z | z
           ·grind
           · rcases De.1 z with z | z
             all_goals grind
   · have hsub:∀g,g∈F1++F2->g∈F1++f::F2:=λg hg=>by
       rcases U9.1 hg with z | z
       all_goals grind
     exact⟨λg hg=>hR.fok.op g (hsub g hg),λg hg=>hR.fok.fl g (hsub g hg),λg hg=>hR.fok.val g (hsub g hg),by grind⟩
theorem zfd{next:List Nat->List Nat->List (Nat×Nat)->St C->U7 ρ}{K:XE C->St C->U7 ρ}{r:ρ}(hdr:xC (Y6 qo Γ P n) (tch Γ P) P n ops okB i G cl taken al S K next=E r){F:List Fl}(hi:i∈F.map Fl.i)(hF:FOK C P ops n a F):False:=by
 let⟨o,run,ho,hicl,hd,hgt,hg,h⟩:=Y8 hdr;obtain⟨f,hf,rfl⟩:=D6.1 hi;let⟨o',t,ti,zv,p1,p2,p3,p4,_⟩:=hF.op f hf;rw[ho] at p1;cases p1;have hrun:run=true:=by unfold Xm at hg;grind
 subst hrun;unfold yE at h;rw[D1] at h;let⟨_,h⟩:=zb h;rw[D1,p2] at h;let⟨h,_⟩:=zb h;rw[p3] at h;cases h
theorem Rl.done{F:List Fl}{So:St C}(hR:Rl P ops n w0 σ0 κ taken X F So S a w)(hF:F=[])(hp:∀t,¬ zoM ops taken X t):At n w0 σ0 κ S a w:=by
 subst hF;let⟨st,σs,hh,L,b,Z,PV,hA,hinv,hfi⟩:=hR.at_;have:At n w0 σ0 κ So a w:=⟨L,b,Z,PV,hA,by have:=hh.home hinv;simpa[frF] using this,hfi⟩
 exact this.eqx (hR.eqx.weaken λt ht=>by
  rcases ht with z | ⟨f,hf,_⟩
  all_goals grind)
theorem ztE(h:k≠i):(!V k i)=true:=by
 cases e:V k i with
 |true=>exact absurd (ge e) h
 |false=>rfl
theorem zxN (hgl:C.gl w0.w σ0) (hΓ:∀s∈Γ,s.OK P):∀(fuel:Nat) (ord:List (Nat×Bool)) {cl taken:List Nat}{al:List (Nat×Nat)}{S:St C}{K:XE C->St C->U7 ρ}{r:ρ},ZM (Y6 qo Γ P n) (tch Γ P) P n ops ord cl taken al S K=E r->
    ∀{X:Array Bool} {a:Act} {w:World} {So:St C} {F:List Fl},Cfg P ops n cl taken al S X (F.map Fl.i)->X.toList.count O<=fuel->Rl P ops n w0 σ0 κ taken X F So S a w->wpAny P .any ops (Zi n w0 σ0 κ K r) fuel X a w:=by
 intro fuel;have noF:∀{cl:List Nat} {F:List Fl} {taken al} {S:St C} {X:Array Bool} {a:Act},Cfg P ops n cl taken al S X (F.map Fl.i)->FOK C P ops n a F->(∀i,i < ops.size->i∈cl)->F=[]:=by
  intro cl F taken al S X a hc hF hall;cases F with
  |nil=>rfl
  |cons f F=>
   let⟨o,_,_,_,p1,_⟩:=hF.op f (by simp);exact absurd (hall f.i (UD.1 p1).1) (hc.fon f.i (by simp)).2
 induction fuel with
 |zero=>
  intro ord
  induction ord with
  |nil=>
   intro cl taken al S K r h X a w So F hc hn hR;let⟨hall,h⟩:=zb h;have hcl:∀i,i < ops.size->i∈cl:=λi hi=>zO.1 (D0.1 hall i (DA.2 hi))
   have hon:∀i,i < ops.size->onX X i=true:=λi hi=>by
    cases e:onX X i with
    |true=>rfl
    |false=>have:=zny (by rw[hc.size];exact hi) e;omega
   refine⟨?_,S,h,hR.done (noF hc hR.fok hcl) λt ht=>ziE (λi hi=>hon i (hc.inc i (hc.tcl i hi))) t ht⟩;refine List.eq_nil_iff_forall_not_mem.2 λi hi=>?_
   let⟨h1,o,h2,_⟩:=(YU hc.size).1 hi;grind
  |cons io ord ih=>
   intro cl taken al S K r h X a w So F hc hn hR;let⟨i,early⟩:=io;have zero:∀{okB:Bool} {i:Nat} {early:Bool} {next},xC (Y6 qo Γ P n) (tch Γ P) P n ops okB i early cl taken al S K next=E r->i∈F.map Fl.i:=by
    intro okB i early next h
    let⟨o,run,ho,hi,hd,hgt,hg,h⟩:=Y8 h;by_cases hm:i∈F.map Fl.i
    ·exact hm
    exfalso;have hoff:onX X i=false:=by
     cases e:onX X i with
     |false=>rfl
     |true=>exact((hc.sub i e).elim hi hm).elim
    have:=zny (by rw[hc.size];grind) hoff;omega
   cases hb:qb i 4096 with
   |true=>
    cases hrd:wg ops cl i with
    |true=>
     rw[zdz hb hrd] at h;cases early with
     |true=>exact(zfd h (zero h) hR.fok).elim
     |false=>
      let⟨S',So',F',al',h',hc',hR'⟩:=absorb hgl h (zero h) hc hR;grind
    |false=>rw[zcY hb hrd] at h;grind
   |false=>
    rw[zdA hb] at h;cases hrd:wg ops cl ((i - 4096) / 64) && wg ops cl ((i - 4096) % 64) with
    |true=>
     rw[hrd,D1] at h;have h:=(za1 (zb h).2).1;let⟨S',So',F',al',h',hc',hR'⟩:=absorb hgl h (zero h) hc hR;grind
    |false=>rw[hrd,UC] at h;grind
 |succ fuel ihf=>
  intro ord;have setX:∀{taken:List Nat} {X:Array Bool} {F:List Fl} {j:Nat} {t:Nat},j ∉ taken->flD ops taken X F t->flD ops taken (X.setIfInBounds j G) F t:=by
   intro taken X F j t hj ht;rcases ht with⟨r',q',h1,h2,h3,h4⟩ | z
   ·refine .inl ⟨r',q',h1,?_,h3,h4⟩;rw[Wf (by grind)];exact h2
   ·exact .inr z
  have quiet:∀(ord:List (Nat×Bool)) {cl taken:List Nat} {al:List (Nat×Nat)} {S:St C} {K:XE C->St C->U7 ρ} {r:ρ},ZM (Y6 qo Γ P n) (tch Γ P) P n ops ord cl taken al S K=E r->
      ∀{X:Array Bool} {a:Act} {w:World} {So:St C} {F:List Fl},Cfg P ops n cl taken al S X (F.map Fl.i)->X.toList.count O<=fuel+1->Rl P ops n w0 σ0 κ taken X F So S a w->∀{j:Nat},j∈qx .any ops X->j∈cl->
       wpOp P ops (Zi n w0 σ0 κ K r) j (wpAny P .any ops (Zi n w0 σ0 κ K r) fuel (X.setIfInBounds j G)) a w:=by
   intro ord cl taken al S K r h X a w So F hc hn hR j hj hjc;let⟨hoff,q,hq,hdeps⟩:=(YU hc.size).1 hj;have hjt:=hc.tk j hjc hoff;have hlt:j < X.size:=by rw[hc.size];grind
   let⟨st,σs,hh,hA⟩:=hR.at_;have hjF:∀f∈F,f.i≠j:=λf hf e=>(hc.fon f.i (D6.2 ⟨f,hf,rfl⟩)).2 (e ▸ hjc)
   have base:=ztC (w0:=st) (σ0:=σs) (Q:=Zi n w0 σ0 κ K r) (K:=λa' w'=>∃S1,At n st σs κ S1 a' w'/\EqX (λt=>flD ops taken X F t/\q.dst≠E t) S1 S) hh.gl hΓ hq hA hR.eqx (hc.qv j q hjt hoff hq) (λt ht hp=>?_) (λd e=>(hc.ds j q d hjt hoff hq e).1) λS1 a' w' hA' hX'=>⟨S1,hA',hX'⟩
   · refine wpOp_mono ?_ (ziF base);rintro a' w' ⟨⟨S1,hA',hX'⟩,ht⟩;refine ihf ord h (hc.hit hjc λq' hq' k hk=>?_) (zhI hlt hoff hn) ⟨⟨st,σs,hh,hA'⟩,hX'.weaken λt ht=>?_,hR.fok.next ht hjF⟩
     ·grind
     · let⟨ht,hne⟩:=ht;rcases ht with⟨r',q',h1,h2,h3,h4⟩ | z
       · refine .inl ⟨r',q',h1,?_,h3,h4⟩;rw[Wf]
         all_goals grind
       ·exact .inr z
   · rcases hp with⟨r',q',h1,h2,h3,h4⟩ | ⟨f,hf,rfl⟩
     · let⟨_,_,k3,k4⟩:=hc.ds r' q' t h1 h2 h3 h4;by_cases e:j=r'
       ·grind
       grind
     ·let⟨o,_,_,_,_,_,_,_,_,_,_,_,_,_,p⟩:=hR.fok.op f hf;exact(hc.fon f.i (D6.2 ⟨f,hf,rfl⟩)).2 (WfL.deps hq ((p j q hq (hjF f hf).symm).1 ht) hc.wf hjc)
  have float:∀(ord:List (Nat×Bool)) {cl taken:List Nat} {al:List (Nat×Nat)} {S:St C} {K:XE C->St C->U7 ρ} {r:ρ},ZM (Y6 qo Γ P n) (tch Γ P) P n ops ord cl taken al S K=E r->
      ∀{X:Array Bool} {a:Act} {w:World} {So:St C} {F:List Fl},Cfg P ops n cl taken al S X (F.map Fl.i)->X.toList.count O<=fuel+1->Rl P ops n w0 σ0 κ taken X F So S a w->∀{j:Nat},j∈qx .any ops X->j ∉ cl->j∈WP C P ops n->
       wpOp P ops (Zi n w0 σ0 κ K r) j (wpAny P .any ops (Zi n w0 σ0 κ K r) fuel (X.setIfInBounds j G)) a w:=by
   intro ord cl taken al S K r h X a w So F hc hn hR j hj hjc hjf;let⟨hoff,q,hq,hdeps⟩:=(YU hc.size).1 hj;have hlt:j < X.size:=by rw[hc.size];grind
   let⟨d,zs,hfo⟩:=zy9 hjf;let⟨o,t,ti,zv,p1,p2,p3,p4,p5,p6,p7,p8,p9,p10,p11⟩:=id hfo;rw[hq] at p1;cases p1;have hjF:∀f∈F,f.i≠j:=λf hf e=>by
    have:=(hc.fon f.i (D6.2 ⟨f,hf,rfl⟩)).1;grind
   have hjt:j ∉ taken:=λhm=>hjc (hc.tcl j hm)
   let⟨st,σs,hh,L,b,Z,PV,⟨ν,vs,ids,hA⟩,hinv,hfi⟩:=hR.at_;have base:wpOp P ops (Zi n w0 σ0 κ K r) j (λa' w'=>∃c:Addr,Inv st σs Z (.cell c zs::PV) w'/\Fits n ((d,.pointer (E (c.add 0)))::L) b a') a w:=by
    unfold wpOp;rw[hq];have hw:qB q (yielded ops a.tmps)=true:=by unfold qB;rw[p4]
    simp only[hw,jq];left;let⟨dst,op,ty,ps,af,g⟩:=q;simp only at p2 p3 p4;subst p2 p3 p4;refine zkA (w0:=st) (σ0:=σs) (Z:=Z) (PV:=PV) (L:=L) (b:=b) (p:=E ()) (H:=λ_ L' Z' PV'=>∃c:Addr,L'=(d,.pointer (E (c.add 0)))::L/\Z'=Z/\PV' = .cell c zs::PV) p9 p5 p6 p7 (λc=>⟨c,rfl,rfl,rfl⟩) () rfl a w hinv hfi _ _ ?_;grind
   refine wpOp_mono ?_ (ziF base);rintro a' w' ⟨⟨c,hi',hf'⟩,ht⟩
   have hi2:Inv w0 σ0 Z (PV++frF (⟨j,d,c,zs⟩::F)) w':=(hh.home hi').sub_own λg k=>Sep.perm (by
    show(Priv.cell c zs::(PV++frF F)).Perm (PV++(Priv.cell c zs::frF F))
    exact qI.symm) k
   let⟨st',hh',hinv'⟩:=Home.make hgl hi2;refine ihf ord h (F:=⟨j,d,c,zs⟩::F) (So:=So.put d .und) (hc.flt hq hjc hdeps) (zhI hlt hoff hn) ⟨⟨st',Z,hh',_,b,Z,PV,⟨ν,vs,ids,hA.put (v :=.pointer (E (c.add 0))) trivial trivial⟩,hinv',hf'⟩,⟨hR.eqx.heap,λt' ht'=>?_⟩,?_⟩
   · show upd So.env d _ t'=S.env t';by_cases e:t'=d
     ·exact absurd (.inr ⟨_,qE ..,e.symm⟩) ht'
     · rw[zq e];refine hR.eqx.env t' λhD=>ht' ?_
       rcases setX hjt hD with z | ⟨f,hf,hz⟩
       ·exact .inl z
       ·exact .inr ⟨f,D5 _ hf,hz⟩
   · have hn:=hR.fok.next ht hjF;refine⟨λf hf=>?_,λf hf=>?_,λf hf=>?_,?_⟩
     · rcases De.1 hf with z | z
       ·grind
       ·exact hn.op f z
     · rcases De.1 hf with z | z
       ·grind
       ·exact hn.fl f z
     · rcases De.1 hf with z | z
       ·subst z;show a'.tmps.getD d undef=_;rw[hf'.get];show(bif V d d then _ else _)=_;simp[Addr.add]
       ·exact hn.val f z
     ·rw[UI];exact qV.2 ⟨λhm=>by grind,hn.nd⟩
  have real:∀{cl taken:List Nat} {al:List (Nat×Nat)} {S:St C} {K:XE C->St C->U7 ρ} {r:ρ} {okB:Bool} {j:Nat} {o:Oper} {run:Bool} {next:St C->List Nat->U7 ρ},ops[j]?=E o->j ∉ cl->(∀k∈zB o,k∈cl)->Xm ops S o run->yE (Y6 qo Γ P n) (tch Γ P) P n ops okB cl taken (Ya al (zB o)) K j O o run S next=E r->
      ∀{X:Array Bool} {a:Act} {w:World} {So:St C} {F:List Fl},Cfg P ops n cl taken al S X (F.map Fl.i)->X.toList.count O<=fuel+1->Rl P ops n w0 σ0 κ taken X F So S a w->onX X j=O->(∀k∈zB o,onX X k=G)->
      (∀S',next S' taken=E r->∀{X':Array Bool} {a':Act} {w':World} {So':St C} {F':List Fl},Cfg P ops n (j::cl) taken ((j,Ya al (zB o))::al) S' X' (F'.map Fl.i)->X'.toList.count O<=fuel->Rl P ops n w0 σ0 κ taken X' F' So' S' a' w'->wpAny P .any ops (Zi n w0 σ0 κ K r) fuel X' a' w')->
        wpOp P ops (Zi n w0 σ0 κ K r) j (wpAny P .any ops (Zi n w0 σ0 κ K r) fuel (X.setIfInBounds j G)) a w:=by
   intro cl taken al S K r okB j o run next ho hjc hd hg h X a w So F hc hn hR hoff hdeps hnext
   have hlt:j < X.size:=by rw[hc.size];grind
   have hjFm:j ∉ F.map Fl.i:=λhm=>by have:=(hc.fon j hm).1;grind
   have hjF:∀f∈F,f.i≠j:=λf hf e=>hjFm (D6.2 ⟨f,hf,e⟩)
   have hjt:j ∉ taken:=λhm=>hjc (hc.tcl j hm)
   let⟨st,σs,hh,hA⟩:=hR.at_;have hX:=hR.eqx;unfold yE at h;rw[UC] at h;let⟨_,h⟩:=zb h;have hanc:∀r',onX X r'=O->qc (Ya al (zB o)) r'=false:=λr' hr'=>by
    cases e:qc (Ya al (zB o)) r' with
    |false=>rfl
    |true=>
     have:=zeh hc.anc (λk=>onX X k=G) (λk q hk hon=>hc.closed k q hk hon) (λk hk=>by rw[<- hc.size];grind) hdeps r' e;grind
   have hfree:∀t∈looks ops o,¬ flD ops taken X F t:=λt ht hD=>by
    rcases hD with⟨r',q',h1,h2,h3,h4⟩ | ⟨f,hf,rfl⟩
    · let⟨_,_,k3,k4⟩:=hc.ds r' q' t h1 h2 h3 h4;have hne:j≠r':=λe=>hjc (e ▸ hc.tcl r' h1)
      grind
    ·let⟨_,_,_,_,_,_,_,_,_,_,_,_,_,_,p⟩:=hR.fok.op f hf;exact(hc.fon f.i (D6.2 ⟨f,hf,rfl⟩)).2 (hd _ ((p j o ho (hjF f hf).symm).1 ht))
   have hvB:∀t,flD ops taken X F t->t < vB:=λt hD=>by
    rcases hD with⟨r',q',h1,h2,h3,h4⟩ | ⟨f,hf,rfl⟩
    ·exact(hc.ds r' q' t h1 h2 h3 h4).2.1
    ·let⟨_,_,_,_,_,_,_,_,_,_,_,_,_,p,_⟩:=hR.fok.op f hf;exact p
   have hgo:Xm ops So o run:=hg.congr λt ht=>hX.env t (hfree t (ve ht))
   have keep:∀{l p S'},Keeps S S' o.dst l p->(taken.all λr=>qc (Ya al (zB o)) r || zgo ops S l p o.dst r)=G->∀r' q',r'∈taken->onX X r'=O->ops[r']?=E q'->QV P ops S' q':=λhk hall r' q' h1 h2 h3=>by
    have:=D0.1 hall r' h1;rw[hanc r' h2,DF] at this;exact(hc.qv r' q' h1 h2 h3).keep hk h3 this
   have fin:∀{S' S1 a' w'},next S' taken=E r->(∀r' q',r'∈taken->onX X r'=O->ops[r']?=E q'->QV P ops S' q')->At n st σs κ S1 a' w'->EqX (flD ops taken X F) S1 S'->zei ops j a a'->wpAny P .any ops (Zi n w0 σ0 κ K r) fuel (X.setIfInBounds j G) a' w':=λh' hq' hA' hX' ht=>
    hnext _ h' (hc.sync ho hjc hjFm hd hdeps hq') (zhI hlt hoff hn) ⟨⟨st,σs,hh,hA'⟩,hX'.weaken λt ht=>setX hjt ht,hR.fok.next ht hjF⟩
   have tk0:∀{v:Value},zei ops j a (a.put o.dst v):=λ{v} t ht=>VG (ht o ho)
   unfold wpOp;rw[ho];simp only[hgo.wanted hA];cases run with
   |false=>
    simp only[jk,jp];rw[UC] at h;let⟨hall,h⟩:=zb h;split at h
    · rename_i d hdst;let⟨hdn,h⟩:=zb h;have tk1:zei ops j a (a.put (E d) undef):=by grind
      rw[hdst];refine fin h (keep (l:=[]) (p:=λ_=>O) ?_ hall) (hA.skip hdn) ⟨hX.heap,λt ht=>?_⟩ tk1
      ·rw[hdst];exact .put
      · show upd So.env d _ t=upd S.env d _ t;by_cases e:t=d
        ·subst e;rw[zp,zp]
        ·rw[zq e,zq e];exact hX.env t ht
    ·rename_i hdst;rw[hdst];exact fin h (keep (l:=[]) (p:=λ_=>O) (.refl S) hall) hA hX λ_ _=>rfl
   |true=>
    simp only[jq];left;rw[D1] at h;split at h
    ·cases h
    · rename_i l p htc;let⟨hall,h⟩:=zb h;rw[Vk] at h;let⟨out,hs,h⟩:=gd h;have hsx:=zA8 (q:=qo) (Γ:=Γ) (P:=P) (n:=n) (o:=o) hX hvB (λt ht=>hfree t (DC _ (zb3 ht)));rw[hs] at hsx;let⟨out',hs',hrel⟩:=hsx.inv;let⟨L,b,Z,PV,hAb,hinv,hf⟩:=hA;have base:o.wp P a w (λa' w'=>∃S' S1,out = .go S'/\EqX (flD ops taken X F) S1 S'/\At n st σs κ S1 a' w') (Zi n w0 σ0 κ K r):=by
        refine zk1 hΓ n κ st σs hh.gl o So L b Z PV hAb _ hs' a w hinv hf _ _ ?_ ?_
        · intro S1 e L' Z' PV' a' w' hi' hf' hA';subst e;cases out with
          |pan v T=>grind
          |go S'=>exact⟨S',S1,rfl,hrel,L',b,Z',PV',hA',hi',hf'⟩
        · intro v S1 e u Z' PV' w' hi' hA' hp;subst e;cases out with
          |go S'=>grind
          |pan v' S'=>
           obtain⟨rfl,hrel⟩:=hrel;let⟨ν,vs,ids,hA'⟩:=hA';have hi3:Inv w0 σ0 Z' PV' w':=(hh.home hi').sub_own λg k=>by
            let⟨f1,f2,s1,s2,l1,l2,dd⟩:=k.split;exact s1.mono (.refl _) l1
           refine⟨v,_,h,u,L,b,Z',PV',rfl,hp,⟨ν,vs,ids,hA'.mask (hrel.weaken λt hD=>?_)⟩,hi3,hf⟩;rcases hD with⟨r',q',h1,h2,h3,h4⟩ | ⟨f,hf,rfl⟩
           ·exact qW.2 ⟨q',UW (by rw[qY];exact h3),h4⟩
           ·let⟨q',_,_,_,p1,p2,_⟩:=hR.fok.op f hf;exact qW.2 ⟨q',UW (by rw[qY];exact p1),p2⟩
      refine qP ?_ (znA base);rintro a' w' ⟨⟨S',S1,rfl,hrel',hA'⟩,ht⟩;exact fin h (keep (zsc hs htc) hall) hA' hrel' λt ht'=>ht t (ht' o ho)
  induction ord with
  |nil=>
   intro cl taken al S K r h X a w So F hc hn hR;have h0:=h;let⟨hall,h⟩:=zb h;have hcl:∀i,i < ops.size->i∈cl:=λi hi=>zO.1 (D0.1 hall i (DA.2 hi))
   refine⟨λhr=>?_,λj hj=>quiet [] h0 hc hn hR hj (hcl j ?_)⟩
   · have hon:∀i∈taken,onX X i=true:=λi hi=>by
       cases e:onX X i with
       |true=>rfl
       |false=>
        let⟨k,q,k1,k2,k3,k4⟩:=ztD hc.wf hc.inc ⟨i,hc.tcl i hi,e⟩;have:k∈qx .any ops X:=(YU hc.size).2 ⟨k2,q,k3,k4⟩;grind
     exact⟨S,h,hR.done (noF hc hR.fok hcl) λt ht=>ziE hon t ht⟩
   ·let⟨_,q,hq,_⟩:=(YU hc.size).1 hj;grind
  |cons io ord ih=>
   intro cl taken al S K r h X a w So F hc hn hR;let⟨i,early⟩:=io;have h0:=h;have some_ready:∀{i:Nat} {o:Oper},ops[i]?=E o->i ∉ cl->i ∉ F.map Fl.i->(∀k∈zB o,k∈cl)->qx .any ops X=[]->False:=by
    intro i o ho hi hiF hd hr;have hoff:onX X i=false:=by
     cases e:onX X i with
     |false=>rfl
     |true=>exact((hc.sub i e).elim hi hiF).elim
    by_cases hx:∃k∈cl,onX X k=O
    ·let⟨k,q,k1,k2,k3,k4⟩:=ztD hc.wf hc.inc hx;have:k∈qx .any ops X:=(YU hc.size).2 ⟨k2,q,k3,k4⟩;grind
    · have:i∈qx .any ops X:=(YU hc.size).2 ⟨hoff,o,ho,λk hk=>by
        grind⟩
      grind
   have dn:∀{i k:Nat},i ∉ F.map Fl.i->onX X k=G->k∈cl\/(k∈WP C P ops n/\k≠i):=λ{i k} hiF hk=>by
    rcases hc.sub k hk with z | z
    ·exact .inl z
    ·let⟨f,hf,e⟩:=D6.1 z;exact .inr ⟨e ▸ hR.fok.fl f hf,λe'=>hiF (e' ▸ z)⟩
   cases hb:qb i 4096 with
   |false=>
    rw[zdA hb] at h;cases hrd:wg ops cl ((i - 4096) / 64) && wg ops cl ((i - 4096) % 64) with
    |false=>rw[hrd,UC] at h;grind
    |true=>
    rw[hrd,D1] at h;let⟨hchk,h⟩:=zb h;generalize (i - 4096) / 64=i1 at h hchk;generalize (i - 4096) % 64=i2 at h hchk;let⟨g1,g2⟩:=za1 h;by_cases hF1:i1∈F.map Fl.i
    ·let⟨S',So',F',al',h',hc',hR'⟩:=absorb hgl g1 hF1 hc hR;grind
    by_cases hF2:i2∈F.map Fl.i
    ·let⟨S',So',F',al',h',hc',hR'⟩:=absorb hgl g2 hF2 hc hR;grind
    let⟨o1,run1,ho1,hi1,hd1,_,hg1,s1⟩:=Y8 g1;let⟨o2,run2,ho2,hi2,hd2,_,hg2,s2⟩:=Y8 g2;refine⟨λhr=>(some_ready ho1 hi1 hF1 hd1 hr).elim,λj hj=>?_⟩;by_cases hjc:j∈cl
    ·grind
    · obtain ⟨hjoff,q,hq,hdeps⟩:=(YU hc.size).1 hj;have hji:(j=i1\/j=i2)\/j∈WP C P ops n:=by
        have:=D0.1 hchk j (DA.2 (UD.1 hq).1);rw[hq] at this;simp only[UR,Dz] at this;rcases this with(z | z) | z | z | z
        ·exact .inl (.inl (ge z))
        ·exact .inl (.inr (ge z))
        ·exact .inr (zO.1 z)
        ·exact absurd (zO.1 z) hjc
        · exfalso
          have:zb4 (zB q) (rmL i1 (rmL i2 (WP C P ops n))++cl)=true:=D0.2 λk hk=>zO.2 (by
           rcases dn hF1 (hdeps k hk) with z | ⟨z1,z2⟩
           ·grind
           · rcases dn hF2 (hdeps k hk) with z | ⟨z3,z4⟩
             ·grind
             ·exact DC _ (D9.2 ⟨D9.2 ⟨z1,ztE z4⟩,ztE z2⟩))
          grind
      rcases hji with(e | e) | e
      ·subst e;grind
      ·subst e;grind
      grind
   |true=>
   cases hrd:wg ops cl i with
   |false=>rw[zcY hb hrd] at h;grind
   |true=>
   rw[zdz hb hrd] at h;cases early with
   |true=>
    have hiF:i ∉ F.map Fl.i:=λhm=>zfd h hm hR.fok
    let⟨o,run,ho,hi,hd,hgt,hg,h⟩:=Y8 h;have hoff:onX X i=false:=by
     grind
    have hearly:WO ops n cl taken i o=true:=by
     unfold yE at h;rw[D1] at h;exact(zb h).1
    have hgl:∀t∈wv ops o,o.dst≠E t:=λt ht e=>by
     unfold WO at hearly;rw[e] at hearly;simp only[gf,Dz] at hearly;rw[zO.2 (ve ht)] at hearly;grind
    let⟨he,S',h,hv,hS,hh⟩:=zoN hg hgl h;refine ih h (hc.early ho hi hiF hd he hv hS hh) hn ⟨hR.at_,⟨hR.eqx.heap.trans hh.symm,λt ht=>?_⟩,hR.fok⟩;have hne:o.dst≠E t:=λe=>ht (.inl ⟨i,o,by simp,hoff,ho,e⟩)
    rw[hS t hne];refine hR.eqx.env t λhD=>ht ?_
    rcases hD with⟨r',q',h1,h2⟩ | z
    ·exact .inl ⟨r',q',D5 _ h1,h2⟩
    ·exact .inr z
   |false=>
    by_cases hiF:i∈F.map Fl.i
    ·let⟨S',So',F',al',h',hc',hR'⟩:=absorb hgl h hiF hc hR;grind
    let⟨o,run,ho,hi,hd,hgt,hg,h⟩:=Y8 h;have honly:zoL ops (WP C P ops n) cl i=true:=by
     unfold yE at h;rw[UC] at h;exact(zb h).1
    refine⟨λhr=>(some_ready ho hi hiF hd hr).elim,λj hj=>?_⟩;by_cases hjc:j∈cl
    ·grind
    · obtain ⟨hjoff,q,hq,hdeps⟩:=(YU hc.size).1 hj;have hji:j=i\/j∈WP C P ops n:=by
        have:=D0.1 honly j (DA.2 (UD.1 hq).1);rw[hq] at this;simp only[UR,Dz] at this;rcases this with z | z | z | z
        ·exact .inl (ge z)
        ·exact .inr (zO.1 z)
        ·exact absurd (zO.1 z) hjc
        · exfalso
          have:zb4 (zB q) (rmL i (WP C P ops n)++cl)=true:=D0.2 λk hk=>zO.2 (by
           rcases dn hiF (hdeps k hk) with z | ⟨z1,z2⟩
           ·grind
           ·exact DC _ (D9.2 ⟨z1,ztE z2⟩))
          grind
      rcases hji with e | e
      ·grind
      grind
theorem zm7(hgl:C.gl w0.w σ0)(hΓ:∀s∈Γ,s.OK P){K:XE C->St C->U7 ρ}{r:ρ}(h:ZM (Y6 qo Γ P n) (tch Γ P) P n ops ord [] [] [] S K=E r)(hm:P.follows .mixedOrders=G)(hA:At n w0 σ0 κ S a w):(Code.region id ops G).wp P (Zi n w0 σ0 κ K r) a w:=by
 refine wp_region_any hm ?_;let⟨L,b,Z,PV,hAb,hi,hf⟩:=hA;have h0:∀i,onX (qM ops.size O) i=false:=λi=>by
  unfold onX;rw[UB];cases e:(qM ops.size O)[i]? with
  |none=>rfl
  |some v=>grind
 refine zxN hgl hΓ _ _ h (X:=qM ops.size O) (F:=[]) ⟨by simp,λi hi=>(by grind),λi hi=>(by cases hi),trivial,λi hi=>(by cases hi),λi hi=>(by cases hi),λi hi=>(by cases hi),λk q _ hk=>(by grind),λr q hr=>(by cases hr),λr q d hr=>(by cases hr),λi m hm=>(by cases hm)⟩ ?_ ⟨⟨w0,σ0,⟨λk=>by simpa[frF] using k,hgl⟩,L,b,Z,PV,hAb,hi.drew,hf⟩,⟨rfl,λ_ _=>rfl⟩,⟨λf hf=>(by cases hf),λf hf=>(by cases hf),λf hf=>(by cases hf),List.nodup_nil⟩⟩;grind
end
end
end Go.Px
