/- Part A5. -/
import Derived.Test.YtlhommikjhhmbaaGreatDoorA4
set_option linter.unusedSectionVars false
set_option linter.unusedVariables false
set_option linter.unusedSimpArgs false
namespace Go.Px
open _root_.Array renaming mem_toList_iff->qA,replicate->qL,getElem?_eq_getElem->qM,getElem?_toList->qW,getElem?_setIfInBounds_ne->qX
open Bool renaming true->G,false->O,or_true->qG,true_or->qK,cond_eq_ite->qV
open Go.Call renaming operands->qk
open Go.Op renaming operands->W,slice->qR
open Go.Oper renaming wp->qD,wp_mono->qO,upon_enter->qP,upon->qQ
open Go.Region renaming ready->qx,wanted->qB,binds->qN
open List renaming range->qy,mem_cons_self->qE,mem_append_right->qF,perm_middle->qJ,mem_filterMap->qU
open Nat renaming beq->V,blt->qb,testBit->qc,ble->qs,shiftLeft->qH,beq_refl->qI,testBit_or->qS,lor->qT
open _root_.Option renaming some->E,none->I,map->qC
variable{K:Act->World->Prop}{Q:Exit->Act->World->Prop}{T0 e f i id j k m off:Nat}{a:Act}{bl:Bl}{dst:U3 Nat}{es:List ESh}{hi lo:U3 Operand}{ins:Sig}{l:List Nat}{okB run:Bool}{ord:List (Nat×Bool)}{p:Nat->Bool}{q:Oper}{s:Sh}{ti:TypeInfo}{ts:Array TypeId}{w:World}{α:Type}
section
theorem DC:∀(b:Bool),(O || b)=b:=@Bool.false_or
theorem DB:∀{α:Type _}{a:α}{«as»:List α}(bs:List α),a∈«as»->a∈«as»++bs:=@List.mem_append_left
variable [Dfr]
section
variable {κ:Kp}{C:Cod}{S:St C}{ν:Val}{vs:Nat->List Value}{ids:List Nat}{L:List (Nat×Value)}{b:Nat->Value}{Z:FS}{PV:List Priv}{P:Program}
variable {n:Nat}{w0:Start}{σ0:FS}
def lent:Op->U3 (Operand×List Operand)
 | .call ⟨.value c,args,_⟩=>E (c,args.toList)
 |_=>I
def Xh(S:St C)(x:Operand):U3 (Out C):=match S.op x with
 | .ifc t A=>chk (A.base || A.flat) (E (.pan (.ifc t A) S))
 |_=>I
structure Opts where
 fs:Bool
def Ye(q:Opts)(P:Program)(S:St C)(d:Nat)(ty t:TypeId)(x:Operand)(lo hi c:U3 Operand):U3 (Out C):=match lo,c with
 |none,I=>bif q.fs then yH P S d ty t x I hi else Yd P S d t x hi
 |some lo,I=>yH P S d ty t x (E lo) hi
 |_,_=>I
def Xi{D:Nat->Type}(args:List (AV D)):List (AV D)->List (AV D)
 |[.tup ws]=>ws++args
 |caps=>args++caps
def wS(args:List Value):List Value->List Value
 |[.tuple a]=>a.toList++args
 |vs=>args++vs
theorem zoj {Z:FS}{ν:Val}{p:Nat->Prop}(H:∀i,(ν.hdr i).oneCell'=G) {args c:List Value}{As caps:List (AV C.D)}(U:zdd caps=G) (Y:VRs C Z ν args As) (h:VRs C Z ν c caps) (M:AV.oks p As) (r:AV.oks p caps) :
    VRs C Z ν (wS args c) (Xi As caps)/\AV.oks p (Xi As caps)/\∃F N:Array Value,zaW f c = .func (.func f) F N/\(F++args.toArray)++N=(wS args c).toArray:=by
 have plain:(∀v∈c,v.oneCell'=G)\/c.length≠1->Xi As caps=As++caps->VRs C Z ν (wS args c) (Xi As caps)/\AV.oks p (Xi As caps)/\∃F N:Array Value,zaW f c = .func (.func f) F N/\(F++args.toArray)++N=(wS args c).toArray:=by
  intro h1 h2;have e1:wS args c=args++c:=by
   unfold wS;split
   · rename_i a;rcases h1 with h1 | h1
     ·have:=h1 (.tuple a) je;cases this
     grind
   ·rfl
  have e2:zaW f c = .func (.func f) #[] c.toArray:=by
   unfold zaW;split
   · rename_i a;rcases h1 with h1 | h1
     ·have:=h1 (.tuple a) je;cases this
     grind
   ·rfl
  rw[e1,h2];exact⟨Y.append h,AV.oks_append M r, #[],c.toArray,e2,je⟩
 match c,caps,h with
 |[],[],h=>exact plain (.inl λv hv=>by cases hv) rfl
 |[v],[A],h=>
   by_cases ht:∃R,A = .tup R
   ·obtain⟨R,rfl⟩:=ht;let⟨us,e,h2⟩:=h.1;subst e;exact⟨h2.append Y,AV.oks_append r.1 M,us.toArray, #[],rfl,by simp[wS]⟩
   · have hl:A.leaf=true:=by
       unfold zdd at U;split at U
       ·grind
       all_goals grind
     refine plain (.inl λu hu=>by rw[Dz.1 hu];exact h.1.one hl H) ?_;unfold Xi;grind
 |u::v::l,A::B::cs,h=>exact plain (.inr je) (by cases A<;>rfl)
 |[v],A::B::cs,h=>exact h.2.elim
 |u::v::l,[A],h=>exact h.2.elim
def zef(P:Program)(t:TypeId)(c:String):U3 FuncId:=match P.info? t,P.underlying t with
 |some ti,E (.pointer _)=>(match ti.methods.find? (·.name == c) with
  |some m=>(match m.path.toList,m.func with
   |[],E (f,G)=>E f
   |_,_=>I)
  |none=>I)
 |_,_=>I
theorem zq3{t:TypeId}{c:String}{f:FuncId}(h:zef P t c=E f){v:Value}{args:Array Value}:(callMethod (.iface t v) c args).run P w=(callFunc f (#[v]++args)).run P w:=by
 unfold zef at h;split at h
 ·rename_i ti e hi B;split at h
  ·rename_i m F;split at h
   ·rename_i H hp u;cases h;have r:∃k,P.types.size+Made.depth=k+1:=⟨P.types.size+Made.depth - 1,by unfold Made.depth;omega⟩
    let⟨k,r⟩:=r;simp only[callMethod,UW,UY,UX,r];simp[method,typeInfo,hi,F,hp,follow,u,receiverAt,UV B,Place.get,Result.andThen]
   ·cases h
  ·cases h
 ·cases h
def WT(Γ:List (Spec C))(P:Program)(S:St C)(d:Nat)(x:Operand)(c:String)(args:Array Operand):U3 (Out C):=match S.op x with
 | .ifc t A=>(match zef P t c with
  |some f=>vE Γ S d f (A::args.toList.map S.op)
  |none=>I)
 |_=>I
def xC(q:Opts)(Γ:List (Spec C))(P:Program)(d:Nat)(ty:TypeId)(S:St C):Op->U3 (Out C)
 | .alloc t=>Xg P S d t
 | .box t x=>chk (YU (S.op x)) (bif C.bz t then zqV S d t (zt (S.op x)) else zbJ S d (zt (S.op x)))
 | .makeSlice t x y=>Wa P S d t x y
 | .buildSlice t m h=>Y8 P S d t m h.toList
 | .slice t x lo hi u=>match yG P S ty (.slice t x lo hi u) with
  |some A=>E (.go (S.put d A))
  |none=>Ye q P S d ty t x lo hi u
 | .convert t t' x=>match yG P S ty (.convert t t' x) with
  |some A=>E (.go (S.put d A))
  |none=>I
 | .call ⟨.value c,args,_⟩=>match S.op c with
  | .clo f caps=>chk (zdd caps) (vE Γ S d f (Xi (args.toList.map S.op) caps))
  |_=>I
 | .call ⟨.invoke x r,args,_⟩=>WT Γ P S d x r args
 | .call ⟨.builtin .append,args,ts⟩=>match args.toList,ts.toList with
  |[x,y],[t,t']=>chk (V t t') (Yc P S d t x y)
  |_,_=>I
 | .makeMap t I=>Xz S d t
 | .lookup t x y O=>zga P S d t x y
 | .panic x=>Xh S x
 |op=>(yG P S ty op).map λA =>.go (S.put d A)
def VF(q:Opts)(Γ:List (Spec C))(P:Program)(n:Nat)(o:Oper)(S:St C):U3 (Out C):=match o.dst with
 |some d=>chk (qb d n) (xC q Γ P d o.type S o.op)
 |none=>match o.op with
  | .store t x y=>yx P S t x y
  | .mapUpdate t x y z=>zbO P S t x y z
  | .call ⟨.builtin .delete,args,ts⟩=>(match args.toList with
   |[x,y]=>wI P S ts x y
   |_=>I)
  | .panic x=>Xh S x
  |_=>I
theorem zkM (h:AbsL κ S ν vs ids L b Z PV) {x:Operand}{ty:TypeId}{ps:String}{af:Array Edge}{g:U3 (Nat×Bool)} :
    OpA κ P n w0 σ0 ⟨dst,.panic x,ty,ps,af,g⟩ (Xh S x) L b Z PV:=by
 intro out c a w hi H K Q R M;have v:=h.op x;unfold Xh at c;split at c
 · rename_i t A e;let⟨hb,c⟩:=zb c;cases c;rw[e] at v;have B:∀p:Nat->Prop,(AV.ifc t A).ok p:=λp=>by
     rcases(UO _ _).mp hb with hb | hb
     ·exact Vm (A :=.ifc t A) hb
     ·exact WS (A :=.ifc t A) hb
   let⟨u,N,F⟩:=v;have r:(execOp a.eval ⟨dst,.panic x,ty,ps,af,g⟩).run P w = .halt (.panic (.iface t u)) w:=by
    rw[H.eval];show(execOp (opv L b) ⟨dst,.panic x,ty,ps,af,g⟩).run P w=_;simp only[execOp,N];rfl
   unfold qD;rw[r];refine M _ _ rfl (.iface t u) Z PV w hi ⟨ν,vs,ids,h⟩ ⟨B _,λν' _=>VR.congr (ν:=ν) (p:=λ_=>False) (λ_ h=>h.elim) (B _) ⟨u,rfl,F⟩⟩
 ·cases c
theorem zwB (hgl:C.gl w0.w σ0) {Γ:List (Spec C)}(R:∀s∈Γ,s.OK P) (h:AbsL κ S ν vs ids L b Z PV) {c:Operand}{args:Array Operand}{d:Nat}(hn:qb d n=G) {ty:TypeId}{ps:String}{af:Array Edge}{g:U3 (Nat×Bool)}{f:FuncId}{caps:List (AV C.D)}(hc:S.op c = .clo f caps) :
    OpA κ P n w0 σ0 ⟨E d,.call ⟨.value c,args,ts⟩,ty,ps,af,g⟩ (chk (zdd caps) (vE Γ S d f (Xi (args.toList.map S.op) caps))) L b Z PV:=by
 intro out N a w hi hf K Q hK hP;let⟨u,N⟩:=zb N;have H:=h.op c;have F:=h.oks_op c;rw[hc] at H F;let⟨cvs,e1,e2⟩:=H;have U:AV.oks (λid=>(S.heap id).isSome=G) (args.toList.map S.op):=AV.oks_iff.2 λA hA=>by
  obtain⟨x,_,rfl⟩:=D4.1 hA;exact h.oks_op x
 let⟨hr,hl,fi,ca,e3,e4⟩:=zoj (f:=f) h.one u (zbb h.toAbs args.toList) e2 U F;let⟨fn,hfn,hnm,hb,r⟩:=ziy hgl h hr hl hi R N;have B:(execOp a.eval ⟨E d,.call ⟨.value c,args,ts⟩,ty,ps,af,g⟩).run P w = .ok (.enter f (wS (args.toList.map (opv L b)) cvs).toArray) w:=by
  have Y:args.map (opv L b)=(args.toList.map (opv L b)).toArray:=jE
  rw[hf.eval,<- e4];simp only[execOp,resolve,e1,e3,Y,Deferred.ofValue,UW,UU,UX,invoke];unfold callFunc;simp only[UW,UY,UX,hfn,hnm,hb,jk,jp,UU]
 unfold qD;rw[B,qP];refine Calls.mono r ?_;intro e w' hq;cases e with
 |returned v=>
  obtain⟨S',Z',PV',rfl,hi',hA⟩:=hq;exact hK _ rfl _ Z' PV' _ w' hi' (hf.put (by simpa[Da] using hn) v) hA
 |panicked M=>
  grind
 |outgrown=>exact hq.elim
theorem zq4 (hgl:C.gl w0.w σ0) {Γ:List (Spec C)}(R:∀s∈Γ,s.OK P) (h:AbsL κ S ν vs ids L b Z PV) {x:Operand}{c:String}{args:Array Operand}{d:Nat}(hn:qb d n=G) {ty:TypeId}{ps:String}{af:Array Edge}{g:U3 (Nat×Bool)} :
    OpA κ P n w0 σ0 ⟨E d,.call ⟨.invoke x c,args,ts⟩,ty,ps,af,g⟩ (WT Γ P S d x c args) L b Z PV:=by
 intro out B a w hi hf K Q hK hP;unfold WT at B;split at B
 · rename_i t A hc;split at B
   · rename_i f hm;have M:=h.op x;have H:=h.oks_op x;rw[hc] at M H;let⟨u,e1,e2⟩:=M;have U:AV.oks (λid=>(S.heap id).isSome=G) (args.toList.map S.op):=AV.oks_iff.2 λA hA=>by
       obtain⟨x,_,rfl⟩:=D4.1 hA;exact h.oks_op x
     have hr:VRs C Z ν (u::args.toList.map (opv L b)) (A::args.toList.map S.op):=⟨e2,zbb h.toAbs args.toList⟩;have hl:AV.oks (λid=>(S.heap id).isSome=G) (A::args.toList.map S.op):=⟨H,U⟩;let⟨fn,hfn,hnm,hb,r⟩:=ziy hgl h hr hl hi R B;have F:(execOp a.eval ⟨E d,.call ⟨.invoke x c,args,ts⟩,ty,ps,af,g⟩).run P w = .ok (.enter f (u::args.toList.map (opv L b)).toArray) w:=by
      have Y:args.map (opv L b)=(args.toList.map (opv L b)).toArray:=jE
      rw[hf.eval];simp only[execOp,resolve,e1,Y,UW,UU,UX,invoke];have hlen:(args.toList.map (opv L b)).length=args.size:=je
      generalize args.toList.map (opv L b)=l at *
      have h0:(#[Value.iface t u]++l.toArray)[0]?=E (.iface t u):=je
      have h1:(#[Value.iface t u]++l.toArray).extract 1 (#[Value.iface t u]++l.toArray).size=l.toArray:=by
       grind
      simp only[h0,h1];rw[zq3 hm,(jE:#[u]++l.toArray=(u::l).toArray)];unfold callFunc;simp only[UW,UY,UX,hfn,hnm,hb,jk,jp,UU]
     unfold qD;rw[F,qP];refine Calls.mono r ?_;intro e w' hq;cases e with
     |returned v=>
      obtain⟨S',Z',PV',rfl,hi',hA⟩:=hq;exact hK _ rfl _ Z' PV' _ w' hi' (hf.put (by simpa[Da] using hn) v) hA
     |panicked N=>
      grind
     |outgrown=>exact hq.elim
   ·cases B
 ·cases B
theorem znd (h:AbsL κ S ν vs ids L b Z PV) {op:Op}{d:Nat}(r:qb d n=G) {ty:TypeId}{ps:String}{af:Array Edge}{g:U3 (Nat×Bool)} :
    OpA κ P n w0 σ0 ⟨E d,op,ty,ps,af,g⟩ ((yG P S ty op).map λA =>.go (S.put d A)) L b Z PV:=by
 intro out u;obtain⟨A,c,rfl⟩:=D9.1 u;exact zag h r c (zah h c) _ rfl
theorem zwC{q:Opts}{Γ:List (Spec C)}(u:∀s∈Γ,s.OK P)(n:Nat)(κ:Kp):zkH P n κ (VF q Γ P n):=by
 intro w0 σ0 v o S L b Z PV hA out c;let⟨ν,vs,ids,h⟩:=hA;let⟨dst,op,ty,ps,af,g⟩:=o;cases dst with
 |none=>
  unfold VF at c;simp only at c;split at c
  ·exact zod h _ c
  ·exact zmJ h _ c
  ·split at c
   ·rename_i args ts _ x y e;rw[zaX e];exact zmK h _ c
   ·cases c
  ·exact zkM h _ c
  ·cases c
 |some d=>
  let⟨r,c⟩:=zb c;have c:xC q Γ P d ty S op=E out:=c;unfold xC at c;split at c
  ·exact zoc h r _ c
  ·let⟨hs,c⟩:=zb c;rw[qV] at c;split at c
   ·exact zqW h r hs _ c
   ·exact zqL h r hs _ c
  ·exact zqO h r _ c
  ·exact zmH h r _ c
  ·split at c
   ·rename_i A B;exact zag h r B (zah h B) _ c
   ·unfold Ye at c;split at c
    ·cases H:q.fs with
     |true=>rw[H] at c;exact ze1 h r _ c
     |false=>rw[H] at c;exact zmI h r _ c
    ·exact ze1 h r _ c
    ·cases c
  ·split at c
   ·rename_i A B;exact zag h r B (zah h B) _ c
   ·cases c
  ·split at c
   ·rename_i f caps M;exact zwB v u h r M _ c
   ·cases c
  ·exact zq4 v u h r _ c
  ·split at c
   ·rename_i args ts x y t t' N U;let⟨R,F⟩:=zb c;have:=ge R;subst this;rw[zaX N,zaX U];exact ze0 h r _ F
   ·cases c
  ·exact zkD h r _ c
  ·exact zqU h r _ c
  ·exact zkM h _ c
  ·exact znd h r _ c
def zu5(n:Nat):U3 Nat->Bool
 |some d=>qb d n
 |none=>G
def stp(q:Opts)(Γ:List (Spec C))(P:Program)(n:Nat)(o:Oper)(S:St C):U3 (Out C):=match xg P S o.dst o.op with
 |some k=>chk (zu5 n o.dst) (W5 P S k)
 |none=>VF q Γ P n o S
theorem zkN{q:Opts}{Γ:List (Spec C)}(u:∀s∈Γ,s.OK P)(n:Nat)(κ:Kp):zkH P n κ (stp q Γ P n):=by
 intro w0 σ0 v o S L b Z PV hA out c;unfold stp at c;split at c
 ·rename_i X B;let⟨hd,r⟩:=zb c;let⟨ν,vs,ids,h⟩:=hA;let⟨dst,op,ty,ps,af,g⟩:=o;exact zyc h (λd e=>by subst e;exact hd) B out r
 ·exact zwC u n κ w0 σ0 v o S L b Z PV hA out c
end
omit [Dfr] in
theorem xx.loopO:xx (λ{s β} f x=>loopO f x):=λf x y h=>vz.1 h
theorem xx.iter(k:Nat):xx (λ{s β} f x=>ya f k x):=λf x y h=>⟨k,h⟩
end
section
variable [Dfr]
section
variable {C:Cod}{S:St C}{P:Program}{ρ:Type}{Γ:List (Spec C)}
theorem zgd{f:XE C->St C->U3 (Out C)}{K:Out C->U3 ρ}{k:XK}{g:Sig}{y:XK.ty C k g}:(Yj k g y f).bind K=Yj k g y λe Sr=>(f e Sr).bind K:=by
 cases k<;>rfl
theorem XC{f:XE C->St C->U3 (Out C)}{K:Out C->U3 ρ}:∀{outs:List (XK×Sig)}{r:zh C outs},(zT outs r f).bind K=zT outs r λe Sr=>(f e Sr).bind K
 |[],r=>r.elim
 |[o],r=>zgd
 |o::o2::l,r=>by
  cases r with
  |inl a=>exact zgd (k:=o.1) (g:=o.2) (y:=a)
  |inr y=>exact XC (outs:=o2::l) (r:=y)
def VG(s:Spec C)(d:Nat)(S:St C)(x:s.ins.ty C)(K:Out C->U3 ρ):U3 ρ:=
 chk s.ins.es.isEmpty ((s.F x).bind λr=>zT s.outs r λe Sr=>(zbg S d s.nr e Sr).bind K)
def zbW:(outs:List (XK×Sig))->zh C outs->(XE C->St C->List ESh->α)->α
 |[],y,_=>y.elim
 |[o],y,K=>Yj o.1 o.2 y λe S=>K e S o.2.es
 |o::c::r,y,K=>match(y:XK.ty C o.1 o.2⊕zh C (c::r)) with
  | .inl a=>Yj o.1 o.2 a λe S=>K e S o.2.es
  | .inr y=>zbW (c::r) y K
theorem zaZ{K:XE C->St C->List ESh->α}:∀{outs:List (XK×Sig)}{r:zh C outs},zbW outs r K=zT outs r λe S=>K e S (yn outs r)
 |[],r=>r.elim
 |[o],r=>rfl
 |o::o2::l,r=>by
  cases r with
  |inl a=>rfl
  |inr y=>exact zaZ (outs:=o2::l) (r:=y)
theorem zge{k:XK}{g:Sig}{y:XK.ty C k g}:Yj k g y (λ_ _=>(none:U3 α))=none:=by cases k<;>rfl
theorem zdl:∀{outs:List (XK×Sig)}{r:zh C outs},zT outs r (λ_ _=>(none:U3 α))=I
 |[],r=>r.elim
 |[o],r=>zge (k:=o.1) (g:=o.2) (y:=r)
 |o::o2::l,r=>by
  cases r with
  |inl a=>exact zge (k:=o.1) (g:=o.2) (y:=a)
  |inr y=>exact zdl (outs:=o2::l) (r:=y)
def zbX(s:Spec C)(d:Nat)(S2:St C)(bl:Bl)(x:s.ins.ty C)(K:Out C->U3 ρ):U3 ρ:=
 (s.F x).bind λr=>zbW s.outs r λe Sr es=>chk (qs s.ins.es.length es.length) ((We S2 d s.nr bl es e Sr).bind K)
theorem ze6{s:Spec C}{d:Nat}{S2:St C}{x:s.ins.ty C}{K:Out C->U3 ρ}:zbX s d S2 bl x K=(xA s d S2 bl x).bind K:=by
 unfold zbX xA;rw[gh];congr 1;funext r;rw[zaZ,zx,XC];cases qs s.ins.es.length (yn s.outs r).length with
 |true=>rfl
 |false=>exact zdl
def zbY(s:Spec C)(d:Nat)(S:St C)(x:s.ins.ty C)(K:Out C->U3 ρ):U3 ρ:=
 (s.F x).bind λr=>zbW s.outs r λe Sr es=>chk (zu4 e) ((We S d s.nr [] es e Sr).bind K)
theorem ze7{s:Spec C}{d:Nat}{x:s.ins.ty C}{K:Out C->U3 ρ}:zbY s d S x K=(yI s d S x).bind K:=by
 unfold zbY yI;rw[gh];congr 1;funext r;rw[zaZ,XC];simp only[zx]
def zbZ(Γ:List (Spec C))(S:St C)(d f:Nat)(As:List (AV C.D))(K:Out C->U3 ρ):U3 ρ:=match Γ with
 |[]=>I
 |s :: Γ=>bif V s.f f && (s.view || s.viewO) then Wg S As λc=>chk (okX As c) (wB s.ins.ts (zgb S As c) λT=>match YM s.ins T As.length with
    |some (_,_,x)=>bif s.view then VG s d S x K else zbY s d S x K
    |none=>I) else zbZ Γ S d f As K
theorem zmO{s:Spec C}{d:Nat}{x:s.ins.ty C}{K:Out C->U3 ρ}:VG s d S x K=(yU s d S x).bind K:=by
 simp only[VG,yU,zx,gh,XC]
theorem ze8{d:Nat}{As:List (AV C.D)}{K:Out C->U3 ρ}:∀{Γ:List (Spec C)},zbZ Γ S d f As K=(xB Γ S d f As).bind K
 |[]=>rfl
 |s::Γ=>by
  unfold zbZ xB;cases(V s.f f && (s.view || s.viewO)) with
  |false=>exact ze8
  |true=>
   simp only[Dy];rw[zbT];congr 1;funext Bs;rw[zx,zbU];congr 1;congr 1;funext T;cases YM s.ins T As.length with
   |none=>rfl
   |some q=>
    let⟨S2,bl,x⟩:=q;simp only;cases s.view with
    |true=>exact zmO
    |false=>exact ze7
def VH(Γ0 Γ:List (Spec C))(S:St C)(d f:Nat)(As:List (AV C.D))(K:Out C->U3 ρ):U3 ρ:=match Γ with
 |[]=>zbZ Γ0 S d f As K
 |s::Γ=>bif V s.f f then(match YX s.ins S As with
  |some (S2,bl,x)=>bif s.view then VG s d S x K else bif s.viewO then zbY s d S x K else zbX s d S2 bl x K
  |none=>VH Γ0 Γ S d f As K) else VH Γ0 Γ S d f As K
theorem za0{Γ0:List (Spec C)}{d:Nat}{As:List (AV C.D)}{K:Out C->U3 ρ}:∀{Γ:List (Spec C)},VH Γ0 Γ S d f As K=(YN Γ0 Γ S d f As).bind K
 |[]=>ze8
 |s::Γ=>by
  unfold VH YN;cases V s.f f with
  |false=>exact za0
  |true=>
   simp only[Dy];cases YX s.ins S As with
   |none=>exact za0
   |some q=>
    let⟨S2,bl,x⟩:=q;simp only;cases s.view with
    |true=>
     simp only[Dy,VG,yU,zx,gh,XC]
    |false=>
     rw[U8,U8];cases s.viewO with
     |true=>simp only[Dy,ze7]
     |false=>simp only[U8,ze6]
def zhz(Γ:List (Spec C))(S:St C)(d f:Nat)(As:List (AV C.D))(K:Out C->U3 ρ):U3 ρ:=VH Γ Γ S d f As K
theorem zgf{d:Nat}{As:List (AV C.D)}{K:Out C->U3 ρ}:zhz Γ S d f As K=(vE Γ S d f As).bind K:=za0
def eff:Op->Bool
 | .slice _ _ _ _ _=>G
 | .convert _ _ _=>G
 |op=> !rdE op
where
 rdE:Op->Bool
  | .alloc _=>O
  | .box _ _=>O
  | .makeSlice _ _ _=>O
  | .buildSlice _ _ _=>O
  | .call ⟨.value _,_,_⟩=>O
  | .call ⟨.invoke _ _,_,_⟩=>O
  | .call ⟨.builtin .append,_,_⟩=>O
  | .makeMap _ _=>O
  | .lookup _ _ _ _=>O
  | .panic _=>O
  |_=>G
def zak(P:Program)(S:St C)(d:Nat)(t:TypeId)(x y:Operand)(K:Out C->U3 ρ):U3 ρ:=
 match P.underlying t with
 |some (.slice e)=>(match P.info? e with
  |some ti=>(match ti.zero with
   |some c=>chk (V ti.size (C.size e) && (qb 0 (C.size e) && (V c.cells.size (C.size e) && isNone (S.heap (nid d 0)))))
       (match S.op x with
       | .row id=>(match S.heap id with
        |some (.row T s)=>chk (V T e) ((zbN S T (S.op y)).bind λts=>(zo ti.bytes s ts).bind λs'=>
            K (.go {env:=upd (S.sub id .und).env d (.row (nid d 0)),heap:=upd (S.sub id .und).heap (nid d 0) (E (.row T s'))}))
        |_=>I)
       | .nils=>(zbN S e (S.op y)).bind λts=>(zo ti.bytes ⟨[],O⟩ ts).bind λs'=>
             K (.go {env:=upd S.env d (.row (nid d 0)),heap:=upd S.heap (nid d 0) (E (.row e s'))})
       |_=>I)
   |none=>I)
  |none=>I)
 |_=>I
theorem zdm{d:Nat}{t:TypeId}{x y:Operand}{K:Out C->U3 ρ}:zak P S d t x y K=(Yc P S d t x y).bind K:=by
 unfold zak Yc;cases P.underlying t with
 |none=>rfl
 |some h=>
  cases h<;>first | rfl | skip
  rename_i e;simp only;cases P.info? e with
  |none=>rfl
  |some ti=>
   simp only;cases ti.zero with
   |none=>rfl
   |some r=>
    simp only[zx];congr 1;cases S.op x<;>first | rfl | skip
    ·rename_i id;simp only;cases S.heap id with
     |none=>rfl
     |some c=>
      cases c with
      |cell cs=>rfl
      |row T s=>simp only[zx,gh,jj]
      |obj q T b s=>rfl
      |orow T s g=>rfl
    grind
def zgg{D:Nat->Type}:AV D->Bool
 | .str _=>G
 | .sl _ _ _=>G
 | .nx _ _ _ _=>G
 |_=>O
theorem zi5{q:Opts}{d:Nat}{ty t:TypeId}{x:Operand}(h:zgg (S.op x)=G):Ye q P S d ty t x lo hi I=none:=by
 have h1:∀lo,yH P S d ty t x lo hi=none:=by
  intro lo;unfold yH;cases c:S.op x<;>rw[c] at h<;>first | (cases h;done) | rfl
 have h2:Yd P S d t x hi=none:=by
  unfold Yd;cases P.underlying t with
  |none=>rfl
  |some r=>
   cases r<;>first | rfl | skip
   rename_i e;simp only;cases P.info? e with
   |none=>rfl
   |some ti=>
    simp only;cases c:S.op x<;>rw[c] at h<;>first | (cases h;done) | rfl
 unfold Ye;cases lo with
 |none=>simp only;cases q.fs<;>simp[h1,h2]
 |some lo=>exact h1 _
def zja(q:Opts) :U3 α->Bool
 |none=>q.fs
 |some _=>G
def zdn(P:Program)(S:St C)(d:Nat)(ty t:TypeId)(A:AV C.D)(x:Operand)(lo hi:U3 Operand)(K:Out C->U3 ρ):U3 ρ:=match A with
 | .row id=>zed P (S.frz1 id) ty (.slice t x lo hi I) λA=>K (.go ((S.frz1 id).put d A))
 |_=>I
theorem zkO {q:Opts}{d:Nat}{ty t:TypeId}{x:Operand}{K:Out C->U3 ρ}(h:zja q lo=G) (c:zgg (S.op x)=O) :
    zdn P S d ty t (S.op x) x lo hi K=(xC q Γ P d ty S (.slice t x lo hi I)).bind K:=by
 have r:yG P S ty (.slice t x lo hi I)=none:=by
  show Yt P S t (S.op x) lo hi=I;revert c;unfold Yt;cases S.op x<;>intro c<;>first | (cases c;done) | skip
  all_goals (split<;>first | rfl | simp_all)
 have u:Ye q P S d ty t x lo hi I=yH P S d ty t x lo hi:=by
  unfold Ye;cases lo with
  |none=>simp only;rw[show q.fs=G from h];rfl
  |some lo=>rfl
 unfold xC;simp only;rw[r];simp only;rw[u];unfold zdn yH;cases S.op x<;>first | rfl | skip
 simp only;rw[zbP,gh];rfl
def zdo(P:Program)(S:St C)(d:Nat)(t:TypeId)(x:Operand)(hi:U3 Operand)(K:Out C->U3 ρ):U3 ρ:=
 match P.underlying t with
 |some (.slice e)=>(match P.info? e with
  |some ti=>(match S.op x with
   | .row id=>(match S.heap id with
    |some (.row T s)=>chk (V ti.size (C.size T) && isNone (S.heap (nid d 0))) (match Zm S s.len hi with
     |some j=>(z7 s 0 j).bind λs'=>K (.go {env:=upd (S.sub id .und).env d (.row (nid d 0)),heap:=upd (S.sub id .und).heap (nid d 0) (E (.row T s'))})
     |none=>I)
    |_=>I)
   |_=>I)
  |none=>I)
 |_=>I
theorem zkP {q:Opts}{d:Nat}{ty t:TypeId}{x:Operand}{K:Out C->U3 ρ}(h:zja q lo=O) (c:zgg (S.op x)=O) :
    zdo P S d t x hi K=(xC q Γ P d ty S (.slice t x lo hi I)).bind K:=by
 have B:yG P S ty (.slice t x lo hi I)=none:=by
  show Yt P S t (S.op x) lo hi=I;revert c;unfold Yt;cases S.op x<;>intro c<;>first | (cases c;done) | skip
  all_goals (split<;>first | rfl | simp_all)
 have u:Ye q P S d ty t x lo hi I=Yd P S d t x hi:=by
  unfold Ye;cases lo with
  |none=>simp only;rw[show q.fs=O from h];rfl
  |some lo=>cases h
 unfold xC;simp only;rw[B];simp only;rw[u];unfold zdo Yd;cases P.underlying t with
 |none=>rfl
 |some r=>
  cases r<;>first | rfl | skip
  rename_i e;simp only;cases P.info? e with
  |none=>rfl
  |some ti=>
   simp only;cases S.op x<;>first | rfl | skip
   rename_i id;simp only;cases S.heap id with
   |none=>rfl
   |some v=>
    cases v<;>first | rfl | skip
    rename_i T s;simp only[zx];cases Zm S s.len hi with
    |none=>rfl
    |some j=>simp only[gh];rfl
def VI(P:Program)(S:St C)(t:TypeId)(x y:Operand)(K:Out C->U3 ρ):U3 ρ:=match P.info? t,S.op x with
 |some ti,.pr _ _ _ _=>go ti (S.frz (AV.rows (S.op y)))
 |_,_=>(yx P S t x y).bind K
where
 go (ti:TypeInfo) (S:St C):U3 ρ:=match S.op x with
  | .pr id T i off=>(match S.heap id with
   |some (.row T' s)=>chk (V T T' && (YU (S.op y) && (V ti.size (zt (S.op y)).length && (qs (off+(zt (S.op y)).length) (C.size T') && qb 0 (zt (S.op y)).length))))
       ((za s i).bind λq=>(C.imp T' ((C.emb T' q).take off++zt (S.op y)++(C.emb T' q).drop (off+(zt (S.op y)).length))).bind λq'=>
         K (.go {S with heap:=upd S.heap id (E (.row T' (s.set i q')))}))
   |_=>I)
  |_=>I
theorem zmP{x y:Operand}{K:Out C->U3 ρ}:VI.go x y K ti S=(yx.go x y ti S).bind K:=by
 unfold VI.go yx.go;cases S.op x<;>first | rfl | skip
 rename_i id T i off;simp only;cases S.heap id with
 |none=>rfl
 |some e=>
  cases e with
  |cell cs=>rfl
  |row T' s=>simp only[zx,gh,jj]
  |obj q T b s=>rfl
  |orow T s g=>rfl
theorem zmQ{t:TypeId}{x y:Operand}{K:Out C->U3 ρ}:VI P S t x y K=(yx P S t x y).bind K:=by
 unfold VI;split
 ·rename_i ti id T i off h1 h2;rw[zmP];unfold yx;rw[h1,h2]
 ·rfl
def zhA(P:Program)(S:St C)(d:Nat)(t:TypeId)(x y:Operand)(K:Out C->U3 ρ):U3 ρ:=
 match P.underlying t with
 |some (.slice e)=>(match P.info? e with
  |some ti=>(match ti.zero,S.op x with
   |some c,.int _ i=>chk (zde x y && (V ti.size (C.size e) && (qb 0 (C.size e) && isNone (S.heap (nid d 0)))))
       ((C.imp e (c.cells.toList.map ZY)).bind λq=>(Z3 ti.bytes i q).bind λs=>K (.go {env:=upd S.env d (.row (nid d 0)),heap:=upd S.heap (nid d 0) (E (.row e s))}))
   |_,_=>I)
  |none=>I)
 |_=>I
theorem zok{d:Nat}{t:TypeId}{x y:Operand}{K:Out C->U3 ρ}:zhA P S d t x y K=(Wa P S d t x y).bind K:=by
 unfold zhA Wa;cases P.underlying t with
 |none=>rfl
 |some c=>
  cases c<;>first | rfl | skip
  rename_i e;simp only;cases P.info? e with
  |none=>rfl
  |some ti=>
   simp only;cases ti.zero with
   |none=>rfl
   |some h=>
    cases S.op x<;>first | rfl | (simp only[zx,gh,jj])
def zu6(q:Opts)(Γ:List (Spec C))(P:Program)(n:Nat):yR C:=λo S _ K=>match o.dst with
 |some d=>chk (qb d n) (match o.op with
  | .call ⟨.value c,args,_⟩=>(match S.op c with
   | .clo f caps=>chk (zdd caps) (zhz Γ S d f (Xi (args.toList.map S.op) caps) K)
   |_=>I)
  | .call ⟨.invoke x h,args,_⟩=>(match S.op x with
   | .ifc t A=>(match zef P t h with
    |some f=>zhz Γ S d f (A::args.toList.map S.op) K
    |none=>I)
   |_=>I)
  | .call ⟨.builtin .append,args,ts⟩=>(match args.toList,ts.toList with
   |[x,y],[t,t']=>chk (V t t') (zak P S d t x y K)
   |_,_=>I)
  | .makeSlice t x y=>zhA P S d t x y K
  | .slice t x lo hi I=>bif zgg (S.op x) then zed P S o.type (.slice t x lo hi I) λA=>K (.go (S.put d A)) else bif zja q lo then zdn P S d o.type t (S.op x) x lo hi K else zdo P S d t x hi K
  | .convert t t' x=>(match yG P S o.type (.convert t t' x) with
   |some A=>K (.go (S.put d A))
   |none=>I)
  |op=>bif eff op then(xC q Γ P d o.type S op).bind K else zed P S o.type op λA=>K (.go (S.put d A)))
 |none=>(match o.op with
  | .store t x y=>VI P S t x y K
  |_=>(VF q Γ P n o S).bind K)
theorem zwD{q:Opts}{d:Nat}{ty:TypeId}{op:Op}(h:eff op=O):xC q Γ P d ty S op=(yG P S ty op).map λA =>.go (S.put d A):=by
 unfold xC;split<;>first | (cases h;done) | rfl
theorem zsF{q:Opts}{n:Nat}{o:Oper}{K:Out C->U3 ρ}:zu6 q Γ P n o S ρ K=(VF q Γ P n o S).bind K:=by
 let⟨dst,op,ty,ps,af,g⟩:=o;cases dst with
 |none=>cases op<;>first | rfl | exact zmQ
 |some d=>
  show chk (qb d n) _=(chk (qb d n) (xC q Γ P d ty S op)).bind K;rw[zx];congr 1;simp only;split
  ·rename_i c args ts;unfold xC;simp only;cases S.op c<;>first | rfl | (simp only[zx];rw[zgf])
  ·rename_i x h args ts;unfold xC WT;simp only;cases S.op x<;>first | rfl | skip
   rename_i t A;simp only;cases zef P t h with
   |none=>rfl
   |some f=>exact zgf
  ·rename_i args ts;unfold xC;simp only;generalize args.toList=l;generalize ts.toList=m
   match l,m with
   |[],_=>rfl
   |[_],_=>rfl
   |[x,y],[]=>rfl
   |[x,y],[_]=>rfl
   |[x,y],[t,t']=>simp only[zx,zdm]
   |[x,y],_::_::_::_=>rfl
   |_::_::_::_,_=>rfl
  ·rename_i t x y;exact zok
  ·rename_i t x lo hi;cases r:zgg (S.op x) with
   |false=>
    rw[U8];cases u:zja q lo with
    |false=>rw[U8];exact zkP u r
    |true=>rw[Dy];exact zkO u r
   |true=>
    rw[Dy,zbP];unfold xC;simp only;rw[zi5 r];cases yG P S ty (.slice t x lo hi I)<;>rfl
  ·rename_i t t' x;unfold xC;grind
  ·cases v:eff op with
   |true=>rfl
   |false=>
    rw[U8,zbP,zwD v];cases yG P S ty op<;>rfl
def zhB(P:Program)(S:St C)(d:Nat)(t:TypeId)(x y:Operand)(K:Out C->U3 ρ):U3 ρ:=match x with
 | .tmp c=>(match S.env c with
  | .nx id T i .whole=>Wm S c id T i (nid d 1) λS1=>zak P S1 d t x y K
  |_=>I)
 |_=>I
theorem zol{d:Nat}{t:TypeId}{x y:Operand}{K:Out C->U3 ρ}:zhB P S d t x y K=(Wn P S d t x y).bind K:=by
 unfold zhB Wn;cases x<;>first | rfl | skip
 rename_i c;simp only;cases S.env c<;>first | rfl | skip
 rename_i id T i nx;cases nx<;>first | rfl | skip
 simp only[zoO];congr 1;funext S1;exact zdm
def zom(P:Program)(S:St C)(K:Out C->U3 ρ):KN->U3 ρ
 | .st t x y=>XF P S t x y K
 | .apn d t t' x y=>chk (V t t') (zhB P S d t x y K)
 | .apo d t t' x y=>chk (V t t') (W3 P S d t x y K)
 | .bl d t i m y=>chk (V i 0 && V m 1) (XG P S d t y K)
 | .mk d t x y=>wK P S d t x y K
 | .cy d ts x y=>W4 P S d ts x y K
theorem zsG{k:KN}{K:Out C->U3 ρ}:zom P S K k=(W5 P S k).bind K:=by
 cases k<;>simp only[zom,W5,zx]
 ·exact zk7
 ·rw[zol]
 ·rw[zoP]
 ·rw[zle]
 ·exact zm0
 ·exact zoR
def Y9(q:Opts)(Γ:List (Spec C))(P:Program)(n:Nat):yR C:=λo S _ K=>match xg P S o.dst o.op with
 |some k=>chk (zu5 n o.dst) (zom P S K k)
 |none=>zu6 q Γ P n o S _ K
theorem Vn{q:Opts}{n:Nat}{o:Oper}{K:Out C->U3 ρ}:Y9 q Γ P n o S ρ K=(stp q Γ P n o S).bind K:=by
 unfold Y9 stp;cases xg P S o.dst o.op with
 |some k=>simp only[zx,zsG]
 |none=>exact zsF
theorem zkQ{q:Opts}{n:Nat}{o:Oper}{K:Out C->U3 ρ}:Y9 q Γ P n o S ρ K=(Y9 q Γ P n o S _ E).bind K:=by
 rw[Vn,Vn,gh];rfl
end
end
section
variable [Dfr]
section
variable {κ:Kp}{C:Cod}{S T:St C}{ν:Val}{vs:Nat->List Value}{ids:List Nat}{L:List (Nat×Value)}{b:Nat->Value}{Z:FS}{PV:List Priv}{P:Program}{ρ:Type}
variable {t t' ty:TypeId}{x y z:Operand}{d:Nat}{ps:String}{af:Array Edge}{g:U3 (Nat×Bool)}{A:AV C.D}{n:Nat}{w0:Start}{σ0:FS}{o:Oper}{D:Nat->Prop}
def zdp(P:Program)(S:St C)(t:TypeId)(m:Nat)(c:List (Nat×Operand)):U3 (AV C.D):=match P.underlying t with
 |some (.slice e)=>(match P.info? e with
  |some ti=>(match ti.zero with
   |some h=>chk (V ti.size (C.size e) && (qb 0 (C.size e) && (qs (m * C.size e) 16777216 && (V c.length m && zec c 0))))
       ((YA S e (c.map (·.2))).bind λxs=>E (.sl e ⟨xs,G⟩ O))
   |none=>I)
  |none=>I)
 |_=>I
theorem zq5(h:AbsL κ S ν vs ids L b Z PV)(hn:qb d n=G){c:Array (Nat×Operand)}(r:zdp P S t m c.toList=E A):OpA κ P n w0 σ0 ⟨E d,.buildSlice t m c,ty,ps,af,g⟩ (E (.go (S.put d A))) L b Z PV:=by
 unfold zdp at r;split at r
 ·rename_i e hu;split at r
  ·rename_i ti hi;split at r
   ·rename_i zv hz;let⟨hc,R⟩:=zb r;simp only[gf] at hc;let⟨c1,c2,c3,c4,c5⟩:=hc;let⟨xs,hxs,hX3⟩:=gd R;cases hX3;let⟨r1,r2,r3⟩:=zdf h hxs;have B:((c.toList.map (·.2)).map (opv L b)).length=m:=by
     have:=ge c4;simpa using this
    intro out ho a w M hf K Q hK hP;cases ho;refine vM (ρ:=Unit) (p:=E ()) (H:=λp' L' Y F=>∃v,L'=(d,v)::L/\Y=Z/\F=Priv.row (zB C e).o e v ⟨xs,G⟩::PV) (T:=(zB C e).o) (vs:=(c.toList.map (·.2)).map (opv L b)) (xs:=xs) [] PV hn hu hi hz (ge c1) c3 c2 (zbM c5) B (λN _=>⟨zc.none,zc.none_le _,Ty.rels_o.2 r1,by rw[D1];exact r2,r3⟩) (λv=>⟨v,rfl,rfl,rfl⟩) () rfl a w M hf K Q ?_;rintro p' L' Y F a' w' hp' hi' hf' ⟨v,rfl,rfl,rfl⟩;let⟨h1,N,hsub,u,U⟩:=hi'.freeze (m:=0) rfl;have N:zn (zB C e).o e v ⟨xs,G⟩ Y h1:=N;refine hK _ rfl _ _ _ _ _ U hf' ⟨ν,vs,ids,(h.le u).put (A :=.sl e ⟨xs,G⟩ O) (Rv.of_vrel (N.fast u λb o v e=>Xx b o v e)).vr trivial⟩
   ·cases r
  ·cases r
 ·cases r
def rdQ:Op->Bool
 | .alloc _=>O
 | .box _ _=>O
 | .makeSlice _ _ _=>O
 | .call ⟨.value _,_,_⟩=>O
 | .call ⟨.builtin .append,_,_⟩=>O
 | .panic _=>O
 |_=>G
def evQ(P:Program)(S:St C)(ty:TypeId):Op->U3 (AV C.D)
 | .buildSlice t m c=>zdp P S t m c.toList
 |op=>yG P S ty op
def zsH(P:Program)(S:St C)(ty:TypeId)(op:Op)(K:AV C.D->U3 ρ):U3 ρ:=match op with
 | .buildSlice t m c=>(match P.underlying t with
  |some (.slice e)=>(match P.info? e with
   |some ti=>(match ti.zero with
    |some h=>chk (V ti.size (C.size e) && (qb 0 (C.size e) && (qs (m * C.size e) 16777216 && (V c.toList.length m && zec c.toList 0))))
        ((YA S e (c.toList.map (·.2))).bind λxs=>K (.sl e ⟨xs,G⟩ O))
    |none=>I)
   |none=>I)
  |_=>I)
 |op=>zed P S ty op K
theorem zwE{op:Op}{K:AV C.D->U3 ρ}:zsH P S ty op K=(evQ P S ty op).bind K:=by
 unfold zsH evQ;split
 ·unfold zdp;cases P.underlying _ with
  |none=>rfl
  |some c=>
   cases c<;>first | rfl | skip
   simp only;cases P.info? _ with
   |none=>rfl
   |some ti=>
    simp only;cases ti.zero with
    |none=>rfl
    |some h=>simp only[zx,gh,jj]
 ·exact zbP
theorem zxZ{q:Opts}{Γ:List (Spec C)}(h:AbsL κ S ν vs ids L b Z PV)(r:qb d n=G){op:Op}(u:rdQ op=G)(c:evQ P S ty op=E A):OpA κ P n w0 σ0 ⟨E d,op,ty,ps,af,g⟩ (E (.go (S.put d A))) L b Z PV:=by
 unfold evQ at c;split at c
 ·exact zq5 h r c
 ·have:=znd (P:=P) (n:=n) (w0:=w0) (σ0:=σ0) (ps:=ps) (af:=af) (g:=g) h (op:=op) r (ty:=ty);rw[c] at this;exact this
theorem zgh:∀{l:List Operand},(∀x∈l,S.op x=T.op x)->YA S e l=YA T e l
 |[],_=>rfl
 |x::r,h=>by
  unfold YA;rw[h x je,zgh λy c=>h y (by simp[c])]
end
end
section
variable [Dfr]
section
variable {C:Cod}{S T:St C}{P:Program}
def AV.hid{D:Nat->Type}:AV D->List Nat
 | .row id=>[id]
 | .pc id _=>[id]
 | .pr id _ _ _=>[id]
 | .nx id _ _ _=>[id]
 |_=>[]
def zfs(S:St C):Op->List Nat
 | .load _ x=>(S.op x).hid
 | .indexAddr _ x _=>(S.op x).hid
 | .binOp _ _ x _ _=>match S.op x with
  | .row id=>[id]
  | .nx id _ _ _=>[id]
  |_=>[]
 | .call ⟨.builtin .len,args,_⟩=>match args.toList with
  |[x]=>(S.op x).hid
  |_=>[]
 | .slice _ x _ _ _=>match S.op x with
  | .nx id _ _ _=>[id]
  |_=>[]
 |_=>[]
theorem Wh{U:Nat}{i:Int}{K:(U:Nat)->Sl (C.D U)->U3 α}(h:S.heap id=T.heap id):zM S id U i K=zM T id U i K:=by
 unfold zM;rw[h]
theorem zq6{t:TypeId}{A:AV C.D}(h:∀id∈A.hid,S.heap id=T.heap id):x9 P S t A=x9 P T t A:=by
 cases A<;>first | rfl | (simp only[x9];rw[h _ (by simp[AV.hid])]) | skip
 rename_i id U i x;cases x<;>first | rfl | (simp only[x9];rw[Wh (h _ (by simp[AV.hid]))])
theorem zon{t:TypeId}{A B:AV C.D}(h:∀id∈A.hid,S.heap id=T.heap id):XS P S t A B=XS P T t A B:=by
 unfold XS;split
 ·split
  ·cases A<;>first | rfl | (cases B<;>first | rfl | (simp only;rw[h _ (by simp[AV.hid])])) | skip
   rename_i id U i x;cases x<;>cases B<;>first | rfl | (simp only;rw[Wh (h _ (by simp[AV.hid]))])
  ·rfl
 ·rfl
 ·rfl
theorem zsI{t:TypeId}{A:AV C.D}(h:∀id∈A.hid,S.heap id=T.heap id):w9 P S t A=w9 P T t A:=by
 unfold w9;cases P.underlying t with
 |none=>rfl
 |some c=>
  cases A<;>first | rfl | (cases c<;>first | rfl | (simp only;rw[h _ (by simp[AV.hid])])) | skip
  rename_i id U i x;cases x<;>cases c<;>first | rfl | (simp only;rw[Wh (h _ (by simp[AV.hid]))])
theorem zb0{dflt:Int}{o:U3 Operand}(h:∀x,o=E x->S.op x=T.op x):Zm S dflt o=Zm T dflt o:=by
 cases o with
 |none=>rfl
 |some x=>simp only[Zm];rw[h x rfl]
theorem zoo{t:TypeId}{A:AV C.D}(h1:∀x,lo=E x->S.op x=T.op x)(h2:∀x,hi=E x->S.op x=T.op x)(h:∀id U i x,A = .nx id U i x->S.heap id=T.heap id):Yt P S t A lo hi=Yt P T t A lo hi:=by
 unfold Yt;have c:=λdflt=>zb0 (S:=S) (T:=T) (dflt:=dflt) h1
 have r:=λdflt=>zb0 (S:=S) (T:=T) (dflt:=dflt) h2
 simp only[c,r];split
 ·rfl
 ·rfl
 ·split
  ·exact Wh (h _ _ _ _ rfl)
  ·rfl
 ·rfl
theorem zq7{l:List Operand}(h:∀x∈l,S.op x=T.op x):l.map S.op=l.map T.op:=D0 h
theorem zop{t:TypeId}{c:List (Nat×Operand)}(h:∀q∈c,S.op q.2=T.op q.2):WO P S t c=WO P T t c:=by
 unfold WO;have:c.map (λq=>(q.1,S.op q.2))=c.map λq=>(q.1,T.op q.2):=D0 λq r=>by rw[h q r]
 rw[this]
theorem zne{ty:TypeId}{op:Op}(h:∀x∈op.operands.toList,S.op x=T.op x)(v:∀id∈zfs S op,S.heap id=T.heap id):yG P S ty op=yG P T ty op:=by
 unfold yG;cases op
 case move x=>simp only;rw[h x (by simp[W])]
 case assign x=>simp only;rw[h x (by simp[W])]
 case pick c a e=>simp only;rw[h c (by simp[W]),h a (by simp[W]),h e (by simp[W])]
 case nilCheck x=>simp only;rw[h x (by simp[W])]
 case binOp bo t x y t'=>
  simp only;unfold Xa;rw[<- h x (by simp[W]),<- h y (by simp[W])];cases Yg y with
  |true=>rfl
  |false=>
  simp only[U8];unfold wq;simp only[zfs] at v;split
  ·grind
  ·rename_i id U i e;rw[e] at v;split
   ·exact Wh (v id je)
   ·rfl
  ·rfl
 case unOp u t x=>cases u<;>first | rfl | (simp only;rw[h x (by simp[W])])
 case convert t t' x=>simp only;rw[h x (by simp[W])]
 case makeFunc f fs caps=>
  cases f<;>first | rfl | skip
  simp only;have F:=zq7 (l:=fs.toList) λx B=>h x (by simp[W];grind)
  unfold zbc;generalize fs.toList=fl at F;rw[zq7 (l:=caps.toList) λx B=>h x (by simp[W];grind)];grind
 case makeInterface t x=>simp only;rw[h x (by simp[W])]
 case extract x i=>simp only;rw[h x (by simp[W])]
 case typeAssert x xt t ok=>simp only;rw[h x (by simp[W])]
 case build t parts=>exact zop λq R=>h q.2 (by simp[W];grind)
 case field t x m=>simp only;rw[h x (by simp[W])]
 case fieldAddr t x m=>simp only;rw[h x (by simp[W])]
 case indexAddr t x y=>
  simp only;rw[<- h x (by simp[W]),<- h y (by simp[W])];exact zon v
 case load t x=>
  simp only;rw[<- h x (by simp[W])];exact zq6 v
 case index t x y=>simp only;rw[h x (by simp[W]),h y (by simp[W])]
 case slice t x lo hi mx=>
  cases mx with
  |some m=>rfl
  |none=>
   simp only;rw[<- h x (by simp[W])];simp only[zfs] at v;exact zoo (λy e=>h y (by subst e;simp[W])) (λy e=>h y (by subst e;simp[W])) λid U i x e=>by
    grind
 case call c=>
  let⟨H,args,ts⟩:=c;cases H
  case value c=>rfl
  case invoke r m=>rfl
  case builtin bi=>
   have N:∀x∈args.toList,S.op x=T.op x:=λx B=>h x (by simp[W,qk];simpa using B)
   cases bi<;>first | rfl | skip
   case len=>
    simp only;split
    ·rename_i x t M Y;rw[M] at N;rw[<- N x je];refine zsI λid hid=>v id ?_
     simp only[zfs,M];exact hid
    ·rfl
   all_goals grind
 all_goals rfl
structure EqX(D:Nat->Prop)(S T:St C):Prop where
 heap:S.heap=T.heap
 env:∀t,¬ D t->S.env t=T.env t
variable {D:Nat->Prop}
def zS(D:Nat->Prop):U3 (Out C)->U3 (Out C)->Prop
 |some (.go S),E (.go T)=>EqX D S T
 |some (.pan u S),E (.pan v T)=>u=v/\EqX D S T
 |none,I=>True
 |_,_=>False
omit [Dfr] in
theorem zS.go{S' T':St C}(h:EqX D S' T'):zS D (E (.go S')) (E (.go T')):=h
omit [Dfr] in
theorem zS.none:zS (C:=C) D I none:=trivial
omit [Dfr] in
theorem zS.chk{c:Bool}{x y:U3 (Out C)}(h:zS D x y):zS D (chk c x) (chk c y):=by
 cases c with
 |true=>exact h
 |false=>trivial
omit [Dfr] in
theorem zS.bind{x:U3 α}{f g:α->U3 (Out C)}(h:∀a,zS D (f a) (g a)):zS D (x.bind f) (x.bind g):=by
 cases x with
 |none=>trivial
 |some a=>exact h a
omit [Dfr] in
theorem EqX.refl(S:St C):EqX D S S:=⟨rfl,λ_ _=>rfl⟩
omit [Dfr] in
theorem EqX.put(h:EqX D S T)(d:Nat)(A:AV C.D){hp:Nat->U3 (Ent C)}:EqX D {env:=upd S.env d A,heap:=hp} {env:=upd T.env d A,heap:=hp}:=⟨rfl,λt c=>by
 show upd S.env d A t=upd T.env d A t;unfold upd;cases V t d with
 |true=>rfl
 |false=>exact h.env t c⟩
omit [Dfr] in
theorem EqX.sub(h:EqX D S T)(id:Nat)(R:AV C.D):EqX D (S.sub id R) (T.sub id R):=by
 refine⟨?_,λt c=>?_⟩
 ·unfold St.sub;simp only;rw[h.heap]
 ·show AV.sub id R (S.env t)=AV.sub id R (T.env t);rw[h.env t c]
omit [Dfr] in
theorem EqX.frz1(h:EqX D S T)(id:Nat):EqX D (S.frz1 id) (T.frz1 id):=by
 unfold St.frz1;rw[h.heap];split
 ·exact h.sub _ _
 ·rename_i T0 s g _;cases g.rd with
  |true=>exact h.sub _ _
  |false=>exact h
 ·exact h
omit [Dfr] in
theorem EqX.frz:∀(l:List Nat) {S T:St C},EqX D S T->EqX D (S.frz l) (T.frz l)
 |[],_,_,h=>h
 |id::r,_,_,h=>EqX.frz r (h.frz1 id)
omit [Dfr] in
theorem EqX.op(h:EqX D S T){x:Operand}(c:∀t,x = .tmp t->¬ D t):S.op x=T.op x:=by
 cases x with
 |tmp t=>exact h.env t (c t rfl)
 |const v=>rfl
 |global g=>rfl
 |func f=>rfl
def vF(D:Nat->Prop)(l:List Operand):Prop:=∀t,Operand.tmp t∈l->¬ D t
omit [Dfr] in
theorem EqX.ops(h:EqX D S T){l:List Operand}(c:vF D l):∀x∈l,S.op x=T.op x:=λx r=>h.op λt e=>c t (e ▸ r)
theorem znf(h:EqX D S T){d:Nat}{cs:List (AV C.D)}:zS D (zbJ S d cs) (zbJ T d cs):=by
 unfold zbJ;rw[h.heap];exact .chk (h.put d _)
theorem zq8(h:EqX D S T){d:Nat}{t:TypeId}:zS D (Xg P S d t) (Xg P T d t):=by
 unfold Xg;split
 ·split
  ·split
   ·unfold zqM;rw[h.heap];exact .chk (h.put d _)
   ·exact znf h
  ·trivial
 ·trivial
theorem zsJ(h:EqX D S T){d:Nat}{t:TypeId}{x y:Operand}(c:S.op x=T.op x):zS D (Wa P S d t x y) (Wa P T d t x y):=by
 unfold Wa;rw[c,h.heap];split
 ·split
  ·split
   ·exact .chk (.bind λq =>.bind λs=>h.put d _)
   ·trivial
  ·trivial
 ·trivial
theorem ziz:∀{l:List Operand},(∀x∈l,S.op x=T.op x)->YA S e l=YA T e l
 |[],_=>rfl
 |x::r,h=>by
  unfold YA;rw[h x je,ziz λy c=>h y (D2 _ c)]
theorem zoq(h:EqX D S T){d:Nat}{t:TypeId}{c:List (Nat×Operand)}(hp:vF D (c.map (·.2))):zS D (Y8 P S d t m c) (Y8 P T d t m c):=by
 unfold Y8;have e:c.map (λq=>S.op q.2)=c.map λq=>T.op q.2:=D0 λq u=>h.ops hp _ (D4.2 ⟨q,u,rfl⟩)
 rw[e];have r:=EqX.frz (AV.rowss (c.map λq=>T.op q.2)) h;generalize S.frz _=S' at r |-
 generalize T.frz _=T' at r |-
 unfold Y8.go;have v:=λe=>ziz (e:=e) (r.ops hp)
 simp only[r.heap,v];split
 ·split
  ·split
   ·exact .chk (.bind λxs=>r.put d _)
   ·trivial
  ·trivial
 ·trivial
theorem EqX.heap'(h:EqX D S T){hp:Nat->U3 (Ent C)}:EqX D {S with heap:=hp} {T with heap:=hp}:=⟨rfl,h.env⟩
theorem zq9(h:EqX D S T){t:TypeId}{x y:Operand}(v:∀t,x = .tmp t->¬ D t)(B:∀t,y = .tmp t->¬ D t):zS D (yx P S t x y) (yx P T t x y):=by
 unfold yx;have H:=h.op v;have F:=h.op B;rw[H,F,h.heap];split
 ·split
  ·exact .chk h.heap'
  ·trivial
 ·rename_i ti _ _ _ _ _ _;have u:=EqX.frz (AV.rows (T.op y)) h;have r:=u.op v;have c:=u.op B;generalize S.frz _=S' at u r c |-
  generalize T.frz _=T' at u r c |-
  unfold yx.go;rw[r,c,u.heap];split
  ·split
   ·exact .chk (.bind λq =>.bind λq'=>u.heap')
   ·trivial
  ·trivial
 ·trivial
theorem zwF(h:S.heap=T.heap){A:AV C.D}:zbN S e A=zbN T e A:=by
 unfold zbN;rw[h]
theorem EqX.subRow(h:EqX D S T)(d id T':Nat)(s':Sl (C.D T')):EqX D {env:=upd (S.sub id .und).env d (.row (nid d 0)),heap:=upd (S.sub id .und).heap (nid d 0) (E (.row T' s'))} {env:=upd (T.sub id .und).env d (.row (nid d 0)),heap:=upd (T.sub id .und).heap (nid d 0) (E (.row T' s'))}:=by
 have:=h.sub id .und;exact⟨by show upd _ _ _=upd _ _ _;rw[this.heap],(this.put d _ (hp:=T.heap)).env⟩
theorem zgi(h:EqX D S T){d:Nat}{t:TypeId}{x y:Operand}(c:S.op x=T.op x)(r:S.op y=T.op y):zS D (Yc P S d t x y) (Yc P T d t x y):=by
 unfold Yc;have e:=λe A=>zwF (e:=e) (A:=A) h.heap
 simp only[c,r,h.heap,e];split
 ·split
  ·split
   ·refine .chk ?_;split
    ·split
     ·exact .chk (.bind λts =>.bind λs'=>EqX.subRow h _ _ _ _)
     ·trivial
    ·exact .bind λts =>.bind λs'=>h.put d _
    ·trivial
   ·trivial
  ·trivial
 ·trivial
theorem zor(h:EqX D S T){d:Nat}{t:TypeId}{x:Operand}(r:S.op x=T.op x)(h1:∀y,hi=E y->S.op y=T.op y):zS D (Yd P S d t x hi) (Yd P T d t x hi):=by
 unfold Yd;have c:=λdflt=>zb0 (S:=S) (T:=T) (dflt:=dflt) h1
 have hs:=λid T' s'=>EqX.subRow h d id T' s'
 rw[r];simp only[h.heap,c];split
 ·split
  ·split
   ·split
    ·refine .chk ?_;split
     ·exact .bind λs'=>hs _ _ _
     ·trivial
    ·trivial
   ·trivial
  ·trivial
 ·trivial
end
end
section
variable [Dfr]
section
variable {C:Cod}{S T:St C}{P:Program}{D:Nat->Prop}
omit [Dfr] in
theorem EqX.owk(h:EqX D S T)(id:Nat)(e:Ent C):EqX D (S.owk id e) (T.owk id e):=by
 refine⟨?_,λt c=>?_⟩
 ·unfold St.owk;simp only;rw[h.heap]
 ·show AV.knx _ (S.env t)=AV.knx _ (T.env t);rw[h.env t c]
theorem EqX.newE(h:EqX D S T)(d i:Nat)(A:AV C.D)(e:U3 (Ent C)):EqX D {env:=upd S.env d A,heap:=upd S.heap i e} {env:=upd T.env d A,heap:=upd T.heap i e}:=by
 rw[h.heap];exact h.put d A
theorem zng(h:EqX D S T){s:Sl (C.D T0)}{g:Own}{i:Int}{cells:List (AV C.D)}:zS D (wC S id T0 s g i off cells E) (wC T id T0 s g i off cells E):=by
 unfold wC;simp only[vn];split
 ·rw[h.heap];split
  ·exact .chk (.bind λq =>.bind λg' =>.bind λq'=>(h.sub _ _).owk _ _)
  ·trivial
 ·refine .bind λq=>?_
  split
  ·exact .bind λg' =>.bind λq'=>h.owk _ _
  ·trivial
 ·trivial
theorem zwG{y:Operand}{N:Nat}(c:S.op y=T.op y):VN S ti y off N=VN T ti y off N:=by unfold VN;rw[c]
theorem zos(h:EqX D S T){t:TypeId}{x y:Operand}(r:S.op x=T.op x)(c:S.op y=T.op y):zS D (xS P S t x y) (xS P T t x y):=by
 have u:=λti off N=>zwG (S:=S) (T:=T) (ti:=ti) (y:=y) (off:=off) (N:=N) c
 unfold xS XF;rw[r,c,h.heap];simp only[u];split
 ·split
  ·refine .chk ?_;cases Xc _ _ _ with
   |true=>exact zng h
   |false=>exact .bind λq =>.bind λq'=>⟨rfl,h.env⟩
  ·exact .chk (zng h)
  ·trivial
 ·split
  ·refine .chk (.bind λq=>?_);split
   ·exact .chk (.bind λv =>.bind λB =>.bind λq'=>⟨rfl,h.env⟩)
   ·trivial
  ·trivial
 ·trivial
theorem zsK(h:EqX D S T){d:Nat}{x y:Operand}(c:S.op x=T.op x)(r:S.op y=T.op y):zS D (Ws P S d ts x y) (Ws P T d ts x y):=by
 unfold Ws W4;rw[c,r,h.heap];split
 ·split
  ·split
   ·split
    ·refine .chk (.bind λq =>.bind λu=>?_);split
     ·exact .chk (.bind λxs =>.bind λq'=>⟨rfl,(h.put d _ (hp:=λ_=>I)).env⟩)
     ·trivial
    ·trivial
   ·trivial
  ·trivial
 ·trivial
theorem zwH(h:EqX D S T){c:Nat}{i:Int}{gid:Nat}{K K':St C->U3 (Out C)}(u:∀S1 r,EqX D S1 r->(∀z,(∀t,z = .tmp t->t=c\/¬ D t)->S1.op z=r.op z)->zS D (K S1) (K' r)):zS D (Wm S c id T0 i gid K) (Wm T c id T0 i gid K'):=by
 unfold Wm;rw[h.heap];split
 ·refine .chk (.bind λq=>?_);split
  ·refine u _ _ (h.put c _) λz B=>?_
   cases z with
   |tmp t=>
    show upd S.env c _ t=upd T.env c _ t;unfold upd;cases e:V t c with
    |true=>rfl
    |false=>
     simp only[U8];rcases B t rfl with z | z
     ·subst z;simp at e
     ·exact h.env t z
   |const v=>rfl
   |global g=>rfl
   |func f=>rfl
  ·trivial
 ·trivial
theorem zsL(h:EqX D S T){d:Nat}{t:TypeId}{x y:Operand}(c:∀t,x = .tmp t->¬ D t)(B:∀t,y = .tmp t->¬ D t):zS D (Wn P S d t x y) (Wn P T d t x y):=by
 unfold Wn;cases x with
 |tmp u=>
  simp only;rw[h.env u (c u rfl)];split
  ·exact zwH h λS1 F h1 r=>zgi h1 (r _ λt e =>.inr (c t e)) (r _ λt e =>.inr (B t e))
  ·trivial
 |const v=>trivial
 |global g=>trivial
 |func f=>trivial
theorem zsM(h:EqX D S T){d:Nat}{t:TypeId}{x y:Operand}(v:S.op x=T.op x)(u:S.op y=T.op y):zS D (Wr P S d t x y) (Wr P T d t x y):=by
 have hs:=λid c (e:U3 (Ent C))=>((h.sub id .und).sub c .und).newE d (nid d 0) (.row (nid d 0)) e
 have r:=λc (e:U3 (Ent C))=>(h.sub c .und).newE d (nid d 0) (.row (nid d 0)) e
 unfold Wr W3;rw[v,u];rw[show isNone (S.heap (nid d 0))=isNone (T.heap (nid d 0)) by rw[h.heap]];split
 ·split
  ·split
   ·refine .chk ?_;split
    ·rw[h.heap];split
     ·split
      ·split
       ·exact .chk (.bind λts =>.bind λs'=>hs _ _ _)
       ·trivial
      ·exact .bind λts =>.bind λs'=>r _ _
      ·trivial
     ·trivial
    ·trivial
   ·trivial
  ·trivial
 ·trivial
theorem zot(h:EqX D S T){d:Nat}{t:TypeId}{y:Operand}(u:S.op y=T.op y):zS D (xU P S d t y) (xU P T d t y):=by
 have r:=λc (e:U3 (Ent C))=>(h.sub c .und).newE d (nid d 0) (.row (nid d 0)) e
 unfold xU XG;rw[u];rw[show isNone (S.heap (nid d 0))=isNone (T.heap (nid d 0)) by rw[h.heap]];split
 ·split
  ·split
   ·refine .chk ?_;split
    ·rw[show∀i,S.heap i=T.heap i from λi=>by rw[h.heap]];split
     ·exact .bind λq=>r _ _
     ·trivial
    ·trivial
   ·trivial
  ·trivial
 ·trivial
theorem zra(h:EqX D S T){d:Nat}{t:TypeId}{x y:Operand}(c:S.op x=T.op x):zS D (XX P S d t x y) (XX P T d t x y):=by
 unfold XX wK;rw[c,h.heap];split
 ·split
  ·split
   ·refine .chk ?_;split
    ·refine .bind λq=>?_
     split
     ·exact .chk (.bind λs=>h.put d _)
     ·trivial
    ·trivial
   ·trivial
  ·trivial
 ·trivial
theorem zwI(h:S.heap=T.heap){x y:Operand}(c:S.op x=T.op x)(r:S.op y=T.op y):zfD S x y=zfD T x y:=by unfold zfD;rw[h,c,r]
theorem zwJ{x:Operand}(c:S.op x=T.op x):zfC S x=zfC T x:=by unfold zfC;rw[c]
theorem zx0(h:S.heap=T.heap){x:Operand}(c:S.op x=T.op x):isO S x=isO T x:=by unfold isO;rw[h,c]
theorem zwK(h:EqX D S T){op:Op}(M:vF D op.operands.toList):xg P S dst op=xg P T dst op/\∀k,xg P T dst op=E k->zS D (W5 P S k) (W5 P T k):=by
 have r:=h.ops M;unfold xg;split
 ·rename_i t x y;have F:=r x (by simp[W]);have v:=r y (by simp[W]);rw[zwI h.heap F v];refine⟨rfl,λk c=>?_⟩;cases u:zfD T x y with
  |false=>grind
  |true=>rw[u] at c;cases c;exact zos h F v
 ·rename_i d args ts;split
  ·rename_i x y t t' B Y;have R:x∈(W (.call ⟨.builtin .append,args,ts⟩)).toList:=by simp[W,qk];rw[<- qA,B];simp
   have U:y∈(W (.call ⟨.builtin .append,args,ts⟩)).toList:=by simp[W,qk];rw[<- qA,B];simp
   have F:=r x R;have v:=r y U;rw[zwJ F,zx0 h.heap v];refine⟨rfl,λk c=>?_⟩;cases u:zfC T x with
   |true=>
    rw[u] at c;cases c;exact .chk (zsL h (λt e=>M t (e ▸ R)) (λt e=>M t (e ▸ U)))
   |false=>
    rw[u,U8] at c;cases N:isO T y with
    |true=>rw[N] at c;cases c;exact .chk (zsM h F v)
    |false=>grind
  grind
 ·rename_i d t m H;split
  ·rename_i i y B;have v:=r y (by simp[W];exact⟨i,by rw[<- qA,B];simp⟩);rw[v];refine⟨rfl,λk c=>?_⟩;cases u:(C.own (YP P t) && zdG (zt (T.op y)) (C.nst (YP P t))) with
   |true=>rw[u] at c;cases c;exact .chk (zot h v)
   |false=>grind
  grind
 ·rename_i d t x y;refine⟨rfl,λk c=>?_⟩;cases u:C.own (YP P t) with
  |true=>rw[u] at c;cases c;exact zra h (r x (by simp[W]))
  |false=>rw[u] at c;cases c
 ·rename_i d args ts;refine⟨rfl,λk c=>?_⟩;split at c
  ·rename_i x y B;cases c;exact zsK h (r x (by simp[W,qk];rw[<- qA,B];simp)) (r y (by simp[W,qk];rw[<- qA,B];simp))
  grind
 grind
end
end
section
variable [Dfr]
section
variable {C:Cod}{S T:St C}{P:Program}{D:Nat->Prop}
def vG(D:Nat->Prop)(ts:List (Nat×Sh)):Prop:=∀q∈ts,¬ D q.1
theorem zu7(h:EqX D S T):∀{ts:List (Nat×Sh)},vG D ts->fzT S ts=fzT T ts
 |[],_=>rfl
 |(t,s)::ts,hf=>by
  unfold fzT;rw[h.env t (hf (t,s) je),zu7 h λq c=>hf q (D2 _ c)]
theorem zwL{t:Nat}{p:Nat}(h:EqX D S T)(c:¬ D t):EqX D (nilA1 es t s p S) (nilA1 es t s p T):=by
 unfold nilA1;rw[h.env t c,h.heap];split
 ·split
  ·cases isNone (T.heap _) with
   |true=>exact h.put t _
   |false=>exact h
  ·exact h
 ·exact h
theorem zrb{t:Nat}(c:¬ D t):∀(l:List Sh) (p:Nat) {S T:St C},EqX D S T->EqX D (nilA es t l p S) (nilA es t l p T)
 |[],_,S,T,h=>h
 |s::l,p,S,T,h=>zrb c l _ (zwL h c)
theorem zbh:∀(ts:List (Nat×Sh)) {S T:St C},EqX D S T->vG D ts->EqX D (nilT es ts S) (nilT es ts T)
 |[],S,T,h,_=>h
 |(t,s)::ts,S,T,h,hf=>by
  unfold nilT;rw[h.env t (hf (t,s) je),h.heap];have c:vG D ts:=λq r=>hf q (D2 _ r)
  split
  ·split
   ·cases isNone (T.heap _) with
    |true=>exact zbh ts (h.put t _) c
    |false=>exact zbh ts h c
   ·exact zbh ts h c
  ·exact zbh ts (zrb (hf _ (qE ..)) _ 0 h) c
  ·exact zbh ts h c
theorem zft(h:S.heap=T.heap) :vH S bl=vH T bl:=by
 funext k;unfold vH;rw[h]
theorem znh(h:EqX D S T):∀{ts:List (Nat×Sh)}{bl:Bl},vG D ts->zgu S ts bl=zgu T ts bl
 |[],bl,_=>rfl
 |(t,s)::ts,bl,hf=>by
  unfold zgu;rw[h.env t (hf (t,s) je),znh h λq c=>hf q (D2 _ c)]
theorem zni(h:S.heap=T.heap):∀{es:List ESh}{k:Nat}{bl:Bl},zgv S es k bl=zgv T es k bl
 |[],k,bl=>rfl
 |e::es,k,bl=>by
  unfold zgv;rw[zft h,zni h]
theorem zal(h:EqX D S T){g:Sig}(c:vG D g.ts):ZA g m S=ZA g m T:=by
 unfold ZA;rw[znh h c,zni h.heap]
theorem zu8(h:S.heap=T.heap) :∀{es:List ESh}{k:Nat},fzE S bl es k=fzE T bl es k
 |[],k=>rfl
 |e::es,k=>by
  unfold fzE;rw[zft h,zu8 h]
theorem zx1(h:EqX D S T){p:Nat}:EqX D (nil1 es id s p S) (nil1 es id s p T):=by
 unfold nil1;rw[h.heap];split
 ·split
  ·cases isNone (T.heap _) with
   |true=>exact h.heap'
   |false=>exact h
  ·exact h
 ·exact h
theorem zrc:∀(l:List Sh) (p:Nat) {S T:St C},EqX D S T->EqX D (nilC es id l p S) (nilC es id l p T)
 |[],p,S,T,h=>h
 |s::l,p,S,T,h=>zrc l _ (zx1 h)
theorem zrd{all:List ESh}:∀(es:List ESh) (k:Nat) {S T:St C},EqX D S T->EqX D (nilE all bl es k S) (nilE all bl es k T)
 |[],k,S,T,h=>h
 |e::es,k,S,T,h=>by
  refine zrd es _ ?_;unfold zgx;split
  ·exact zrc _ 0 h
  ·exact h
theorem zre(h:EqX D S T){g:Sig}(r:vG D g.ts):EqX D (g.prep m S) (g.prep m T):=by
 unfold Sig.prep;rw[zu7 h r];have c:=zbh (es:=g.es) g.ts (EqX.frz (fzT T g.ts) h) r;generalize nilT g.es g.ts (S.frz _)=S' at c |-
 generalize nilT g.es g.ts (T.frz _)=T' at c |-
 simp only;rw[zal c r];have h2:=zrd (all:=g.es) (bl:=ZA g m T') g.es 0 c;generalize nilE g.es _ g.es 0 S'=S2 at h2 |-
 generalize nilE g.es _ g.es 0 T'=T2 at h2 |-
 rw[zal h2 r,zu8 h2.heap];exact EqX.frz _ h2
theorem zrf(h:S.heap=T.heap) :∀{es:List ESh}{k:Nat},zfA S m es k=zfA T m es k
 |[],_=>rfl
 |e::es,k=>by unfold zfA;rw[h,zrf h]
theorem zkR(h:EqX D S T){g:Sig}(r:vG D g.ts):YZ g m S bl=YZ g m T bl:=by
 unfold YZ;rw[zrf h.heap,zft h.heap,show g.ts.map (λt=>S.env t.1)=g.ts.map λt=>T.env t.1 from D0 λq c=>h.env _ (r q c)]
theorem zrg(h:EqX D S T)(As:List (AV C.D)):EqX D (virt S As) (virt T As):=⟨h.heap,λt c=>by
 show(bif qb t vB then S.env t else _)=(bif qb t vB then T.env t else _)
 rw[h.env t c]⟩
theorem zkS(h:EqX D S T):EqX D (unvirt S) (unvirt T):=⟨h.heap,λt c=>by
 show(bif qb t vB then S.env t else _)=(bif qb t vB then T.env t else _)
 rw[h.env t c]⟩
theorem znj(h:EqX D S T):EqX (λt=>D (vB+t)) (xf S) (xf T):=⟨h.heap,λt c=>h.env _ c⟩
theorem zgj(h:∀t,D t->t < vB){g:Sig}:vG D g.shift.ts:=λq c=>by
 obtain⟨p,hp,rfl⟩:=D4.1 c;grind
def zjb(D:Nat->Prop) :U3 (St C×Bl×ins.ty C)->U3 (St C×Bl×ins.ty C)->Prop
 |some (S,bl,x),E (T,c,h)=>EqX D S T/\bl=c/\x=h
 |none,I=>True
 |_,_=>False
theorem zrh(c:EqX D S T)(u:∀t,D t->t < vB){N:Nat}:zjb D (YM ins S N) (YM ins T N):=by
 unfold YM;have h:=zgj u (g:=ins);have hp:=zre c (g:=ins.shift) (m:=0) h;have hb:=zal hp (g:=ins.shift) (m:=0) h;have r:∀bl,YZ ins 0 (xf (ins.shift.prep 0 S)) bl=YZ ins 0 (xf (ins.shift.prep 0 T)) bl:=λbl=>zkR (znj hp) λq v hd=>by
  grind
 simp only[hb,r];cases V N ins.ts.length && qs ins.es.length 64 with
 |false=>trivial
 |true=>
  show zjb D (qC _ _) (qC _ _);cases YZ ins 0 (xf (ins.shift.prep 0 T)) (ZA ins.shift 0 (ins.shift.prep 0 T)) with
  |none=>trivial
  |some x=>exact⟨hp,rfl,rfl⟩
theorem zsN(h:EqX D S T)(u:∀t,D t->t < vB){As:List (AV C.D)}:zjb D (YX ins S As) (YX ins T As):=by
 unfold YX;have v:=zrg h As;have c:=zgj u (g:=ins);have hp:=zre v (g:=ins.shift) (m:=0) c;have hb:=zal hp (g:=ins.shift) (m:=0) c;have r:∀bl,YZ ins 0 (xf (ins.shift.prep 0 (virt S As))) bl=YZ ins 0 (xf (ins.shift.prep 0 (virt T As))) bl:=λbl=>zkR (znj hp) λq B hd=>by
  grind
 simp only[hb,r];cases V As.length ins.ts.length && qs ins.es.length 64 with
 |false=>trivial
 |true=>
  show zjb D (qC _ _) (qC _ _);cases YZ ins 0 (xf (ins.shift.prep 0 (virt T As))) (ZA ins.shift 0 (ins.shift.prep 0 (virt T As))) with
  |none=>trivial
  |some x=>exact⟨hp,rfl,rfl⟩
theorem ziA(h:EqX D S T){Sr:St C}{d:Nat}:EqX D (Zz S Sr d bl es) (Zz T Sr d bl es):=by
 refine⟨?_,λt c=>?_⟩
 ·unfold Zz;simp only;rw[h.heap]
 ·show AV.kill _ (AV.knx _ (S.env t))=AV.kill _ (AV.knx _ (T.env t));rw[h.env t c]
theorem zfu(h:S.heap=T.heap){Sr:St C}{d:Nat}:∀{k:Nat},VE S Sr d bl k=VE T Sr d bl k
 |0=>rfl
 |k+1=>by unfold VE;rw[h,zfu h]
theorem zdq{outs:List (XK×Sig)}{r:zh C outs}{f g:XE C->St C->U3 (Out C)}(h:∀e Sr,zS D (f e Sr) (g e Sr)):zS D (zT outs r f) (zT outs r g):=by
 have B:zT outs r (λ_ _=>True):=by
  revert r
  induction outs with
  |nil=>intro r;exact r.elim
  |cons o l c=>
   have one:∀y:XK.ty C o.1 o.2,Yj o.1 o.2 y (λ_ _=>True):=λy=>by
    let⟨k,g⟩:=o;cases k<;>trivial
   cases l with
   |nil=>intro r;exact one r
   |cons v l=>
    intro r;cases r with
    |inl a=>exact one a
    |inr y=>exact c (r:=y)
 revert r
 induction outs with
 |nil=>intro r;exact r.elim
 |cons o l c=>
  have one:∀y:XK.ty C o.1 o.2,zS D (Yj o.1 o.2 y f) (Yj o.1 o.2 y g):=λy=>by
   let⟨k,F⟩:=o;cases k<;>exact h _ _
  cases l with
  |nil=>intro r _;exact one r
  |cons v l=>
   intro r u;cases r with
   |inl a=>exact one a
   |inr y=>exact c (r:=y) u
theorem zri(h:EqX D S T){s:Spec C}{d:Nat}{x:s.ins.ty C}:zS D (xA s d S bl x) (xA s d T bl x):=by
 unfold xA;refine .bind λr =>.chk (zdq λe Sr=>?_)
 unfold We;rw[zfu h.heap];refine .chk ?_;have c:=zkS (ziA h (Sr:=Sr) (d:=d) (bl:=bl) (es:=yn s.outs r));cases e with
 |ret=>exact⟨c.heap,(c.put d _ (hp:=λ_=>I)).env⟩
 |pan A=>exact⟨rfl,c⟩
 |normal=>trivial
 |exit i=>trivial
theorem ziB(h:EqX D S T){s:Spec C}{d:Nat}{x:s.ins.ty C}:zS D (yI s d S x) (yI s d T x):=by
 unfold yI;refine .bind λr=>zdq λe Sr =>.chk ?_
 unfold We;rw[zfu h.heap];refine .chk ?_;have c:=zkS (ziA h (Sr:=Sr) (d:=d) (bl:=[]) (es:=yn s.outs r));cases e with
 |ret=>exact⟨c.heap,(c.put d _ (hp:=λ_=>I)).env⟩
 |pan A=>exact⟨rfl,c⟩
 |normal=>trivial
 |exit i=>trivial
theorem ziC(h:EqX D S T){s:Spec C}{d:Nat}{x:s.ins.ty C}:zS D (yU s d S x) (yU s d T x):=by
 unfold yU;refine .chk (.bind λr=>zdq λe Sr=>?_);unfold zbg;cases e with
 |ret=>exact .chk ⟨h.heap,(h.put d _ (hp:=λ_=>I)).env⟩
 |pan A=>exact .chk ⟨rfl,h⟩
 |normal=>trivial
 |exit i=>trivial
theorem zou(h:S.heap=T.heap){i:Int}{K:(U:Nat)->Sl (C.D U)->U3 α}:zM S id T0 i K=zM T id T0 i K:=by
 unfold zM;rw[h]
omit [Dfr] in
mutual
theorem zx2(h:S.heap=T.heap):∀{A:AV C.D}{K:AV C.D->U3 α},vQ S A K=vQ T A K
 | .nx id T i .whole,K=>zou h
 | .agg cs,K=>zhC h (As:=cs)
 | .nx _ _ _ (.part _ _ _),K=>rfl
 | .nx _ _ _ (.elem _ _ _),K=>rfl
 | .int _ _,K=>rfl
 | .bool _,K=>rfl
 | .str _,K=>rfl
 | .tup _,K=>rfl
 | .sl _ _ _,K=>rfl
 | .row _,K=>rfl
 | .pc _ _,K=>rfl
 | .pr _ _ _ _,K=>rfl
 | .pz _ _ _,K=>rfl
 | .pnil,K=>rfl
 | .nils,K=>rfl
 | .clo _ _,K=>rfl
 | .nilf,K=>rfl
 | .ifc _ _,K=>rfl
 | .nili,K=>rfl
 | .und,K=>rfl
theorem zhC(h:S.heap=T.heap):∀{As:List (AV C.D)}{K:List (AV C.D)->U3 α},Wg S As K=Wg T As K
 |[],K=>rfl
 |A::As,K=>by
  show vQ S A _=vQ T A _;rw[zx2 h (A:=A)];congr 1;funext B;exact zhC h (As:=As)
end
omit [Dfr] in
mutual
theorem zx3:∀{A:AV C.D}{f g:AV C.D->U3 (Out C)},(∀B,zS D (f B) (g B))->zS D (vQ T A f) (vQ T A g)
 | .nx id T0 i .whole,f,g,h=>by
  show zS D (zM T id T0 i _) (zM T id T0 i _);unfold zM;split
  ·refine .chk (.bind λq=>?_);split
   ·exact h _
   ·trivial
  ·trivial
 | .agg cs,f,g,h=>zhD (As:=cs) λc=>h _
 | .nx _ _ _ (.part _ _ _),f,g,h=>h _
 | .nx _ _ _ (.elem _ _ _),f,g,h=>h _
 | .int _ _,f,g,h=>h _
 | .bool _,f,g,h=>h _
 | .str _,f,g,h=>h _
 | .tup _,f,g,h=>h _
 | .sl _ _ _,f,g,h=>h _
 | .row _,f,g,h=>h _
 | .pc _ _,f,g,h=>h _
 | .pr _ _ _ _,f,g,h=>h _
 | .pz _ _ _,f,g,h=>h _
 | .pnil,f,g,h=>h _
 | .nils,f,g,h=>h _
 | .clo _ _,f,g,h=>h _
 | .nilf,f,g,h=>h _
 | .ifc _ _,f,g,h=>h _
 | .nili,f,g,h=>h _
 | .und,f,g,h=>h _
theorem zhD:∀{As:List (AV C.D)}{f g:List (AV C.D)->U3 (Out C)},(∀c,zS D (f c) (g c))->zS D (Wg T As f) (Wg T As g)
 |[],f,g,h=>h _
 |A::As,f,g,h=>zx3 (A:=A) λB=>zhD (As:=As) λc=>h _
end
theorem zwM(h:EqX D S T)(u:∀t,D t->t < vB)(As c:List (AV C.D)):EqX D (zgb S As c) (zgb T As c):=by
 have h1:=EqX.frz (AV.nxss As) (zrg h As);refine⟨h1.heap,λt r=>?_⟩;show(bif qb t vB then _ else match zaY As c (t - vB) with | some B=>B | none=>_)=(bif qb t vB then _ else match zaY As c (t - vB) with | some B=>B | none=>_);rw[h1.env t r]
theorem zhE(r:∀t,D t->t < vB):∀{ts:List (Nat×Sh)}{S T:St C}{f g:St C->U3 (Out C)},EqX D S T->(∀S1 c,EqX D S1 c->zS D (f S1) (g c))->zS D (wB ts S f) (wB ts T g)
 |[],S,T,f,g,h,k=>k _ _ h
 |(t,s)::ts,S,T,f,g,h,k=>by
  unfold wB;have v:¬ D (vB+t):=λhd=>jE
  have u:∀id,XB S id=XB T id:=λid=>by unfold XB;rw[h.heap]
  rw[h.env _ v];split
  ·rename_i T0 o id off _;rw[u];have h1:=EqX.frz (XB T id) h;rw[h1.heap];split
   ·refine .bind λq=>zhE r ?_ k
    have h2:=h1.sub id .und;rw[h2.heap];exact h2.put (vB+t) _
   ·trivial
  ·exact zhE r h k
theorem ziD(h:EqX D S T)(c:∀t,D t->t < vB){d:Nat}{As:List (AV C.D)}:∀{Γ:List (Spec C)},zS D (xB Γ S d f As) (xB Γ T d f As)
 |[]=>trivial
 |s::Γ=>by
  unfold xB;cases(V s.f f && (s.view || s.viewO)) with
  |false=>exact ziD h c
  |true=>
   simp only[Dy];rw[zhC h.heap];refine zhD λv =>.chk (zhE c (zwM h c As v) λS1 u h1=>?_)
   have r:=zrh h1 c (ins:=s.ins) (N:=As.length);generalize YM s.ins S1 As.length=a at r;generalize YM s.ins u As.length=b at r
   match a,b,r with
   |none,I,_=>trivial
   |some (S2,bl,x),E (B,_,_),⟨h2,rfl,rfl⟩=>
    show zS D (bif s.view then yU s d S x else yI s d S x) (bif s.view then yU s d T x else yI s d T x);cases s.view with
    |true=>exact ziC h
    |false=>exact ziB h
theorem zdr(h:EqX D S T)(c:∀t,D t->t < vB){Γ0:List (Spec C)}{d:Nat}{As:List (AV C.D)}:∀{Γ:List (Spec C)},zS D (YN Γ0 Γ S d f As) (YN Γ0 Γ T d f As)
 |[]=>ziD h c
 |s::Γ=>by
  unfold YN;cases V s.f f with
  |false=>exact zdr h c
  |true=>
   simp only[Dy];have r:=zsN h c (ins:=s.ins) (As:=As);generalize YX s.ins S As=a at r;generalize YX s.ins T As=b at r
   match a,b,r with
   |none,I,_=>exact zdr h c
   |some (S2,bl,x),E (u,_,_),⟨h2,rfl,rfl⟩=>
    show zS D (bif s.view then yU s d S x else bif s.viewO then yI s d S x else xA s d S2 bl x) (bif s.view then yU s d T x else bif s.viewO then yI s d T x else xA s d u bl x);cases s.view with
    |true=>exact ziC h
    |false=>
     cases s.viewO with
     |true=>exact ziB h
     |false=>exact zri h2
theorem zkT(h:EqX D S T)(c:∀t,D t->t < vB){d:Nat}{As:List (AV C.D)}{Γ:List (Spec C)}:zS D (vE Γ S d f As) (vE Γ T d f As):=zdr h c
theorem zkU(h:EqX D S T){ty:TypeId}{op:Op}(c:vF D op.operands.toList):yG P S ty op=yG P T ty op:=zne (h.ops c) λid _=>by rw[h.heap]
omit [Dfr] in
theorem zS.map{x:U3 (AV C.D)}{d:Nat}(h:EqX D S T):zS D (x.map λA =>.go (S.put d A)) (x.map λA =>.go (T.put d A)):=by
 cases x with
 |none=>trivial
 |some A=>exact⟨h.heap,(h.put d A (hp:=λ_=>Option.none)).env⟩
theorem ziE(h:EqX D S T){x:Operand}(c:S.op x=T.op x):zS D (Xh S x) (Xh T x):=by
 unfold Xh;rw[c];split
 ·exact .chk ⟨rfl,h⟩
 ·trivial
theorem zgk(h:EqX D S T){d:Nat}{ty t:TypeId}{x:Operand}(c:S.op x=T.op x)(r:vF D (qR t x lo hi I).operands.toList):zS D (yH P S d ty t x lo hi) (yH P T d ty t x lo hi):=by
 unfold yH;rw[c];split
 ·rename_i id e;have h1:=EqX.frz1 h id;rw[zkU h1 r];exact .bind λA=>⟨h1.heap,(h1.put d A (hp:=λ_=>I)).env⟩
 ·trivial
theorem zov(h:EqX D S T){q:Opts}{d:Nat}{ty t:TypeId}{x:Operand}{r:U3 Operand}(v:vF D (qR t x lo hi r).operands.toList):zS D (Ye q P S d ty t x lo hi r) (Ye q P T d ty t x lo hi r):=by
 have c:=h.ops v;have u:S.op x=T.op x:=c x (by simp[W]);unfold Ye;split
 ·cases q.fs with
  |true=>exact zgk h u v
  |false=>
   have h1:∀y,hi=E y->S.op y=T.op y:=λy e=>c y (by subst e;simp[W])
   exact zor h u h1
 ·exact zgk h u v
 ·trivial
theorem zmR(h:EqX D S T){d:Nat}{t:TypeId}:zS D (Xz S d t) (Xz T d t):=by
 unfold Xz;rw[h.heap];split
 ·exact .chk (h.put d _)
 ·trivial
theorem zhF(h:EqX D S T){t:TypeId}{x y:Operand}(u:S.op x=T.op x)(v:S.op y=T.op y){f g:(r id q T:Nat)->(b:ByteArray)->(s:Sl (C.D T))->(M:MapR C.D C.opv T)->M.k.ty->U3 (Out C)}(c:∀r id q T b s M k,zS D (f r id q T b s M k) (g r id q T b s M k)):zS D (zai P S t x y f) (zai P T t x y g):=by
 unfold zai;rw[u,v,h.heap];split
 ·split
  ·split
   ·split
    ·split
     ·exact .chk (c _ _ _ _ _ _ _ _)
     ·trivial
    ·trivial
   ·trivial
  ·trivial
 ·trivial
theorem zsO(h:EqX D S T){d:Nat}{t:TypeId}{x y:Operand}(c:S.op x=T.op x)(r:S.op y=T.op y):zS D (zga P S d t x y) (zga P T d t x y):=by
 refine zhF h c r λu id q T b s M k=>?_
 split
 ·exact .chk ⟨h.heap,(h.put d _ (hp:=λ_=>I)).env⟩
 ·trivial
theorem zow(h:EqX D S T){t:TypeId}{x y z:Operand}(r:S.op x=T.op x)(u:S.op y=T.op y)(c:S.op z=T.op z):zS D (zbO P S t x y z) (zbO P T t x y z):=by
 refine zhF h r u λv id q T b s M k=>?_
 rw[c];split
 ·exact⟨by rw[h.heap],h.env⟩
 ·trivial
theorem zox(h:EqX D S T){x y:Operand}(c:S.op x=T.op x)(r:S.op y=T.op y):zS D (wI P S ts x y) (wI P T ts x y):=by
 unfold wI;split
 ·exact zhF h c r λu id q T b s M k=>⟨by rw[h.heap],h.env⟩
 ·trivial
theorem zx4{q:Opts}{Γ:List (Spec C)}{n:Nat}{o:Oper}(h:EqX D S T)(R:∀t,D t->t < vB)(B:vF D o.op.operands.toList):zS D (VF q Γ P n o S) (VF q Γ P n o T):=by
 let⟨dst,op,ty,ps,af,g⟩:=o;have r:=h.ops B;simp only at B r;unfold VF;cases dst with
 |none=>
  simp only;split
  ·rename_i t x y;exact zq9 h (λt e=>B t (by simp[W,e])) (λt e=>B t (by simp[W,e]))
  ·rename_i t x y z;exact zow h (r x (by simp[W])) (r y (by simp[W])) (r z (by simp[W]))
  ·rename_i args ts;split
   ·rename_i x y e;have u:∀z∈args.toList,S.op z=T.op z:=λz M=>r z (by simp[W,qk];simpa using M)
    rw[e] at u;exact zox h (u x je) (u y je)
   ·trivial
  ·rename_i x;exact ziE h (r x (by simp[W]))
  ·trivial
 |some d=>
  simp only;refine .chk ?_;have rd:∀v,v=op->zS D ((yG P S ty v).map λA =>.go (S.put d A)) ((yG P T ty v).map λA =>.go (T.put d A)):=λv e=>by
   subst e;rw[zkU h B];exact .map h
  unfold xC;split
  ·exact zq8 h
  ·rename_i t x;rw[r x (by simp[W])];refine .chk ?_;cases C.bz t with
   |true=>exact .bind λq=>zS.map (x:=E (.pz _ q 0)) h
   |false=>exact znf h
  ·rename_i t x y;exact zsJ h (r x (by simp[W]))
  ·rename_i t m H;exact zoq h (by simpa[W] using B)
  ·rename_i t x lo hi Y;rw[zkU h B];split
   ·exact⟨h.heap,(h.put d _ (hp:=λ_=>I)).env⟩
   ·exact zov h B
  ·rename_i t t' x;have F:=r x (by simp[W]);grind
  ·rename_i c args ts;have u:args.toList.map S.op=args.toList.map T.op:=D0 λx F=>r x (by simp[W,qk];grind)
   rw[r c (by simp[W,qk]),u];split
   ·exact zS.chk (zkT h R)
   ·trivial
  ·rename_i x N args ts;have u:args.toList.map S.op=args.toList.map T.op:=D0 λx F=>r x (by simp[W,qk];exact .inr (by simpa using F))
   unfold WT;rw[r x (by simp[W,qk]),u];split
   ·split
    ·exact zkT h R
    ·trivial
   ·trivial
  ·rename_i args ts;split
   ·rename_i x y t t' U e2;have u:∀z∈args.toList,S.op z=T.op z:=λz M=>r z (by simp[W,qk];simpa using M)
    rw[U] at u;exact .chk (zgi h (u x je) (u y je))
   ·trivial
  ·exact zmR h
  ·rename_i t x y;exact zsO h (r x (by simp[W])) (r y (by simp[W]))
  ·rename_i x;exact ziE h (r x (by simp[W]))
  grind
theorem zAd{q:Opts}{Γ:List (Spec C)}{n:Nat}{o:Oper}(h:EqX D S T)(u:∀t,D t->t < vB)(c:vF D o.op.operands.toList):zS D (stp q Γ P n o S) (stp q Γ P n o T):=by
 let⟨h1,h2⟩:=zwK (P:=P) (dst:=o.dst) h c;unfold stp;rw[h1];cases r:xg P T o.dst o.op with
 |some k=>exact .chk (h2 k r)
 |none=>exact zx4 h u c
end
end
section
variable [Dfr]
def xo(id:Nat):Nat:=id+1099511627776
mutual
def AV.avoid{D:Nat->Type}(l:List Nat):AV D->Bool
 | .row id=> !zD id l
 | .pc id _=> !zD id l
 | .pr id _ _ _=> !zD id l
 | .nx id _ _ _=> !zD id l && !zD (xo id) l
 | .agg cs=>AV.avoids l cs
 | .tup cs=>AV.avoids l cs
 | .clo _ cs=>AV.avoids l cs
 | .ifc _ A=>AV.avoid l A
 |_=>G
def AV.avoids{D:Nat->Type}(l:List Nat):List (AV D)->Bool
 |[]=>G
 |A::As=>AV.avoid l A && AV.avoids l As
end
omit [Dfr] in
mutual
theorem zds{D:Nat->Type}{R:AV D}(c:zD id l=G):∀{A:AV D},A.avoid l=G->AV.sub id R A=A
 | .row j,h=>by
  unfold AV.sub;cases e:V j id with
  |true=>
   have:=ge e;subst this;simp only[AV.avoid,c] at h;cases h
  |false=>rfl
 | .pc j o,h=>by
  unfold AV.sub;cases e:V j id with
  |true=>
   have:=ge e;subst this;simp only[AV.avoid,c] at h;cases h
  |false=>rfl
 | .pr j _ _ _,h=>by
  unfold AV.sub;cases e:V j id with
  |true=>
   have:=ge e;subst this;simp only[AV.avoid,c] at h;cases h
  |false=>rfl
 | .nx j _ _ _,h=>by
  unfold AV.sub;cases e:V j id with
  |true=>
   have:=ge e;subst this;simp only[AV.avoid,c] at h;cases h
  |false=>rfl
 | .agg cs,h=>by unfold AV.sub;rw[Wi c h]
 | .tup cs,h=>by unfold AV.sub;rw[Wi c h]
 | .clo f cs,h=>by unfold AV.sub;rw[Wi c h]
 | .ifc t A,h=>by unfold AV.sub;rw[zds c (A:=A) h]
 | .int _ _,_=>rfl
 | .bool _,_=>rfl
 | .str _,_=>rfl
 | .sl _ _ _,_=>rfl
 | .pz _ _ _,_=>rfl
 | .pnil,_=>rfl
 | .nils,_=>rfl
 | .nilf,_=>rfl
 | .nili,_=>rfl
 | .und,_=>rfl
theorem Wi{D:Nat->Type}{R:AV D}(c:zD id l=G):∀{A:List (AV D)},AV.avoids l A=G->AV.subs id R A=A
 |[],_=>rfl
 |A::As,h=>by
  simp only[AV.avoids,gf] at h;unfold AV.subs;rw[zds c h.1,Wi c h.2]
end
omit [Dfr] in
mutual
theorem zb1{D:Nat->Type}(hp:∀i,p i=G->zD i l=G):∀{A:AV D},A.avoid l=G->AV.kill p A=A
 | .row j,h=>by
  unfold AV.kill;cases e:p j with
  |true=>simp only[AV.avoid,hp j e] at h;cases h
  |false=>rfl
 | .pc j o,h=>by
  unfold AV.kill;cases e:p j with
  |true=>simp only[AV.avoid,hp j e] at h;cases h
  |false=>rfl
 | .pr j _ _ _,h=>by
  unfold AV.kill;cases e:p j with
  |true=>simp only[AV.avoid,hp j e] at h;cases h
  |false=>rfl
 | .nx j _ _ _,h=>by
  unfold AV.kill;cases e:p j with
  |true=>simp only[AV.avoid,hp j e] at h;cases h
  |false=>rfl
 | .agg cs,h=>by unfold AV.kill;rw[wv hp h]
 | .tup cs,h=>by unfold AV.kill;rw[wv hp h]
 | .clo f cs,h=>by unfold AV.kill;rw[wv hp h]
 | .ifc t A,h=>by unfold AV.kill;rw[zb1 hp (A:=A) h]
 | .int _ _,_=>rfl
 | .bool _,_=>rfl
 | .str _,_=>rfl
 | .sl _ _ _,_=>rfl
 | .pz _ _ _,_=>rfl
 | .pnil,_=>rfl
 | .nils,_=>rfl
 | .nilf,_=>rfl
 | .nili,_=>rfl
 | .und,_=>rfl
theorem wv{D:Nat->Type}(hp:∀i,p i=G->zD i l=G):∀{A:List (AV D)},AV.avoids l A=G->AV.kills p A=A
 |[],_=>rfl
 |A::As,h=>by
  simp only[AV.avoids,gf] at h;unfold AV.kills;rw[zb1 hp h.1,wv hp h.2]
end
omit [Dfr] in
mutual
theorem zam{D:Nat->Type}(hp:∀i,p i=G->zD (xo i) l=G):∀{A:AV D},A.avoid l=G->AV.knx p A=A
 | .row j,h=>rfl
 | .pc j o,h=>rfl
 | .pr j _ _ _,h=>rfl
 | .nx j _ _ _,h=>by
  unfold AV.knx;cases e:p j with
  |true=>simp only[AV.avoid,hp j e,Do,Bool.and_false] at h;cases h
  |false=>rfl
 | .agg cs,h=>by unfold AV.knx;rw[XV hp h]
 | .tup cs,h=>by unfold AV.knx;rw[XV hp h]
 | .clo f cs,h=>by unfold AV.knx;rw[XV hp h]
 | .ifc t A,h=>by unfold AV.knx;rw[zam hp (A:=A) h]
 | .int _ _,_=>rfl
 | .bool _,_=>rfl
 | .str _,_=>rfl
 | .sl _ _ _,_=>rfl
 | .pz _ _ _,_=>rfl
 | .pnil,_=>rfl
 | .nils,_=>rfl
 | .nilf,_=>rfl
 | .nili,_=>rfl
 | .und,_=>rfl
theorem XV{D:Nat->Type}(hp:∀i,p i=G->zD (xo i) l=G):∀{A:List (AV D)},AV.avoids l A=G->AV.knxs p A=A
 |[],_=>rfl
 |A::As,h=>by
  simp only[AV.avoids,gf] at h;unfold AV.knxs;rw[zam hp h.1,XV hp h.2]
end
section
variable {C:Cod}{S T:St C}{P:Program}
def Ent.avoid(l:List Nat):Ent C->Bool
 | .cell cs=>AV.avoids l cs
 | .row _ _=>G
 | .obj _ _ _ _=>G
 | .orow _ _ _=>G
def zkV(l:List Nat):U3 (Ent C)->Bool
 |some e=>e.avoid l
 |none=>G
structure Keeps(S T:St C)(d:U3 Nat)(l:List Nat)(p:Nat->Bool):Prop where
 env:∀t,t < vB->d≠E t->(S.env t).avoid l=G->T.env t=S.env t
 heap:∀id,p id=O->zkV l (S.heap id)=G->T.heap id=S.heap id
omit [Dfr] in
theorem Keeps.refl(S:St C){d:U3 Nat}:Keeps S S d l p:=⟨λ_ _ _ _=>rfl,λ_ _ _=>rfl⟩
omit [Dfr] in
theorem Keeps.trans{U:St C}{d:U3 Nat}(h:Keeps S T d l p)(k:Keeps T U d l p):Keeps S U d l p:=
 ⟨λt h1 h2 c=>by have e:=h.env t h1 h2 c;rw[k.env t h1 h2 jE,e],λid h1 h2=>by have e:=h.heap id h1 h2;rw[k.heap id h1 jE,e]⟩
omit [Dfr] in
theorem Keeps.sub{R:AV C.D}{d:U3 Nat}(c:zD id l=G)(hp:p id=G):Keeps S (S.sub id R) d l p:=by
 refine⟨λt _ _ h=>zds c h,λj u h=>?_⟩;show(bif V j id then I else(S.heap j).map (Ent.sub id R))=S.heap j;cases e:V j id with
 |true=>have:=ge e;grind
 |false=>
  simp only[U8];cases hs:S.heap j with
  |none=>rfl
  |some r=>
   rw[hs] at h;cases r with
   |row T s=>rfl
   |obj q T b s=>rfl
   |orow T s g=>rfl
   |cell cs=>show E (Ent.cell (AV.subs id R cs))=_;rw[Wi c h]
theorem zb2(S:St C)(id:Nat):(∃R,S.frz1 id=S.sub id R)\/S.frz1 id=S:=by
 unfold St.frz1;split
 ·grind
 all_goals grind
omit [Dfr] in
theorem Keeps.frz{d:U3 Nat}:∀(r:List Nat) {S:St C},(∀id∈r,zD id l=G/\p id=G)->Keeps S (S.frz r) d l p
 |[],S,_ =>.refl S
 |id::r,S,h=>by
  have h1:=h id je;have k:Keeps S (S.frz1 id) d l p:=by
   rcases zb2 S id with⟨R,e⟩ | e
   ·rw[e];exact .sub h1.1 h1.2
   ·rw[e];exact .refl S
  exact k.trans (Keeps.frz r λj c=>h j (D2 _ c))
theorem Keeps.new{d:Nat}{A:AV C.D}{e:U3 (Ent C)}(hp:p id=G):Keeps S {env:=upd S.env d A,heap:=upd S.heap id e} (E d) l p:=
 ⟨λt _ h2 _=>zq λe=>h2 (by rw[e]),λj c _=>zq λe=>jE⟩
omit [Dfr] in
theorem Keeps.ent{e:U3 (Ent C)}{d:U3 Nat}(hp:p id=G):Keeps S {S with heap:=upd S.heap id e} d l p:=
 ⟨λt _ _ _=>rfl,λj c _=>zq λe=>jE⟩
omit [Dfr] in
theorem Keeps.put{d:Nat}{A:AV C.D}:Keeps S (S.put d A) (E d) l p:=⟨λt _ h2 _=>zq λe=>h2 (by rw[e]),λj _ _=>rfl⟩
omit [Dfr] in
theorem Keeps.virt{As:List (AV C.D)}{d:U3 Nat}:Keeps S (virt S As) d l p:=⟨λt c _ _=>by
 show(bif qb t vB then S.env t else _)=_
 rw[show qb t vB=G from by rw[Da];exact c];rfl,λj _ _=>rfl⟩
omit [Dfr] in
theorem Keeps.unvirt{d:U3 Nat}:Keeps S (unvirt S) d l p:=⟨λt c _ _=>by
 show(bif qb t vB then S.env t else _)=_
 rw[show qb t vB=G from by rw[Da];exact c];rfl,λj _ _=>rfl⟩
omit [Dfr] in
theorem Keeps.nilA1{t q:Nat}{d:U3 Nat}(hp:∀id,1048576<=id->p id=G)(r:vB<=t):Keeps S (nilA1 es t s q S) d l p:=by
 unfold Px.nilA1;split
 ·split
  ·cases isNone (S.heap _) with
   |true=>
    refine⟨λt' c _ _=>zq λe=>?_,λj h _=>zq λe=>?_⟩
    all_goals grind
   |false=>exact .refl S
  ·exact .refl S
 ·exact .refl S
omit [Dfr] in
theorem Keeps.nilA{t:Nat}{d:U3 Nat}(hp:∀id,1048576<=id->p id=G)(c:vB<=t):∀(sl:List Sh) (q:Nat) {S:St C},Keeps S (nilA es t sl q S) d l p
 |[],q,S =>.refl S
 |s::sl,q,S=>(Keeps.nilA1 hp c).trans (Keeps.nilA hp c sl _)
omit [Dfr] in
theorem Keeps.nilT{d:U3 Nat}(hp:∀id,1048576<=id->p id=G):∀(ts:List (Nat×Sh)) {S:St C},(∀q∈ts,vB<=q.1)->Keeps S (nilT es ts S) d l p
 |[],S,_ =>.refl S
 |(t,s)::ts,S,hts=>by
  have c:∀q∈ts,vB<=q.1:=λq r=>hts q (D2 _ r)
  unfold Px.nilT;split
  ·split
   ·cases isNone (S.heap _) with
    |false=>exact Keeps.nilT hp ts c
    |true=>
     refine Keeps.trans ?_ (Keeps.nilT hp ts c);refine⟨λt' h _ _=>zq λe=>?_,λj u _=>zq λe=>?_⟩
     ·have:=hts _ (qE ..);grind
     grind
   ·exact Keeps.nilT hp ts c
  ·exact(Keeps.nilA hp (hts _ (qE ..)) _ 0).trans (Keeps.nilT hp ts c)
  ·exact Keeps.nilT hp ts c
omit [Dfr] in
theorem Keeps.nil1{q:Nat}{d:U3 Nat}(hp:∀id,1048576<=id->p id=G)(hid:p id=G):Keeps S (nil1 es id s q S) d l p:=by
 unfold Px.nil1;split
 ·split
  ·cases isNone (S.heap _) with
   |true=>
    refine⟨λ_ _ _ _=>rfl,λj h _=>?_⟩;show upd (upd S.heap _ _) id _ j=S.heap j;have c:j≠id:=λe=>jE
    rw[zq c];exact zq λe=>jE
   |false=>exact .refl S
  ·exact .refl S
 ·exact .refl S
omit [Dfr] in
theorem Keeps.nilC{d:U3 Nat}(hp:∀id,1048576<=id->p id=G)(hid:p id=G):∀(sl:List Sh) (q:Nat) {S:St C},Keeps S (nilC es id sl q S) d l p
 |[],q,S =>.refl S
 |s::sl,q,S=>(Keeps.nil1 hp hid).trans (Keeps.nilC hp hid sl _)
omit [Dfr] in
theorem Keeps.nilE{all:List ESh}{d:U3 Nat}(hp:∀id,1048576<=id->p id=G)(hb:∀id,yf id bl=G->p id=G):∀(es:List ESh) (k:Nat) {S:St C},Keeps S (nilE all bl es k S) d l p
 |[],k,S =>.refl S
 |e::es,k,S=>by
  refine Keeps.trans ?_ (Keeps.nilE hp hb es _);unfold zgx;split
  ·rename_i id e';exact Keeps.nilC hp (hb id (Xj e')) _ 0
  ·exact .refl S
def zu9(g:Sig)(m:Nat)(S:St C):Bl:=ZA g m (nilT g.es g.ts (S.frz (fzT S g.ts)))
def zgl(g:Sig)(m:Nat)(S:St C):List Nat:=
 let S1:=nilT g.es g.ts (S.frz (fzT S g.ts))
 let S2:=nilE g.es (ZA g m S1) g.es 0 S1
 fzT S g.ts++fzE S2 (ZA g m S2) g.es 0
omit [Dfr] in
theorem Keeps.prep{g:Sig}{d:U3 Nat}(hp:∀id,1048576<=id->p id=G)(c:∀q∈g.ts,vB<=q.1)(hb:∀id,yf id (zu9 g m S)=G->p id=G)(h:∀id∈zgl g m S,zD id l=G/\p id=G):Keeps S (g.prep m S) d l p:=by
 unfold Sig.prep;simp only;refine(Keeps.frz _ λid hid=>h id (by unfold zgl;grind)).trans ((Keeps.nilT hp g.ts c).trans ((Keeps.nilE hp hb g.es 0).trans (Keeps.frz _ λid hid=>h id (by unfold zgl;grind))))
theorem zbi(d k:Nat)(c:k < 64):nid d k / 64=d+1:=by unfold nid;omega
theorem Keeps.merge{Sr:St C}{d:Nat}(v:∀id∈YH es bl,zD id l=G/\p id=G)(hb:∀id,yf id bl=G->p id=G)(U:∀k,k < 64->p (nid d k)=G)(F:es.length<=64)(u:∀id,yf id bl=G->zD (xo id) l=G):Keeps S (Zz S Sr d bl es) (E d) l p:=by
 have c:∀i,zD i (YH es bl)=G->zD i l=true:=λi hi=>(v i (zR.1 hi)).1
 refine⟨λt _ _ h=>by show AV.kill _ (AV.knx _ (S.env t))=_;rw[zam (λid hid=>u id jE) h,zb1 c h],λj r h=>?_⟩;have B:(Zz S Sr d bl es).heap j=bif zD j (YH es bl) then I else(S.heap j).map λe=>Ent.kill (λi=>zD i (YH es bl)) (Ent.knx (λi=>yf i bl && !zD i (kpL Sr bl 0)) e):=by
  refine vP λk e R N=>?_
  rw[UZ];intro e';unfold xz at e';split at e'
  ·rename_i id hid;subst e';rw[hb _ (Xj hid)] at r;cases r
  grind
 rw[B];cases M:zD j (YH es bl) with
 |true=>rw[(v j (zR.1 M)).2] at r;cases r
 |false=>
  simp only[U8];cases hs:S.heap j with
  |none=>rfl
  |some H=>
   rw[hs] at h;cases H with
   |row T s=>rfl
   |obj q T b s=>rfl
   |orow T s g=>rfl
   |cell cs=>show E (Ent.cell (AV.kills _ (AV.knxs _ cs)))=_;rw[XV (λid hid=>u id jE) h,wv c h]
abbrev Tch:=List Nat×(Nat->Bool)
def zdt(d:Nat):U3 Tch:=E ([],λi=>V (i / 64) (d+1))
def zb3:Bl->List Nat
 |[]=>[]
 |some id::r=>xo id::zb3 r
 |none::r=>zb3 r
theorem zfv:∀{bl:Bl},yf id bl=G->xo id∈zb3 bl
 |some a::r,h=>by
  simp only[yf,UO] at h;rcases h with h | h
  ·rw[ge h];simp[zb3]
  ·exact D2 _ (zfv h)
 |none::r,h=>zfv (bl:=r) h
 |[],h=>by cases h
def zrj(id:Nat)(l:List Nat):U3 Tch:=E (l,λi=>V i id || zD i l)
def WU(Γ:List (Spec C))(S:St C)(d f:Nat)(As:List (AV C.D)):U3 Tch:=match Γ with
 |[]=>E ([],λi=>V (i / 64) (d+1))
 |s::Γ=>bif V s.f f then(match YX s.ins S As with
  |some (S2,bl,x)=>bif s.view then E ([],λ_=>O) else bif s.viewO then chk (s.outs.all λo=>qs o.2.es.length 64) (E ([],λi=>V (i / 64) (d+1))) else go s bl (zu9 s.ins.shift 0 (virt S As)) (zgl s.ins.shift 0 (virt S As)++((s.outs.flatMap λo=>YH o.2.es bl)++zb3 bl))
  |none=>WU Γ S d f As) else WU Γ S d f As
where
 go (s:Spec C) (bl b1:Bl) (l:List Nat):U3 Tch:=chk (s.outs.all λo=>qs o.2.es.length 64) (E (l,λi=>zD i l || (yf i bl || (V (i / 64) (d+1) || (qs 1048576 i || yf i b1)))))
def zsP(Γ:List (Spec C))(P:Program)(o:Oper)(S:St C):U3 Tch:=match o.dst with
 |none=>match o.op with
  | .store t x y=>(match S.op x with
   | .pc id _=>zrj id []
   | .pr id _ _ _=>zrj id (AV.rows (S.op y))
   |_=>I)
  | .mapUpdate _ x _ _=>(match S.op x with
   | .row id=>E ([],λi=>V i id)
   |_=>I)
  | .call ⟨.builtin .delete,args,_⟩=>(match args.toList with
   |[x,_]=>(match S.op x with
    | .row id=>E ([],λi=>V i id)
    |_=>I)
   |_=>I)
  |_=>E ([],λ_=>O)
 |some d=>match o.op with
  | .alloc _=>zdt d
  | .box _ _=>zdt d
  | .makeSlice _ _ _=>zdt d
  | .makeMap _ _=>zdt d
  | .buildSlice _ _ h=>go d (AV.rowss (h.toList.map λq=>S.op q.2))
  | .call ⟨.value c,args,_⟩=>(match S.op c with
   | .clo f caps=>WU Γ S d f (Xi (args.toList.map S.op) caps)
   |_=>I)
  | .call ⟨.invoke x r,args,_⟩=>(match S.op x with
   | .ifc t A=>(match zef P t r with
    |some f=>WU Γ S d f (A::args.toList.map S.op)
    |none=>I)
   |_=>I)
  | .call ⟨.builtin .append,args,_⟩=>(match args.toList with
   |[x,y]=>(match S.op x with
    | .row id=>go d [id]
    | .nils=>zdt d
    |_=>I)
   |_=>I)
  | .slice _ x _ _ _=>go d (S.op x).hid
  | .panic _=>E ([],λ_=>O)
  |_=>E ([],λ_=>O)
where
 go (d:Nat) (l:List Nat):U3 Tch:=E (l,λi=>zD i l || V (i / 64) (d+1))
theorem ZV(h:id∈l):zD id l=true:=zR.2 h
theorem Wj(d:Nat):V (nid d 0 / 64) (d+1)=true:=by rw[zbi d 0 Zc];simp
theorem zan:∀{outs:List (XK×Sig)}{r:zh C outs},∃o∈outs,yn outs r=o.2.es
 |[],r=>r.elim
 |[o],r=>⟨o,je,rfl⟩
 |o::c::l,r=>by
  cases r with
  |inl a=>exact⟨o,je,rfl⟩
  |inr y=>
   let⟨o',h1,h2⟩:=zan (outs:=c::l) (r:=y);exact⟨o',D2 _ h1,h2⟩
theorem XD{K:XE C->St C->U3 α}{z:α}{outs:List (XK×Sig)}{r:zh C outs}(h:zT outs r K=E z):∃e S,K e S=E z:=by
 have c:zT outs r (λ_ _=>True):=by
  clear h;revert r
  induction outs with
  |nil=>intro r;exact r.elim
  |cons o l u=>
   have one:∀y:XK.ty C o.1 o.2,Yj o.1 o.2 y (λ_ _=>True):=λy=>by
    let⟨k,g⟩:=o;cases k<;>trivial
   cases l with
   |nil=>intro r;exact one r
   |cons v l=>
    intro r;cases r with
    |inl a=>exact one a
    |inr y=>exact u (r:=y)
 let⟨e,S,h1,_⟩:=XA h c;grind
theorem zi6{s:Spec C}(c:s.viewO=G){d:Nat}{x:s.ins.ty C}{S':St C}(h:yI s d S x=E (.go S')):Keeps S S' (E d) [] λi=>V (i / 64) (d+1):=by
 simp only[Spec.viewO,gf] at c;unfold yI at h;let⟨r,_,h⟩:=gd h;let⟨e,Sr,h⟩:=XD h;let⟨_,h⟩:=zb h;unfold We at h;let⟨_,h⟩:=zb h;cases e with
 |normal=>cases h
 |exit i=>cases h
 |pan A=>cases h
 |ret=>
  cases h;let⟨o,v,F⟩:=zan (outs:=s.outs) (r:=r);have H:YH (yn s.outs r) []=[]:=by cases yn s.outs r<;>rfl
  have u:=Dx.1 c.2 o v;simp only[gf] at u;refine Keeps.trans (.merge (λid hid=>?_) (λid hid=>?_) (λk B=>?_) ?_ (λid hid=>?_)) (Keeps.trans .unvirt .put)
  ·grind
  ·cases hid
  ·simp only[zbi d k B,qI]
  ·rw[F];exact Dg u.2
  ·cases hid
theorem zi7{s:Spec C}{d:Nat}{x:s.ins.ty C}{S':St C}(h:yU s d S x=E (.go S')):Keeps S S' (E d) l p:=by
 let⟨_,h⟩:=zb h;let⟨r,_,h⟩:=gd h;let⟨e,Sr,h⟩:=XD h;unfold zbg at h;cases e with
 |normal=>cases h
 |exit i=>cases h
 |pan A=>let⟨_,h⟩:=zb h;cases h
 |ret=>let⟨_,h⟩:=zb h;cases h;exact .put
theorem zcX{d:Nat}{As:List (AV C.D)}{S':St C}:∀{Γ:List (Spec C)},xB Γ S d f As=E (.go S')->Keeps S S' (E d) [] λi=>V (i / 64) (d+1)
 |[],h=>by cases h
 |s::Γ,h=>by
  unfold xB at h;cases c:(V s.f f && (s.view || s.viewO)) with
  |false=>rw[c] at h;exact zcX h
  |true=>
   rw[c,Dy] at h;let⟨v,h,_⟩:=zbS h;let⟨_,h⟩:=zb h;let⟨T,h,_⟩:=v6 h;split at h
   ·rename_i S2 bl x u;cases r:s.view with
    |true=>rw[r] at h;exact zi7 h
    |false=>
     rw[r] at h;simp only[gf,UO,r] at c;exact zi6 jE h
   ·cases h
theorem za1{Γ0:List (Spec C)}{d:Nat}{As:List (AV C.D)}{S':St C}:∀{Γ:List (Spec C)},YN Γ0 Γ S d f As=E (.go S')->WU Γ S d f As=E (l,p)->Keeps S S' (E d) l p
 |[],h,c=>by cases c;exact zcX h
 |s::Γ,h,c=>by
  unfold YN at h;unfold WU at c;cases N:V s.f f with
  |false=>rw[N] at h c;exact za1 h c
  |true=>
   rw[N] at h c;simp only[Dy] at h c;split at h
   ·rename_i S2 bl x u;rw[u] at c;simp only at c;cases R:s.view with
    |true=>
     rw[R] at h c;cases c;simp only[Dy] at h;let⟨_,h⟩:=zb h;let⟨r,_,h⟩:=gd h;let⟨e,Sr,h⟩:=XD h;unfold zbg at h;cases e with
     |normal=>cases h
     |exit i=>cases h
     |pan A=>let⟨_,h⟩:=zb h;cases h
     |ret=>let⟨_,h⟩:=zb h;cases h;exact .put
    |false=>
    rw[R] at h c;rw[U8] at h c;cases v:s.viewO with
    |true=>
     rw[v] at h c;rw[Dy] at h c;let⟨M,c⟩:=zb c;cases c;unfold yI at h;let⟨r,_,h⟩:=gd h;let⟨e,Sr,h⟩:=XD h;let⟨_,h⟩:=zb h;unfold We at h;let⟨_,h⟩:=zb h;cases e with
     |normal=>cases h
     |exit i=>cases h
     |pan A=>cases h
     |ret=>
      cases h;let⟨o,F,B⟩:=zan (outs:=s.outs) (r:=r);have hg:YH (yn s.outs r) []=[]:=by cases yn s.outs r<;>rfl
      refine Keeps.trans (.merge (λid hid=>?_) (λid hid=>?_) (λk H=>?_) ?_ (λid hid=>?_)) (Keeps.trans .unvirt .put)
      ·grind
      ·cases hid
      ·simp only[zbi d k H,qI]
      ·rw[B];exact Dg (Dx.1 M o F)
      ·cases hid
    |false=>
    rw[v] at h c;simp only[U8] at h c;let⟨M,c⟩:=zb c;cases c;unfold YX at u;let⟨_,u⟩:=zb u;let⟨x',Y,B⟩:=D9.1 u;cases B;unfold xA at h;let⟨r,_,h⟩:=gd h;let⟨_,h⟩:=zb h;let⟨e,Sr,h⟩:=XD h;unfold We at h;let⟨_,h⟩:=zb h;cases e with
    |normal=>cases h
    |exit i=>cases h
    |pan A=>cases h
    |ret=>
     cases h;let⟨o,F,B⟩:=zan (outs:=s.outs) (r:=r);refine Keeps.trans .virt (Keeps.trans (.prep (g:=s.ins.shift) (m:=0) (λid h=>?_) (λq U=>?_) (λid hid=>?_) (λid hid=>?_)) (Keeps.trans (.merge (λid hid=>?_) (λid hid=>?_) (λk H=>?_) ?_ (λid hid=>?_)) (Keeps.trans .unvirt .put)))
     ·simp[Nat.ble_eq,h]
     ·obtain⟨p,hp,rfl⟩:=D4.1 U;grind
     ·grind
     ·have:=ZV (DB ((s.outs.flatMap λo=>YH o.2.es (ZA s.ins.shift 0 (s.ins.shift.prep 0 (virt S As))))++zb3 (ZA s.ins.shift 0 (s.ins.shift.prep 0 (virt S As)))) hid);grind
     ·have:id∈zgl s.ins.shift 0 (virt S As)++((s.outs.flatMap λo=>YH o.2.es (ZA s.ins.shift 0 (s.ins.shift.prep 0 (virt S As))))++zb3 (ZA s.ins.shift 0 (s.ins.shift.prep 0 (virt S As)))):=qF _ (DB _ (List.mem_flatMap.2 ⟨o,F,jE⟩));have:=ZV this;grind
     ·grind
     ·simp only[zbi d k H,qI,qK,qG]
     ·rw[B];exact Dg (Dx.1 M o F)
     ·exact ZV (qF _ (qF _ (zfv hid)))
   ·rename_i u;rw[u] at c;exact za1 h c
theorem zgm{d:Nat}{As:List (AV C.D)}{S':St C}{Γ:List (Spec C)}(h:vE Γ S d f As=E (.go S'))(c:WU Γ S d f As=E (l,p)):Keeps S S' (E d) l p:=za1 h c
theorem ze9{d:Nat}{cs:List (AV C.D)}{S':St C}(h:zbJ S d cs=E (.go S'))(hp:p (nid d 0)=G):Keeps S S' (E d) l p:=by
 let⟨_,h⟩:=zb h;cases h;exact .new hp
theorem zhG{d:Nat}{t:TypeId}{x:Operand}{S':St C}(h:Yd P S d t x hi=E (.go S')):Keeps S S' (E d) (S.op x).hid λi=>zD i (S.op x).hid || V (i / 64) (d+1):=by
 unfold Yd at h;split at h
 ·split at h
  ·split at h
   ·rename_i id c;rw[c];have hid:zD id (AV.hid (.row (D:=C.D) id))=true:=ZV (by simp[AV.hid]);split at h
    ·let⟨_,h⟩:=zb h;split at h
     ·let⟨q,_,h⟩:=gd h;cases h;exact Keeps.trans (.sub hid (by simp only[hid,qK])) (.new (by simp only[Wj,qG]))
     ·cases h
    ·cases h
   ·cases h
  ·cases h
 ·cases h
theorem zbj{d:Nat}{ty t:TypeId}{x:Operand}{S':St C}(h:yH P S d ty t x lo hi=E (.go S')):Keeps S S' (E d) (S.op x).hid λi=>zD i (S.op x).hid || V (i / 64) (d+1):=by
 unfold yH at h;split at h
 ·rename_i id c;let⟨A,_,h⟩:=gd h;cases h;rw[c];have hid:zD id (AV.hid (.row (D:=C.D) id))=true:=ZV (by simp[AV.hid])
  have:=Keeps.frz (d:=E d) (l:=AV.hid (.row (D:=C.D) id)) (p:=λi=>zD i (AV.hid (.row (D:=C.D) id)) || V (i / 64) (d+1)) [id] (S:=S) (λj r=>by
   grind)
  exact Keeps.trans this .put
 ·cases h
theorem zwN{q:Opts}{Γ:List (Spec C)}{n:Nat}{o:Oper}{S':St C}(h:VF q Γ P n o S=E (.go S'))(u:zsP Γ P o S=E (l,p)):Keeps S S' o.dst l p:=by
 let⟨dst,op,ty,ps,af,g⟩:=o;unfold VF at h;unfold zsP at u;cases dst with
 |none=>
  simp only at h u |-
  split at h
  ·rename_i t x y;simp only at u;unfold yx at h;split at h
   ·rename_i ti id off hi B;rw[B] at u;cases u;split at h
    ·let⟨_,h⟩:=zb h;cases h;exact .ent je
    ·cases h
   ·rename_i ti id T i off hi B;rw[B] at u;cases u;refine Keeps.trans (.frz (AV.rows (S.op y)) λj N=>⟨ZV N,by rw[ZV N];simp⟩) ?_;have hx:(S.frz (AV.rows (S.op y))).op x = .pr id T i off\/¬ (S.frz (AV.rows (S.op y))).op x = .pr id T i off:=Classical.em _;have key:∀(S1:St C),(∀id' T' U F,S1.op x = .pr id' T' U F->id'=id)->yx.go x y ti S1=E (.go S')->Keeps S1 S' I (AV.rows (S.op y)) λi=>V i id || zD i (AV.rows (S.op y)):=by
     intro S1 hk h;unfold yx.go at h;split at h
     ·rename_i id' T' U F ex';have:=hk _ _ _ _ ex';subst this;split at h
      ·let⟨_,h⟩:=zb h;let⟨q,_,h⟩:=gd h;let⟨q',_,h⟩:=gd h;cases h;exact .ent je
      ·cases h
     ·cases h
    refine key _ ?_ h;intro id' T' U F e';cases x with
    |const v=>exact absurd B (by cases v<;>(try (intro h;cases h;done))<;>(simp only[St.op,zbD,ZY];grind))
    |global g=>cases B
    |func f=>cases B
    |tmp H=>
     have e1:S.env H = .pr id T i off:=B;have e2:(S.frz (AV.rows (S.op y))).env H = .pr id' T' U F:=e';have frzpr:∀(r:List Nat) (S1:St C),(∀a b c d,S1.env H = .pr a b c d->a=id)->(∀R,S1.env H=R->(∃a b c d,R = .pr a b c d)\/R = .und)->(∀a b c d,(S1.frz r).env H = .pr a b c d->a=id):=by
      intro r
      induction r with
      |nil=>intro S1 h1 _;exact h1
      |cons j r ih=>
       intro S1 h1 h2;refine ih (S1.frz1 j) ?_ ?_
       ·intro a b c d e;rcases zb2 S1 j with⟨R0,e0⟩ | e0
        ·rw[e0] at e;have e:AV.sub j R0 (S1.env H)=_:=e;rcases h2 _ rfl with⟨a',b',c',d',h⟩ | h
         ·rw[h] at e;unfold AV.sub at e;cases hb:V a' j with
          |true=>grind
          |false=>grind
         ·rw[h] at e;cases e
        grind
       ·intro R e;rcases zb2 S1 j with⟨R0,e0⟩ | e0
        ·rw[e0] at e;have e:AV.sub j R0 (S1.env H)=_:=e;rcases h2 _ rfl with⟨a',b',c',d',h⟩ | h
         ·rw[h] at e;unfold AV.sub at e;cases hb:V a' j with
          |true=>grind
          |false=>grind
         ·rw[h] at e;exact .inr e.symm
        grind
     grind
   ·cases h
  ·rename_i t x y z;simp only at u;let⟨kt,et,id,T,b,s,M,k,h1,h2,B,h4,h5,h⟩:=WR h;rw[B] at u;cases u;split at h
   ·cases h;exact .ent je
   ·cases h
  ·rename_i args ts _;simp only at u;split at h
   ·rename_i x y e;rw[e] at u;simp only at u;unfold wI at h;split at h
    ·let⟨kt,et,id,T,b,s,M,k,h1,h2,B,h4,h5,h⟩:=WR h;rw[B] at u;cases u;cases h;exact .ent je
    ·cases h
   ·cases h
  ·rename_i x;unfold Xh at h;split at h
   ·let⟨_,h⟩:=zb h;cases h
   ·cases h
  ·cases h
 |some d=>
  simp only at h u |-
  let⟨_,h⟩:=zb h;unfold xC at h;have pan:∀x,Xh S x=E (.go S')->False:=λx h=>by
   unfold Xh at h;split at h
   ·let⟨_,h⟩:=zb h;cases h
   ·cases h
  split at h
  ·cases u;unfold Xg at h;split at h
   ·split at h
    ·split at h
     ·let⟨_,h⟩:=zb h;cases h;exact .new (Wj d)
     ·exact ze9 h (Wj d)
    ·cases h
   ·cases h
  ·cases u;let⟨_,h⟩:=zb h;rw[qV] at h;split at h
   ·let⟨q,_,h⟩:=gd h;cases h;exact .put
   ·exact ze9 h (Wj d)
  ·cases u;unfold Wa at h;split at h
   ·split at h
    ·split at h
     ·let⟨_,h⟩:=zb h;let⟨q,_,h⟩:=gd h;let⟨q',_,h⟩:=gd h;cases h;exact .new (Wj d)
     ·cases h
    ·cases h
   ·cases h
  ·rename_i t m Y;cases u;unfold Y8 at h;refine Keeps.trans (.frz _ λj N=>⟨ZV N,by simp only[ZV N,qK]⟩) ?_;generalize S.frz _=S1 at h |-
   unfold Y8.go at h;split at h
   ·split at h
    ·split at h
     ·let⟨_,h⟩:=zb h;let⟨q,_,h⟩:=gd h;cases h;exact .new (by simp only[Wj,qG])
     ·cases h
    ·cases h
   ·cases h
  ·rename_i t x lo hi mx;cases u;split at h
   ·cases h;exact .put
   ·unfold Ye at h;split at h
    ·cases hq:q.fs with
     |true=>rw[hq,Dy] at h;exact zbj h
     |false=>rw[hq,U8] at h;exact zhG h
    ·exact zbj h
    ·cases h
  ·cases u;split at h
   ·cases h;exact .put
   ·cases h
  ·rename_i c args ts _;simp only at u;split at h
   ·rename_i f caps ec;rw[ec] at u;exact zgm (zb h).2 u
   ·cases h
  ·rename_i x name args ts _;simp only at u;unfold WT at h;split at h
   ·rename_i t A B;rw[B] at u;simp only at u;split at h
    ·rename_i f ef;rw[ef] at u;exact zgm h u
    ·cases h
   ·cases h
  ·rename_i args ts _;simp only at u;split at h
   ·rename_i x y t t' e1 e2;rw[e1] at u;simp only at u;let⟨_,h⟩:=zb h;unfold Yc at h;split at h
    ·split at h
     ·split at h
      ·let⟨_,h⟩:=zb h;split at h
       ·rename_i id B;rw[B] at u;cases u;have hid:zD id [id]=true:=ZV je;split at h
        ·let⟨_,h⟩:=zb h;let⟨q,_,h⟩:=gd h;let⟨q',_,h⟩:=gd h;cases h;exact Keeps.trans (.sub hid jE) (.new (by simp only[Wj,qG]))
        ·cases h
       ·rename_i B;rw[B] at u;cases u;let⟨q,_,h⟩:=gd h;let⟨q',_,h⟩:=gd h;cases h;exact .new (Wj d)
       ·cases h
      ·cases h
     ·cases h
    ·cases h
   ·cases h
  ·cases u;unfold Xz at h;split at h
   ·let⟨_,h⟩:=zb h;cases h;exact .new (Wj d)
   ·cases h
  ·cases u;let⟨kt,et,id,T,b,s,M,k,h1,h2,B,h4,h5,h⟩:=WR h;split at h
   ·let⟨_,h⟩:=zb h;cases h;exact .put
   ·cases h
  ·grind
  ·let⟨A,_,h⟩:=D9.1 h;cases h;exact .put
omit [Dfr] in
theorem Keeps.owk{e:Ent C}{d:U3 Nat}(v:zD (xo id) l=G)(hp:p id=G):Keeps S (S.owk id e) d l p:=by
 have c:∀i,V i id=G->zD (xo i) l=true:=λi hi=>by rw[ge hi];exact v
 refine⟨λt _ _ h=>zam c h,λj B h=>?_⟩;show(bif V j id then E e else(S.heap j).map (Ent.knx _))=S.heap j;cases r:V j id with
 |true=>have:=ge r;grind
 |false=>
  simp only[U8];cases hs:S.heap j with
  |none=>rfl
  |some u=>
   rw[hs] at h;cases u with
   |row T s=>rfl
   |obj q T b s=>rfl
   |orow T s g=>rfl
   |cell cs=>show E (Ent.cell (AV.knxs _ cs))=_;rw[XV c h]
def zx5:KN->U3 Nat
 | .st _ _ _=>I
 | .apn d _ _ _ _=>E d
 | .apo d _ _ _ _=>E d
 | .bl d _ _ _ _=>E d
 | .mk d _ _ _=>E d
 | .cy d _ _ _=>E d
theorem zrk{op:Op}{k:KN}(h:xg P S dst op=E k):zx5 k=dst:=by
 unfold xg at h;split at h
 ·cases c:zfD S _ _ with
  |true=>rw[c] at h;cases h;rfl
  |false=>grind
 ·split at h
  ·rename_i x y _ _ _ _;cases c:zfC S x with
   |true=>rw[c] at h;cases h;rfl
   |false=>
    rw[c,U8] at h;cases r:isO S y with
    |true=>rw[r] at h;cases h;rfl
    |false=>grind
  ·cases h
 ·split at h
  ·cases c:(C.own (YP P _) && zdG (zt (S.op _)) (C.nst (YP P _))) with
   |true=>rw[c] at h;cases h;rfl
   |false=>grind
  ·cases h
 ·cases c:C.own (YP P _) with
  |true=>rw[c] at h;cases h;rfl
  |false=>rw[c] at h;cases h
 ·split at h<;>cases h;rfl
 ·cases h
def zdu(S:St C):KN->U3 Tch
 | .st _ x y=>(match S.op x with
  | .pr id T _ off=>E (bif Xc off (zt (S.op y)).length (C.nst T) then xo id::AV.rowss (zt (S.op y)) else [],λi=>V i id || zD i (AV.rowss (zt (S.op y))))
  | .nx id _ _ _=>E ([],λi=>V i id)
  |_=>I)
 | .apn d _ _ x _=>(match S.op x with
  | .nx id _ _ _=>E ([xo id,nid d 1],λi=>V i id || V (i / 64) (d+1))
  |_=>I)
 | .apo d _ _ x y=>(match S.op x,S.op y with
  | .row id,.row c=>E ([id,c],λi=>zD i [id,c] || V (i / 64) (d+1))
  | .nils,.row c=>E ([c],λi=>zD i [c] || V (i / 64) (d+1))
  |_,_=>I)
 | .bl d _ _ _ y=>E (AV.rowss (zt (S.op y)),λi=>zD i (AV.rowss (zt (S.op y))) || V (i / 64) (d+1))
 | .mk d _ _ _=>E ([],λi=>V (i / 64) (d+1))
 | .cy _ _ x _=>(match S.op x with
  | .nx id _ _ _=>E ([],λi=>V i id)
  |_=>I)
theorem zhH{D:Nat->Type}:∀{cs:List (AV D)}{k:Nat},cs[k]?=E (.row id)->id∈AV.rowss cs
 |A::cs,0,h=>by
  simp at h;subst h;simp[AV.rowss,AV.rows]
 |A::cs,k+1,h=>by
  have:=zhH (cs:=cs) (k:=k) (by simpa using h);simp only[AV.rowss,U5];grind
 |[],k,h=>by simp at h
theorem zfa{s:Sl (C.D T0)}{g:Own}{i:Int}{cells:List (AV C.D)}{S':St C}(h:wC S id T0 s g i off cells E=E (.go S'))(r:zD (xo id) l=G)(hp:p id=G)(v:∀c,c∈AV.rowss cells->zD c l=G/\p c=G){d:U3 Nat}:Keeps S S' d l p:=by
 unfold wC at h;simp only[vn] at h;split at h
 ·rename_i c u;split at h
  ·let⟨_,h⟩:=zb h;let⟨q,_,h⟩:=gd h;let⟨g',_,h⟩:=gd h;let⟨q',_,h⟩:=gd h;cases h;let⟨B,F⟩:=v c (zhH u);exact Keeps.trans (.sub B F) (.owk r hp)
  ·cases h
 ·let⟨q,_,h⟩:=gd h;split at h
  ·let⟨g',_,h⟩:=gd h;let⟨q',_,h⟩:=gd h;cases h;exact .owk r hp
  ·cases h
 ·cases h
theorem zdv{gid d:Nat}{t:TypeId}{x y:Operand}{S':St C}(h:Yc P S d t x y=E (.go S'))(c:S.op x = .row gid)(r:zD gid l=G)(hp:p gid=G)(hd:p (nid d 0)=G):Keeps S S' (E d) l p:=by
 unfold Yc at h;split at h
 ·split at h
  ·split at h
   ·let⟨_,h⟩:=zb h;rw[c] at h;simp only at h;split at h
    ·let⟨_,h⟩:=zb h;let⟨_,_,h⟩:=gd h;let⟨_,_,h⟩:=gd h;cases h;exact Keeps.trans (.sub r hp) (.new hd)
    ·cases h
   ·cases h
  ·cases h
 ·cases h
theorem zx6(d:Nat):V (nid d 1 / 64) (d+1)=true:=by rw[zbi d 1 Zc];simp
theorem zoy{k:KN}{S':St C}(h:W5 P S k=E (.go S'))(c:zdu S k=E (l,p)):Keeps S S' (zx5 k) l p:=by
 cases k with
 |st t x y=>
  simp only[W5] at h;simp only[zdu] at c;unfold xS XF at h;split at h
  ·rename_i ti id T i off hi r;rw[r] at c;cases c;split at h
   ·rename_i T' s g hs;let⟨u,h⟩:=zb h;simp only[gf] at u;obtain rfl:=ge u.1;cases F:Xc off (zt (S.op y)).length (C.nst T) with
    |true=>
     rw[F] at h;simp only[Dy] at h |-
     exact zfa h (by simp[zD]) je λB h2=>⟨by simp[zD,ZV h2],by simp[ZV h2]⟩
    |false=>
     rw[F] at h;simp only[U8] at h |-
     let⟨q,_,h⟩:=gd h;let⟨q',_,h⟩:=gd h;cases h;exact .ent je
   ·rename_i T' s hs;let⟨u,h⟩:=zb h;simp only[gf] at u;obtain rfl:=ge u.1;rw[u.2.2];simp only[Dy];exact zfa h (by simp[zD]) je λB h2=>⟨by simp[zD,ZV h2],by simp[ZV h2]⟩
   ·cases h
  ·rename_i ti id T i U k off hi r;rw[r] at c;cases c;split at h
   ·let⟨_,h⟩:=zb h;let⟨q,_,h⟩:=gd h;split at h
    ·let⟨_,h⟩:=zb h;let⟨_,_,h⟩:=gd h;let⟨_,_,h⟩:=gd h;let⟨_,_,h⟩:=gd h;cases h;exact .ent je
    ·cases h
   ·cases h
  ·cases h
 |cy d ts x y=>
  simp only[W5] at h;simp only[zdu] at c;unfold Ws W4 at h;split at h
  ·split at h
   ·split at h
    ·rename_i ti id T i B T2 i2 hi r M;rw[r] at c;cases c;split at h
     ·let⟨_,h⟩:=zb h;let⟨_,_,h⟩:=gd h;let⟨_,_,h⟩:=gd h;split at h
      ·let⟨_,h⟩:=zb h;let⟨_,_,h⟩:=gd h;let⟨_,_,h⟩:=gd h;cases h;exact Keeps.trans (.ent je) .put
      ·cases h
     ·cases h
    ·cases h
   ·cases h
  ·cases h
 |apn d t t' x y=>
  simp only[W5] at h;simp only[zdu] at c;have h:=(zb h).2;unfold Wn at h;cases x with
  |const v=>cases h
  |global g=>cases h
  |func f=>cases h
  |tmp H=>
   simp only at h;split at h
   ·rename_i id T i r;have c:(match S.env H with | .nx id _ _ _=>E ([xo id,nid d 1],λi=>V i id || V (i / 64) (d+1)) | _=>I)=E (l,p):=c;rw[r] at c;cases c;unfold Wm at h;split at h
    ·let⟨u,h⟩:=zb h;simp only[gf] at u;let⟨_,_,h⟩:=gd h;split at h
     ·have k2:=zdv (gid:=nid d 1) (l:=[xo id,nid d 1]) (p:=λi=>V i id || V (i / 64) (d+1)) h (by show upd S.env H _ H=_;rw[zp]) (by simp[zD]) (by simp[zx6]) (by simp[Wj]);refine Keeps.trans ⟨λt c hd Y=>?_,λj N _=>?_⟩ k2
      ·show upd S.env H _ t=S.env t;by_cases e:t=H
       ·subst e;rw[r] at Y;simp[AV.avoid,zD] at Y
       ·rw[zq e]
      ·show upd (upd S.heap id _) (nid d 1) _ j=S.heap j;rw[zq λe=>by subst e;simp[zx6] at N,zq λe=>by subst e;simp at N]
     ·cases h
    ·cases h
   ·cases h
 |apo d t t' x y=>
  simp only[W5] at h;simp only[zdu] at c;let⟨_,h⟩:=zb h;unfold Wr W3 at h;split at h
  ·split at h
   ·split at h
    ·let⟨_,h⟩:=zb h;split at h
     ·rename_i B M;rw[M] at c;split at h
      ·split at h
       ·rename_i id r;rw[r] at c;cases c;split at h
        ·let⟨_,h⟩:=zb h;let⟨_,_,h⟩:=gd h;let⟨_,_,h⟩:=gd h;cases h;exact Keeps.trans (.sub (by simp[zD]) (by simp[zD])) (Keeps.trans (.sub (by simp[zD]) (by simp[zD])) (.new (by simp[Wj])))
        ·cases h
       ·rename_i r;rw[r] at c;cases c;let⟨_,_,h⟩:=gd h;let⟨_,_,h⟩:=gd h;cases h;exact Keeps.trans (.sub (by simp[zD]) (by simp[zD])) (.new (by simp[Wj]))
       ·cases h
      ·cases h
     ·cases h
    ·cases h
   ·cases h
  ·cases h
 |bl d t i m y=>
  simp only[W5] at h;simp only[zdu] at c;cases c;let⟨_,h⟩:=zb h;unfold xU XG at h;split at h
  ·split at h
   ·split at h
    ·let⟨_,h⟩:=zb h;split at h
     ·rename_i B u;split at h
      ·let⟨_,_,h⟩:=gd h;cases h;have R:=ZV (zhH u);exact Keeps.trans (.sub R (by simp[R])) (.new (by simp[Wj]))
      ·cases h
     ·cases h
    ·cases h
   ·cases h
  ·cases h
 |mk d t x y=>
  simp only[W5] at h;simp only[zdu] at c;cases c;unfold XX wK at h;split at h
  ·split at h
   ·split at h
    ·let⟨_,h⟩:=zb h;split at h
     ·let⟨_,_,h⟩:=gd h;split at h
      ·let⟨_,h⟩:=zb h;let⟨_,_,h⟩:=gd h;cases h;exact .new (by simp[Wj])
      ·cases h
     ·cases h
    ·cases h
   ·cases h
  ·cases h
def tch(Γ:List (Spec C))(P:Program)(o:Oper)(S:St C):U3 Tch:=match xg P S o.dst o.op with
 |some k=>zdu S k
 |none=>zsP Γ P o S
theorem zrl{q:Opts}{Γ:List (Spec C)}{n:Nat}{o:Oper}{S':St C}(h:stp q Γ P n o S=E (.go S'))(c:tch Γ P o S=E (l,p)):Keeps S S' o.dst l p:=by
 unfold stp at h;unfold tch at c;cases r:xg P S o.dst o.op with
 |some k=>
  rw[r] at h c;let⟨_,h⟩:=zb h;rw[<- zrk r];exact zoy h c
 |none=>rw[r] at h c;exact zwN h c
end
variable [Dfr]
def zbk:List Operand->List Nat
 |[]=>[]
 | .tmp t::r=>t::zbk r
 |_::r=>zbk r
theorem zb4{t:Nat}:∀{l:List Operand},Operand.tmp t∈l->t∈zbk l
 |x::r,h=>by
  rcases Db.1 h with h | h
  ·subst h;simp[zbk]
  ·have:=zb4 h;cases x<;>simp[zbk,this]
def ww(ops:Array Oper)(o:Oper):List Nat:=match o.guard with
 |none=>[]
 |some (j,_)=>match(ops[j]?).bind (·.dst) with
  |some d=>[d]
  |none=>[]
def looks(ops:Array Oper)(o:Oper):List Nat:=zbk o.op.operands.toList++ww ops o
def zF(o:Oper):List Nat:=(o.after.toList.filter (qN .any)).map (·.on)
theorem zoz{o:Oper}{e:Edge}(h:e∈o.after)(hb:qN .any e=G):e.on∈zF o:=D4.2 ⟨e,D7.2 ⟨by simpa using h,hb⟩,rfl⟩
def zb5(l cl:List Nat):Bool:=l.all λj=>zD j cl
def zeg:List (Nat×Nat)->Nat->Nat
 |[],_=>0
 |(i,m)::r,j=>bif V i j then m else zeg r j
def Yf(al:List (Nat×Nat)):List Nat->Nat
 |[]=>0
 |j::ds=>qT (qT (qH 1 j) (zeg al j)) (Yf al ds)
section
variable {C:Cod}{ρ:Type}
def zgn(S:St C)(l:List Nat)(dst:U3 Nat)(t:Nat):Bool:=(S.env t).avoid l && (qb t vB && (match dst with | some d=> !V t d | none=>G))
def zgo(ops:Array Oper)(S:St C)(l:List Nat)(p:Nat->Bool)(dst:U3 Nat)(r:Nat):Bool:=match ops[r]? with
 |some q=>(looks ops q).all (zgn S l dst) && ((match q.dst with | some d=>zgn S l dst d | none=>G) && (zfs S q.op).all λid=> !p id && zkV l (S.heap id))
 |none=>G
def zdw(S:St C)(l:List Nat):St C:={S with env:=λt=>bif zD t l then .und else S.env t}
def zx7(ops:Array Oper):List Nat:=ops.toList.filterMap (·.dst)
def WV(ops:Array Oper)(n:Nat)(cl:List Nat)(taken:List Nat)(i:Nat)(o:Oper):Bool:=match o.dst with
 |none=>G
 |some d=>qb d n && (qb d vB && (!zD d (looks ops o) &&
     ((qy ops.size).all λj=>V j i || (match ops[j]? with
       |none=>G
       |some q=>(bif zD j cl then(!zD j taken || !zD d (looks ops q)) else(!zD d (looks ops q) || zD i (zF q))) && (match q.dst with
           |some c=> !V d c
           |none=>G)))))
def flB(C:Cod)(P:Program)(ops:Array Oper)(n j:Nat):Bool:=match ops[j]? with
 |none=>O
 |some o=>(match o.dst,o.op,o.guard with
  |some d,.alloc t,I=>(match P.info? t with
   |some ti=>(match ti.zero with
    |some h=>(match C.oal t h.cells.toList with
     |none=>qb d n && (qb d vB && (qy ops.size).all λc=>V c j || (match ops[c]? with
         |none=>G
         |some q=>(!zD d (looks ops q) || zD j (zF q)) && (match q.dst with
          |some r=> !V d r
          |none=>G)))
     |some _=>O)
    |none=>O)
   |none=>O)
  |_,_,_=>O)
def WW(C:Cod)(P:Program)(ops:Array Oper)(n:Nat):List Nat:=(qy ops.size).filter (flB C P ops n)
def rmL(i:Nat)(l:List Nat):List Nat:=l.filter λj=> !V j i
def zoA(ops:Array Oper)(fl cl:List Nat)(i:Nat):Bool:=(qy ops.size).all λj=>V j i || (zD j fl || (zD j cl || (match ops[j]? with
 |none=>G
 |some q=> !zb5 (zF q) (rmL i fl++cl))))
def zrm(ops:Array Oper)(fl cl:List Nat)(i i2:Nat):Bool:=(qy ops.size).all λj=>(V j i || V j i2) || (zD j fl || (zD j cl || (match ops[j]? with
 |none=>G
 |some q=> !zb5 (zF q) (rmL i (rmL i2 fl)++cl))))
open Classical in
noncomputable def yh(a b:U3 α):U3 α:=if a=b then a else I
theorem Zs(a:U3 α):yh a a=a:=by unfold yh;grind
theorem za2{a b:U3 α}{r:α}(h:yh a b=E r):a=E r/\b=E r:=by
 unfold yh at h;grind
def yJ(stp:yR C)(c:Oper->St C->U3 Tch)(P:Program)(n:Nat)(ops:Array Oper)(okB:Bool)(cl taken:List Nat)(m:Nat)(K:XE C->St C->U3 ρ)(i:Nat)(early:Bool)(o:Oper)(run:Bool)(S:St C)(next:St C->List Nat->U3 ρ):U3 ρ:=
 bif early then chk (WV ops n cl taken i o) (bif run then(match o.dst with
     |some d=>chk (rdQ o.op) (zsH P S o.type o.op λA=>next (S.put d A) (i::taken))
     |none=>I)
  else(match o.dst with
   |some d=>next (S.put d (.tup [])) (i::taken)
   |none=>next S (i::taken)))
 else chk okB (bif run then(match c o S with
     |none=>I
     |some (l,p)=>chk (taken.all λr=>qc m r || zgo ops S l p o.dst r) (stp o S _ λout=>match out with
      | .go S'=>next S' taken
      | .pan v S'=>K (.pan v) (zdw S' (zx7 ops))))
  else chk (taken.all λr=>qc m r || zgo ops S [] (λ_=>O) o.dst r) (match o.dst with
   |some d=>chk (qb d n) (next (S.put d (.tup [])) taken)
   |none=>next S taken))
def xD(stp:yR C)(h:Oper->St C->U3 Tch)(P:Program)(n:Nat)(ops:Array Oper)(okB:Bool)(i:Nat)(early:Bool)(cl taken:List Nat)(al:List (Nat×Nat))(S:St C)(K:XE C->St C->U3 ρ)(next:List Nat->List Nat->List (Nat×Nat)->St C->U3 ρ):U3 ρ:=match ops[i]? with
    |none=>I
    |some o=>chk (!zD i cl && zb5 (zF o) cl) (match o.guard with
     |none=>yJ stp h P n ops okB cl taken (Yf al (zF o)) K i early o G S λS tk=>next (i::cl) tk ((i,Yf al (zF o))::al) S
     |some (j,c)=>chk (zD j (zF o)) (match(ops[j]?).bind (·.dst) with
      |none=>I
      |some r=>match S.env r with
       | .bool q=>if q=G then yJ stp h P n ops okB cl taken (Yf al (zF o)) K i early o c (S.put r (.bool G)) (λS tk=>next (i::cl) tk ((i,Yf al (zF o))::al) S)
           else yJ stp h P n ops okB cl taken (Yf al (zF o)) K i early o (!c) (S.put r (.bool O)) (λS tk=>next (i::cl) tk ((i,Yf al (zF o))::al) S)
       | .tup []=>yJ stp h P n ops okB cl taken (Yf al (zF o)) K i early o O S λS tk=>next (i::cl) tk ((i,Yf al (zF o))::al) S
       |_=>I))
def wd(ops:Array Oper)(cl:List Nat)(i:Nat):Bool:=match ops[i]? with
 |some o=> !zD i cl && zb5 (zF o) cl
 |none=>O
noncomputable def ZM(stp:yR C)(c:Oper->St C->U3 Tch)(P:Program)(n:Nat)(ops:Array Oper):List (Nat×Bool)->List Nat->List Nat->List (Nat×Nat)->St C->(XE C->St C->U3 ρ)->U3 ρ
 |[],cl,taken,al,S,K=>chk (zb5 (qy ops.size) cl) (K .normal S)
 |(i,early)::ord,cl,taken,al,S,K=>bif qb i 4096 then
     (bif wd ops cl i then xD stp c P n ops (zoA ops (WW C P ops n) cl i) i early cl taken al S K λcl tk al S=>ZM stp c P n ops ord cl tk al S K
     else ZM stp c P n ops ord cl taken al S K)
   else bif wd ops cl ((i - 4096) / 64) && wd ops cl ((i - 4096) % 64) then chk (zrm ops (WW C P ops n) cl ((i - 4096) / 64) ((i - 4096) % 64)) (yh
    (xD stp c P n ops G ((i - 4096) / 64) O cl taken al S K λcl tk al S=>ZM stp c P n ops ord cl tk al S K)
    (xD stp c P n ops G ((i - 4096) % 64) O cl taken al S K λcl tk al S=>ZM stp c P n ops ord cl tk al S K))
   else ZM stp c P n ops ord cl taken al S K
end
variable [Dfr]
section
variable {κ:Kp}{C:Cod}{S S1:St C}{n:Nat}{w0:Start}{σ0:FS}{P:Program}{ρ:Type}{ops:Array Oper}{D:Nat->Prop}{Γ:List (Spec C)}{qo:Opts}
def Xm(ops:Array Oper)(S:St C)(q:Oper)(run:Bool):Prop:=match q.guard with
 |none=>run=G
 |some (j,c)=>∃h,(ops[j]?).bind (·.dst)=E h/\((∃b,S.env h = .bool b/\run=(b == c))\/(S.env h = .tup []/\run=O))
def QV(P:Program)(ops:Array Oper)(S:St C)(q:Oper):Prop:=∃run,Xm ops S q run/\match run with
 |true=>rdQ q.op=G/\∃d,q.dst=E d/\evQ P S q.type q.op=E (S.env d)
 |false=>∀d,q.dst=E d->S.env d = .tup []
theorem Xm.congr(h:Xm ops S q run)(c:∀t∈ww ops q,S1.env t=S.env t):Xm ops S1 q run:=by
 unfold Xm ww at *
 cases v:q.guard with
 |none=>grind
 |some u=>
  let⟨j,r⟩:=u;rw[v] at h c;simp only at h c |-
  grind
theorem vl{t:Nat}(h:t∈ww ops q):t∈looks ops q:=qF _ h
theorem zdx{ty:TypeId}(B:∀t∈looks ops q,S1.env t=S.env t)(u:∀id∈zfs S q.op,S1.heap id=S.heap id):evQ P S1 ty q.op=evQ P S ty q.op:=by
 have h:∀x∈q.op.operands.toList,S.op x=S1.op x:=λx r=>by
  cases x with
  |tmp t=>exact(B t (DB _ (zb4 r))).symm
  |const v=>rfl
  |global g=>rfl
  |func f=>rfl
 unfold evQ;split
 ·rename_i t m c e;rw[e] at h;have:∀e,YA S1 e (c.toList.map (·.2))=YA S e (c.toList.map (·.2)):=λe=>zgh (S:=S1) (T:=S) λx r=>(h x (by simpa[W] using r)).symm
  unfold zdp;grind
 ·exact(zne (S:=S) (T:=S1) h λid hid=>(u id hid).symm).symm
theorem QV.congr(h:QV P ops S q)(c:∀t∈looks ops q,S1.env t=S.env t)(hd:∀d,q.dst=E d->S1.env d=S.env d)(u:∀id∈zfs S q.op,S1.heap id=S.heap id):QV P ops S1 q:=by
 let⟨run,r,h⟩:=h;refine⟨run,r.congr λt v=>c t (vl v),?_⟩;cases run with
 |true=>
  let⟨h1,d,h2,B⟩:=h;exact⟨h1,d,h2,by rw[zdx c u,B,hd d h2]⟩
 |false=>grind
theorem zdy{t:Nat}(r:Keeps S S1 dst l p)(h:zgn S l dst t=G):S1.env t=S.env t:=by
 simp only[zgn,gf] at h;let⟨h1,h2,c⟩:=h;refine r.env t (by rwa [Da] at h2) (λe=>?_) h1;rw[e] at c;simp at c
omit [Dfr] in
theorem QV.keep{r:Nat}(h:QV P ops S q)(u:Keeps S S1 dst l p)(v:ops[r]?=E q)(c:zgo ops S l p dst r=G):QV P ops S1 q:=by
 unfold zgo at c;rw[v] at c;simp only[gf] at c;let⟨h1,h2,F⟩:=c;refine h.congr (λt B=>zdy u (Dx.1 h1 t B)) (λd e=>?_) λid hid=>?_
 ·rw[e] at h2;exact zdy u h2
 ·have:=Dx.1 F id hid;simp only[gf,Dw] at this;exact u.heap id this.1 this.2
theorem Xm.wanted(h:Xm ops S q run)(hA:At n w0 σ0 κ S a w):qB q (yielded ops a.tmps)=run:=by
 unfold Xm at h;unfold qB;cases r:q.guard with
 |none=>grind
 |some u=>
  let⟨j,c⟩:=u;rw[r] at h;simp only at h |-
  let⟨B,e,h⟩:=h;have v:=hA.yield e;rcases h with⟨b,h1,h2⟩ | ⟨h1,h2⟩
  ·rw[v.1 b h1,h2];simp
  grind
theorem At.eqx(h:At n w0 σ0 κ S a w)(e:EqX (λ_=>False) S S1):At n w0 σ0 κ S1 a w:=by
 have:S=S1:=by
  let⟨r,h1⟩:=S;let⟨u,h2⟩:=S1;have c:h1=h2:=e.heap;have a2:r=u:=funext λt=>e.env t λh=>h
  rw[c,a2]
 grind
theorem zsQ (hgl:C.gl w0.w σ0) (hΓ:∀s∈Γ,s.OK P) {r:Nat}{So:St C}(hq:ops[r]?=E q) (hA:At n w0 σ0 κ So a w) (B:EqX D So S) (H:QV P ops S q) (hl:∀t∈looks ops q,¬ D t) (hn:∀d,q.dst=E d->qb d n=G) 
    (R:∀S1 a' w',At n w0 σ0 κ S1 a' w'->EqX (λt=>D t/\q.dst≠E t) S1 S->K a' w'):wpOp P ops Q r K a w:=by
 let⟨run,hg,H⟩:=H;have U:Xm ops So q run:=hg.congr λt v=>B.env t (hl t (vl v))
 have c:∀d A,q.dst=E d->S.env d=A->EqX (λt=>D t/\q.dst≠E t) (So.put d A) S:=λd A e eA=>⟨B.heap,λt v=>by
  show upd So.env d A t=S.env t;by_cases h:t=d
  ·subst h;rw[zp,eA]
  · rw[zq h]
    exact B.env t λhd=>v ⟨hd,λe'=>h jE⟩⟩
 unfold wpOp;rw[hq];simp only[U.wanted hA];cases run with
 |true=>
  simp only[jq];left;let⟨hr,d,hd,he⟩:=H;let⟨L,b,Z,PV,u,hi,hf⟩:=hA;have hev:evQ P So q.type q.op=E (S.env d):=by
   rw[<- he];exact zdx (ops:=ops) (λt v=>B.env t (hl t v)) λid _=>by rw[B.heap]
  let⟨ν,vs,ids,u⟩:=u;have F:=zxZ (P:=P) (n:=n) (w0:=w0) (σ0:=σ0) (q:=⟨O⟩) (Γ:=Γ) (ps:=q.pos) (af:=q.after) (g:=q.guard) u (hn d hd) hr hev;have N:q=⟨E d,q.op,q.type,q.pos,q.after,q.guard⟩:=by
   cases q;grind
  rw[<- N] at F;refine F _ rfl a w hi hf K Q ?_ ?_
  ·intro S' e L' Z' Y a' w' hi' hf' M;cases e;exact R _ _ _ ⟨L',b,Z',Y,M,hi',hf'⟩ (c d _ hd rfl)
  grind
 |false=>
  simp only[jk,jp];cases hd:q.dst with
  |none=>
   refine R So _ _ hA ⟨B.heap,λt v=>B.env t λh=>v ⟨h,by rw[hd];simp⟩⟩
  |some d=>exact R _ _ _ (hA.skip (hn d hd)) (c d _ hd (H d hd))
def WfL(ops:Array Oper):List Nat->Prop
 |[]=>True
 |i::cl=>(∀o,ops[i]?=E o->∀j∈zF o,j∈cl)/\WfL ops cl
def zgp(ops:Array Oper)(al:List (Nat×Nat)):Prop:=∀i m,(i,m)∈al->∀o,ops[i]?=E o->∀X:Nat->Prop,(∀k q,ops[k]?=E q->X k->∀j∈zF q,X j)->(∀j,X j->j < ops.size)->X i->∀a,qc m a=G->X a
theorem ziF:∀{al:List (Nat×Nat)}{j a:Nat},qc (zeg al j) a=G->∃m,(j,m)∈al/\qc m a=G
 |[],j,a,h=>by simp[zeg] at h
 |(i,m)::r,j,a,h=>by
  unfold zeg at h;cases e:V i j with
  |true=>rw[e] at h;have:=ge e;grind
  |false=>
   rw[e] at h;let⟨c,h1,h2⟩:=ziF h;grind
theorem zkW{a:Nat}(h:qc (qH 1 j) a=G):a=j:=by
 have h:qc (1 <<< j) a=true:=h;rw[Nat.one_shiftLeft,Nat.testBit_two_pow] at h;grind
theorem zeh{al:List (Nat×Nat)}(r:zgp ops al)(X:Nat->Prop)(u:∀k q,ops[k]?=E q->X k->∀j∈zF q,X j)(c:∀j,X j->j < ops.size):∀{ds:List Nat},(∀j∈ds,X j)->∀a,qc (Yf al ds) a=G->X a
 |[],_,a,h=>by simp[Yf] at h
 |j::ds,hd,a,h=>by
  have h:qc (((qH 1 j) ||| (zeg al j)) ||| (Yf al ds)) a=true:=h;rw[qS,qS,UO,UO] at h;rcases h with(h | h) | h
  ·rw[zkW h];grind
  ·let⟨m,h1,h2⟩:=ziF h;have v:=hd j je;obtain⟨o,B⟩:∃o,ops[j]?=E o:=⟨ops[j]'(c j v),qM _⟩
   exact r j m h1 o B X u c v a h2
  ·exact zeh r X u c (λk F=>hd k (D2 _ F)) a h
end
variable [Dfr]
abbrev onX(X:Array Bool)(k:Nat):Bool:=X.getD k O
theorem zfw{X:Array Bool}(h:i < X.size):onX (X.setIfInBounds i G) i=true:=by
 unfold onX;rw[U7];simp[h]
theorem Wk{X:Array Bool}(h:i≠k):onX (X.setIfInBounds i G) k=onX X k:=by
 unfold onX;rw[U7,qX h,<- U7]
theorem xa{X:Array Bool}(h:onX X k=G):onX (X.setIfInBounds i G) k=true:=by
 by_cases e:i=k
 ·subst e;rcases Nat.lt_or_ge i X.size with z | z
  ·exact zfw z
  grind
 ·rw[Wk e];exact h
theorem YO{X:Array Bool}(h:onX (X.setIfInBounds i G) k=O):onX X k=false:=by
 cases e:onX X k with
 |false=>rfl
 |true=>rw[xa e] at h;cases h
theorem zhI{X:Array Bool}(hi:i < X.size)(h:onX X i=O){c:Nat}(r:X.toList.count O<=c+1):(X.setIfInBounds i G).toList.count O<=c:=by
 rw[Array.toList_setIfInBounds,List.count_set (by simpa using hi)];have h0:X.toList[i]'(by simpa using hi)=false:=by
  unfold onX at h;rw[U7] at h;grind
 grind
theorem znk{X:Array Bool}(hi:i < X.size)(h:onX X i=O):0 < X.toList.count false:=by
 rw[List.count_pos_iff];have h0:X.toList[i]'(by simpa using hi)=false:=by
  unfold onX at h;rw[U7] at h;grind
 grind
section
variable {Fx:List Nat}{κ:Kp}{C:Cod}{S S':St C}{n:Nat}{w0:Start}{σ0:FS}{P:Program}{ρ:Type}{ops:Array Oper}{Γ:List (Spec C)}{qo:Opts}{cl taken:List Nat}{al:List (Nat×Nat)}{X:Array Bool}
structure Cfg(P:Program)(ops:Array Oper)(n:Nat)(cl taken:List Nat)(al:List (Nat×Nat))(S:St C)(X:Array Bool)(Fx:List Nat):Prop where
 size:X.size=ops.size
 sub:∀i,onX X i=G->i∈cl\/i∈Fx
 fon:∀i∈Fx,onX X i=G/\i ∉ cl
 wf:WfL ops cl
 tk:∀i∈cl,onX X i=O->i∈taken
 inc:∀i∈cl,i < ops.size
 tcl:∀i∈taken,i∈cl
 closed:∀k q,ops[k]?=E q->onX X k=G->∀j∈zF q,onX X j=G
 qv:∀r q,r∈taken->onX X r=O->ops[r]?=E q->QV P ops S q
 ds:∀r q d,r∈taken->onX X r=O->ops[r]?=E q->q.dst=E d->qb d n=G/\d < vB/\d ∉ looks ops q/\∀j o,ops[j]?=E o->j≠r->(onX X j=O->d∈looks ops o->r∈zF o)/\o.dst≠E d
 anc:zgp ops al
def zoB(ops:Array Oper)(taken:List Nat)(X:Array Bool)(t:Nat):Prop:=∃r q,r∈taken/\onX X r=O/\ops[r]?=E q/\q.dst=E t
theorem Cfg.hit(h:Cfg P ops n cl taken al S X Fx)(hi:i∈cl)(hd:∀q,ops[i]?=E q->∀j∈zF q,onX X j=G):Cfg P ops n cl taken al S (X.setIfInBounds i G) Fx where
 size:=by simp[h.size]
 sub k hk:=by
  by_cases e:i=k
  ·grind
  ·rw[Wk e] at hk;exact h.sub k hk
 fon k hk:=⟨xa (h.fon k hk).1,(h.fon k hk).2⟩
 wf:=h.wf
 tk k hk u:=h.tk k hk (YO u)
 inc:=h.inc
 tcl:=h.tcl
 closed k q c hk j v:=by
  by_cases e:i=k
  ·subst e;exact xa (hd q c j v)
  ·rw[Wk e] at hk;exact xa (h.closed k q c hk j v)
 qv r q F u c:=h.qv r q F (YO u) c
 ds r q d F u c M:=by
  let⟨h1,h2,N,H⟩:=h.ds r q d F (YO u) c M;exact⟨h1,h2,N,λj o v B=>⟨λk=>(H j o v B).1 (YO k),(H j o v B).2⟩⟩
 anc:=h.anc
omit [Dfr] in
theorem zgp.add(h:zgp ops al){o:Oper}(v:ops[i]?=E o):zgp ops ((i,Yf al (zF o))::al):=by
 intro j m H q u Y r c B a F;rcases Db.1 H with e | e
 ·cases e;rw[v] at u;cases u;exact zeh h Y r c (r i o v B) a F
 ·exact h j m e q u Y r c B a F
theorem Cfg.sync(h:Cfg P ops n cl taken al S X Fx){o:Oper}(M:ops[i]?=E o)(hi:i ∉ cl)(U:i ∉ Fx)(hd:∀j∈zF o,j∈cl)(R:∀j∈zF o,onX X j=G)(v:∀r q,r∈taken->onX X r=O->ops[r]?=E q->QV P ops S' q):Cfg P ops n (i::cl) taken ((i,Yf al (zF o))::al) S' (X.setIfInBounds i G) Fx where
 size:=by simp[h.size]
 sub k u:=by
  by_cases e:i=k
  ·subst e;simp
  ·rw[Wk e] at u;exact(h.sub k u).imp_left (D2 _)
 fon k u:=⟨xa (h.fon k u).1,λhm=>by
  rcases Db.1 hm with e | e
  ·grind
  ·exact(h.fon k u).2 e⟩
 wf:=⟨λo' Y j B=>jE,h.wf⟩
 tk k u c:=by
  rcases Db.1 u with e | e
  ·subst e;rw[zfw (by rw[h.size];grind)] at c;cases c
  ·exact h.tk k e (YO c)
 inc k u:=by
  rcases Db.1 u with e | e
  ·grind
  ·exact h.inc k e
 tcl k u:=D2 _ (h.tcl k u)
 closed k q v u j B:=by
  by_cases e:i=k
  ·subst e;rw[M] at v;cases v;exact xa (R j B)
  ·rw[Wk e] at u;exact xa (h.closed k q v u j B)
 qv r q H c hq':=v r q H (YO c) hq'
 ds r q d H c v he:=by
  let⟨h1,h2,h3,N⟩:=h.ds r q d H (YO c) v he;exact⟨h1,h2,h3,λj o B F=>⟨λk=>(N j o B F).1 (YO k),(N j o B F).2⟩⟩
 anc:=h.anc.add M
omit [Dfr] in
theorem Cfg.early (h:Cfg P ops n cl taken al S X Fx) {o:Oper}(ho:ops[i]?=E o) (hi:i ∉ cl) (hiF:i ∉ Fx) (hd:∀j∈zF o,j∈cl) (he:WV ops n cl taken i o=G) (hv:QV P ops S' o) (hS:∀t,o.dst≠E t->S'.env t=S.env t) (hh:S'.heap=S.heap) :
    Cfg P ops n (i::cl) (i::taken) ((i,Yf al (zF o))::al) S' X Fx:=by
 have R:∀d,o.dst=E d->qb d n=G/\d < vB/\d ∉ looks ops o/\∀j q,ops[j]?=E q->j≠i->(j∈cl->j∈taken->d ∉ looks ops q)/\(j ∉ cl->d∈looks ops q->i∈zF q)/\q.dst≠E d:=λd e=>by
  unfold WV at he;rw[e] at he;simp only[gf,Dw] at he;let⟨h1,h2,Y,U⟩:=he;refine⟨h1,by rwa [Da] at h2,λB=>(by rw[zR.2 B] at Y;cases Y),λj q M u=>?_⟩;have:=Dx.1 U j (D8.2 (U9.1 M).1);rw[M] at this;simp only[UO,gf] at this;rcases this with z | ⟨z1,z2⟩
  ·exact absurd (ge z) u
  · refine⟨λN ht B=>?_,λN B=>?_,λe'=>?_⟩
    ·rw[zR.2 N,Dy,zR.2 ht,zR.2 B] at z1;cases z1
    · have:zD j cl=false:=by
        cases e:zD j cl with
        |false=>rfl
        |true=>exact absurd (zR.1 e) N
      rw[this,U8,zR.2 B] at z1;exact zR.1 (by simpa using z1)
    ·rw[e'] at z2;simp at z2
 refine⟨h.size,λk v=>(h.sub k v).imp_left (D2 _),λk v=>⟨(h.fon k v).1,λB=>(by
  rcases Db.1 B with e | e
  ·grind
  ·exact(h.fon k v).2 e)⟩,⟨λo' ho' j M=>jE,h.wf⟩,λk v c=>?_,λk v=>?_,λk v=>?_,h.closed,λr q hr c H=>?_,λr q d hr c H e=>?_,h.anc.add ho⟩
 · rcases Db.1 v with e | e
   ·subst e;simp
   ·exact D2 _ (h.tk k e c)
 · rcases Db.1 v with e | e
   ·grind
   ·exact h.inc k e
 · rcases Db.1 v with e | e
   ·subst e;simp
   ·exact D2 _ (h.tcl k e)
 · rcases Db.1 hr with e | e
   ·grind
   · have u:r≠i:=λe'=>hi (e' ▸ h.tcl r e)
     refine(h.qv r q e c H).congr (λt ht=>?_) (λd ed=>?_) λid _=>by rw[hh]
     ·exact hS t λe'=>((R t e').2.2.2 r q H u).1 (h.tcl r e) e ht
     grind
 · rcases Db.1 hr with e' | e'
   · subst e';rw[ho] at H;cases H;let⟨h1,h2,Y,U⟩:=R d e;refine⟨h1,h2,Y,λj o' M u=>⟨λF B=>?_,(U j o' M u).2.2⟩⟩;by_cases N:j∈cl
     ·exact absurd B ((U j o' M u).1 N (h.tk j N F))
     grind
   ·exact h.ds r q d e' c H e
theorem zsR:∀{cl:List Nat},WfL ops cl->(∀i∈cl,i < ops.size)->(∃i∈cl,onX X i=O)->∃i q,i∈cl/\onX X i=O/\ops[i]?=E q/\∀j∈zF q,onX X j=G
 |[],_,_,⟨i,h,_⟩=>by cases h
 |i::cl,⟨h1,h2⟩,r,F=>by
  by_cases H:∃i∈cl,onX X i=O
  ·let⟨j,q,U,Y,N,R⟩:=zsR h2 (λj B=>r j (D2 _ B)) H;grind
  ·have u:∀j∈cl,onX X j=true:=λj B=>by
    grind
   let⟨j,B,v⟩:=F;rcases Db.1 B with e | e
   ·subst e;have c:=r j je;exact⟨j,ops[j],je,v,qM c,λk M=>u k (h1 _ (qM c) k M)⟩
   grind
theorem YY(hs:X.size=ops.size) :i∈qx .any ops X↔onX X i=O/\∃o,ops[i]?=E o/\∀j∈zF o,onX X j=true:=by
 rw[mem_ready];constructor
 ·rintro⟨h1,o,h2,r⟩;have c:i < X.size:=jE
  refine⟨jE,o,h2,λj u=>?_⟩;obtain⟨e,h,rfl⟩:=D4.1 u;grind
 ·rintro⟨h1,o,h2,r⟩;have c:i < X.size:=jE
  exact⟨jE,o,h2,λe h hb=>r e.on (zoz h hb)⟩
theorem ziG(c:∀i∈taken,onX X i=G):∀t,¬ zoB ops taken X t:=λt ⟨r,q,h1,h2,_⟩=>jE
theorem EqX.weaken{D D':Nat->Prop}{So:St C}(h:EqX D So S)(r:∀t,D t->D' t):EqX D' So S:=⟨h.heap,λt c=>h.env t λhd=>c (r t hd)⟩
theorem AbsL.mask{L:List (Nat×Value)}{b:Nat->Value}{Z:FS}{PV:List Priv}{ν:Val}{vs:Nat->List Value}{ids:List Nat}{So:St C}(h:AbsL κ So ν vs ids L b Z PV)(e:EqX (λt=>t∈l) So S):AbsL κ (zdw S l) ν vs ids L b Z PV:=by
 have r:(zdw S l).heap=So.heap:=e.heap.symm;have c:∀t,(zdw S l).env t = .und\/(zdw S l).env t=So.env t:=λt=>by
  show(bif zD t l then AV.und else S.env t)=_\/(bif zD t l then AV.und else S.env t)=_;cases v:zD t l with
  |true=>exact .inl rfl
  |false=>
   refine .inr (e.env t λhd=>?_).symm;rw[zR.2 hd] at v;cases v
 refine⟨⟨h.nd,λid=>by rw[r];exact h.dom id,by rw[h.pv,r],λid cs u=>h.cell id cs jE,λt=>?_,h.one⟩,λt=>?_,λid cs u=>?_,λk B hs=>have q:=h.keep k B jE;⟨q.1,q.2.1,λF=>q.2.2 jE⟩⟩
 ·rcases c t with z | z
  ·rw[z];trivial
  ·rw[z];exact h.env t
 ·rcases c t with z | z
  ·rw[z];trivial
  ·rw[z,r];exact h.live t
 ·rw[r] at u |-;exact h.livec id cs u
theorem znl{d:Nat}{A:AV C.D}(h:S.env d=A):S.put d A=S:=by
 unfold St.put;have:upd S.env d A=S.env:=by
  funext t;by_cases e:t=d
  ·subst e;rw[zp,h]
  ·rw[zq e]
 rw[this]
theorem zS.inv {D:Nat->Prop}{x:U3 (Out C)}{out:Out C}(h:zS D x (E out)):∃c,x=E c/\match c,out with
    | .go S,.go T=>EqX D S T
    | .pan u S,.pan v T=>u=v/\EqX D S T
    |_,_=>False:=by
 match x,out,h with
 |some (.go S),.go T,h=>exact⟨_,rfl,h⟩
 |some (.pan u S),.pan v T,h=>exact⟨_,rfl,h⟩
 |some (.go S),.pan v T,h=>exact h.elim
 |some (.pan u S),.go T,h=>exact h.elim
theorem xb {early:Bool}{next:List Nat->List Nat->List (Nat×Nat)->St C->U3 ρ}{K:XE C->St C->U3 ρ}{r:ρ}{stp:yR C}{R:Oper->St C->U3 Tch}(h:xD stp R P n ops okB i early cl taken al S K next=E r) :
    ∃o run,ops[i]?=E o/\i ∉ cl/\(∀j∈zF o,j∈cl)/\(∀t∈ww ops o,∃j,j∈zF o/\(ops[j]?).bind (·.dst)=E t)/\Xm ops S o run/\yJ stp R P n ops okB cl taken (Yf al (zF o)) K i early o run S (λS tk=>next (i::cl) tk ((i,Yf al (zF o))::al) S)=E r:=by
 unfold xD at h;split at h
 ·cases h
 · rename_i o N;let⟨v,h⟩:=zb h;simp only[gf,Dw] at v;have h1:i ∉ cl:=λY=>by rw[zR.2 Y] at v;cases v.1
   have h2:∀j∈zF o,j∈cl:=λj u=>zR.1 (Dx.1 v.2 j u)
   split at h
   ·rename_i F;exact⟨o,G,N,h1,h2,λt B=>(by unfold ww at B;grind),(by unfold Xm;rw[F]),h⟩
   · rename_i j c F;let⟨u,h⟩:=zb h;have u:=zR.1 u;split at h
     ·cases h
     · rename_i U hdg;have M:∀t∈ww ops o,∃j,j∈zF o/\(ops[j]?).bind (·.dst)=E t:=λt B=>by
         unfold ww at B;rw[F] at B;grind
       have H:∀{run:Bool},((∃b,S.env U = .bool b/\run=(b == c))\/(S.env U = .tup []/\run=O))->Xm ops S o run:=λ{run} k=>by
        unfold Xm;grind
       split at h
       · rename_i q e;cases q with
         |true=>
          rw[jv rfl,znl e] at h;exact⟨o,c,N,h1,h2,M,H (.inl ⟨G,e,je⟩),h⟩
         |false=>
          rw[jx je,znl e] at h;grind
       all_goals grind
theorem zdz{early:Bool}{K:XE C->St C->U3 ρ}{stp:yR C}{c:Oper->St C->U3 Tch}(hi:qb i 4096=G)(h:wd ops cl i=G):ZM stp c P n ops ((i,early)::ord) cl taken al S K=xD stp c P n ops (zoA ops (WW C P ops n) cl i) i early cl taken al S K λcl tk al S=>ZM stp c P n ops ord cl tk al S K:=by
 show(bif qb i 4096 then(bif wd ops cl i then _ else _) else _)=_;rw[hi,h,Dy,Dy]
theorem zcY{early:Bool}{K:XE C->St C->U3 ρ}{stp:yR C}{c:Oper->St C->U3 Tch}(hi:qb i 4096=G)(h:wd ops cl i=O):ZM stp c P n ops ((i,early)::ord) cl taken al S K=ZM stp c P n ops ord cl taken al S K:=by
 show(bif qb i 4096 then(bif wd ops cl i then _ else _) else _)=_;rw[hi,h,Dy,U8]
theorem zdA {early:Bool}{K:XE C->St C->U3 ρ}{stp:yR C}{c:Oper->St C->U3 Tch}(hi:qb i 4096=O):ZM stp c P n ops ((i,early)::ord) cl taken al S K=(bif wd ops cl ((i - 4096) / 64) && wd ops cl ((i - 4096) % 64) then chk (zrm ops (WW C P ops n) cl ((i - 4096) / 64) ((i - 4096) % 64)) (yh
      (xD stp c P n ops G ((i - 4096) / 64) O cl taken al S K λcl tk al S=>ZM stp c P n ops ord cl tk al S K)
      (xD stp c P n ops G ((i - 4096) % 64) O cl taken al S K λcl tk al S=>ZM stp c P n ops ord cl tk al S K))
    else ZM stp c P n ops ord cl taken al S K):=by
 show(bif qb i 4096 then(bif wd ops cl i then _ else _) else _)=_;rw[hi,U8]
theorem zoC {o:Oper}{K:XE C->St C->U3 ρ}{r:ρ}{stp:yR C}{N:Oper->St C->U3 Tch}{next:St C->List Nat->U3 ρ}(F:Xm ops S o run) (v:∀t∈ww ops o,o.dst≠E t)
    {okB:Bool} (h:yJ stp N P n ops okB cl taken m K i G o run S next=E r):WV ops n cl taken i o=G/\∃S',next S' (i::taken)=E r/\QV P ops S' o/\(∀t,o.dst≠E t->S'.env t=S.env t)/\S'.heap=S.heap:=by
 unfold yJ at h;rw[Dy] at h;let⟨u,h⟩:=zb h;refine⟨u,?_⟩;have H:∀d,o.dst=E d->d ∉ looks ops o:=λd e R=>by
  unfold WV at u;rw[e] at u;simp only[gf,Dw] at u;rw[zR.2 R] at u;cases u.2.2.1
 have c:∀d A t,o.dst=E d->o.dst≠E t->(S.put d A).env t=S.env t:=λd A t e k=>zq λe'=>k (by rw[e,e'])
 cases run with
 |true=>
  rw[Dy] at h;split at h
  · rename_i d hd;let⟨M,h⟩:=zb h;rw[zwE] at h;let⟨A,hA,h⟩:=gd h;refine⟨_,h,⟨G,F.congr λt B=>c d A t hd (v t B),M,d,hd,?_⟩,λt k=>c d A t hd k,rfl⟩;rw[zdx (ops:=ops) (S:=S) (λt B=>c d A t hd λe=>?_) λid _=>rfl,hA]
    ·show E A=E (upd S.env d A d);rw[zp]
    grind
  ·cases h
 |false=>
  rw[U8] at h;split at h
  ·rename_i d hd;refine⟨_,h,⟨O,F.congr λt B=>c d _ t hd (v t B),λU e=>?_⟩,λt k=>c d _ t hd k,rfl⟩;rw[hd] at e;cases e;exact zp
  ·rename_i hd;exact⟨_,h,⟨O,F,λU e=>jE⟩,λt _=>rfl,rfl⟩
theorem Sep.perm{Z:FS}{A B:List Priv}(p:A.Perm B):∀{h:zc},Sep Z A h->Sep Z B h:=by
 induction p with
 |nil=>grind
 |cons x _ M=>
  intro h k;let⟨h1,h2,c,u,r,l2,d⟩:=k.uncons;exact .cons c (M u) r l2 d
 |swap x y l=>
  intro h k;let⟨h1,h2,c,u,r,l2,d⟩:=k.uncons;let⟨U,g2,N,R,v,H,e⟩:=u.uncons;have F:h1.disj g2:=d.mono (.refl _) H;exact .cons (h2:=h1.or g2) N (.cons c R (zc.le_or _ _) (zc.le_or_right F) F) (v.trans l2) (zc.or_le r (H.trans l2)) ((zc.or_disj (d.mono (.refl _) v) e.symm).symm)
 |trans _ _ Y i2=>grind
omit [Dfr] in
structure Home(C:Cod)(w0:Start)(σ0:FS)(st:Start)(σs:FS)(FR:List Priv):Prop where
 home:∀{Z PV w},Inv st σs Z PV w->Inv w0 σ0 Z (PV++FR) w
 gl:C.gl st.w σs
theorem Home.make(h:C.gl w0.w σ0){A B:List Priv}{Z:FS}(hi:Inv w0 σ0 Z (A++B) w):∃st,Home C w0 σ0 st Z B/\Inv st Z Z A w:=by
 let⟨M,hs,c⟩:=hi.own;let⟨v,H,s1,F,r,l2,u⟩:=hs.split;exact⟨⟨w,v⟩,⟨λ{τ PV w'} k=>hi.call c F r l2 u k,C.glm hi.le hi.ext h⟩,.start hi.sub s1 (c.sub.mono r) (c.mono r).apart⟩
structure Fl where
 i:Nat
 d:Nat
 ad:Addr
 zs:List Value
def frF(F:List Fl):List Priv:=F.map λf =>.cell f.ad f.zs
def zx8(C:Cod)(P:Program)(ops:Array Oper)(n i d:Nat)(c:List Value):Prop:=
 ∃o t ti h,ops[i]?=E o/\o.dst=E d/\o.op = .alloc t/\o.guard=I/\P.info? t=E ti/\ti.zero=E h/\h.cells.toList=c/\C.oal t c=I/\qb d n=G/\d < vB/\∀j q,ops[j]?=E q->j≠i->(d∈looks ops q->i∈zF q)/\q.dst≠E d
theorem zx9(h:i∈WW C P ops n):∃d B,zx8 C P ops n i d B:=by
 have h:=(D7.1 h).2;unfold flB at h;split at h
 ·cases h
 ·rename_i o H;split at h
  ·rename_i d t M e2 F;split at h
   ·rename_i ti r;split at h
    ·rename_i N U;split at h
     ·rename_i c;simp only[gf] at h;let⟨h1,h2,Y⟩:=h;refine⟨d,_,o,t,ti,N,H,M,e2,F,r,U,rfl,c,h1,by rwa [Da] at h2,λj q v u=>?_⟩;have:=Dx.1 Y j (D8.2 (U9.1 v).1);rw[v] at this;simp only[UO,gf,Dw] at this;rcases this with z | ⟨z1,z2⟩
      ·exact absurd (ge z) u
      ·refine⟨λR=>?_,λe=>?_⟩
       ·rcases z1 with z | z
        ·rw[zR.2 R] at z;cases z
        ·exact zR.1 z
       ·rw[e] at z2;simp at z2
     ·cases h
    ·cases h
   ·cases h
  ·cases h
structure FOK(C:Cod)(P:Program)(ops:Array Oper)(n:Nat)(a:Act)(F:List Fl):Prop where
 op:∀f∈F,zx8 C P ops n f.i f.d f.zs
 fl:∀f∈F,f.i∈WW C P ops n
 val:∀f∈F,a.tmps.getD f.d undef = .pointer (E f.ad)
 nd:(F.map Fl.i).Nodup
def flD(ops:Array Oper)(taken:List Nat)(X:Array Bool)(F:List Fl)(t:Nat):Prop:=zoB ops taken X t\/∃f∈F,f.d=t
structure Rl(P:Program)(ops:Array Oper)(n:Nat)(w0:Start)(σ0:FS)(κ:Kp)(taken:List Nat)(X:Array Bool)(F:List Fl)(So S:St C)(a:Act)(w:World):Prop where
 at_:∃st σs,Home C w0 σ0 st σs (frF F)/\At n st σs κ So a w
 eqx:EqX (flD ops taken X F) So S
 fok:FOK C P ops n a F
def zei(ops:Array Oper)(j:Nat)(a a':Act):Prop:=∀t,(∀o,ops[j]?=E o->o.dst≠E t)->a'.tmps.getD t undef=a.tmps.getD t undef
theorem VJ{v:Value}{t:Nat}(h:dst≠E t):(a.put dst v).tmps.getD t undef=a.tmps.getD t undef:=by
 cases dst with
 |none=>rfl
 |some d=>
  show(a.tmps.setIfInBounds d v).getD t undef=_;rw[U7,qX (λe=>h (by rw[e])),<- U7]
theorem znm{o:Oper}(h:o.wp P a w K Q):o.wp P a w (λa' w'=>K a' w'/\∀t,o.dst≠E t->a'.tmps.getD t undef=a.tmps.getD t undef) Q:=by
 unfold qD at *
 generalize (execOp a.eval o).run P w=r at *
 cases r with
 |ok n w'=>
  cases n<;>simp only[qQ] at h |-<;>
   first
    |exact⟨h,λt c=>VJ c⟩
    |exact Calls.mono h (λe v u=>by cases e<;>first | exact⟨u,λt c=>VJ c⟩ | exact u)
    |exact Rows.mono h (λ_ _ u=>⟨u,λt c=>VJ c⟩)
    |exact h
 |halt x w'=>cases x<;>simp only[qQ] at h |-<;>exact h
theorem ziH(h:wpOp P ops Q j K a w):wpOp P ops Q j (λa' w'=>K a' w'/\zei ops j a a') a w:=by
 unfold wpOp zei at *
 cases v:ops[j]? with
 |none=>grind
 |some o=>
  rw[v] at h;simp only at h |-
  split
  ·rename_i r;rw[jv r] at h;refine h.imp (λh=>qO (λa' w' u=>⟨u.1,λt c=>u.2 t (c o rfl)⟩) (znm h)) id
  ·rename_i r;rw[jx r] at h;exact⟨h,λt c=>VJ (c o rfl)⟩
omit [Dfr] in
theorem FOK.next{a':Act}{F:List Fl}(h:FOK C P ops n a F)(v:zei ops j a a')(r:∀f∈F,f.i≠j):FOK C P ops n a' F:=
 ⟨h.op,h.fl,λf c=>by
  let⟨o,t,ti,B,_,_,_,_,_,_,_,_,_,_,p⟩:=h.op f c
  rw[v f.d λq u=>(p j q u (r f c).symm).2];exact h.val f c,h.nd⟩
theorem WfL.deps(r:ops[j]?=E q)(u:k∈zF q):∀{cl:List Nat},WfL ops cl->j∈cl->k∈cl:=by
 intro cl
 induction cl with
 |nil=>grind
 |cons i cl v=>
  intro h c;let⟨h1,h2⟩:=(show(∀o,ops[i]?=E o->∀j∈zF o,j∈cl)/\WfL ops cl from h);rcases Db.1 c with e | e
  all_goals grind
omit [Dfr] in
theorem Cfg.flt(h:Cfg P ops n cl taken al S X Fx){o:Oper}(v:ops[i]?=E o)(hi:i ∉ cl)(N:∀j∈zF o,onX X j=G):Cfg P ops n cl taken al S (X.setIfInBounds i G) (i::Fx) where
 size:=by simp[h.size]
 sub k c:=by
  by_cases e:i=k
  ·grind
  ·rw[Wk e] at c;exact(h.sub k c).imp_right (D2 _)
 fon k c:=by
  rcases Db.1 c with e | e
  ·subst e;exact⟨zfw (by rw[h.size];grind),hi⟩
  ·exact⟨xa (h.fon k e).1,(h.fon k e).2⟩
 wf:=h.wf
 tk k c hoff:=h.tk k c (YO hoff)
 inc:=h.inc
 tcl:=h.tcl
 closed k q u c j B:=by
  by_cases e:i=k
  ·subst e;rw[v] at u;cases u;exact xa (N j B)
  ·rw[Wk e] at c;exact xa (h.closed k q u c j B)
 qv r q H v u:=h.qv r q H (YO v) u
 ds r q d H v u R:=by
  let⟨h1,h2,U,M⟩:=h.ds r q d H (YO v) u R;exact⟨h1,h2,U,λj o B F=>⟨λk=>(M j o B F).1 (YO k),(M j o B F).2⟩⟩
 anc:=h.anc
theorem Cfg.absorb(h:Cfg P ops n cl taken al S X Fx){u:List Nat}{o:Oper}(v:ops[i]?=E o)(hi:i∈Fx)(hd:∀j∈zF o,j∈cl)(F:∀k,k∈u↔k∈Fx/\k≠i)(M:∀r q,r∈taken->onX X r=O->ops[r]?=E q->QV P ops S' q):Cfg P ops n (i::cl) taken ((i,Yf al (zF o))::al) S' X u where
 size:=h.size
 sub k c:=by
  rcases h.sub k c with z | z
  ·grind
  grind
 fon k c:=by
  let⟨h1,h2⟩:=(F k).1 c;refine⟨(h.fon k h1).1,λH=>?_⟩;rcases Db.1 H with e | e
  ·exact h2 e
  ·exact(h.fon k h1).2 e
 wf:=⟨λo' B j N=>jE,h.wf⟩
 tk k c hoff:=by
  rcases Db.1 c with e | e
  ·subst e;rw[(h.fon k hi).1] at hoff;cases hoff
  ·exact h.tk k e hoff
 inc k c:=by
  rcases Db.1 c with e | e
  ·grind
  ·exact h.inc k e
 tcl k c:=D2 _ (h.tcl k c)
 closed:=h.closed
 qv:=M
 ds:=h.ds
 anc:=h.anc.add v
theorem zmS{d:Nat}{t:TypeId}:xg P S (E d) (.alloc t)=none:=by unfold xg;rfl
theorem zoD{d:Nat}{t ty:TypeId}:xC qo Γ P d ty S (.alloc t)=Xg P S d t:=by unfold xC;rfl
theorem zoE{d:Nat}{t ty:TypeId}{ps:String}{af:Array Edge}{g:U3 (Nat×Bool)}:stp qo Γ P n ⟨E d,.alloc t,ty,ps,af,g⟩ S=chk (qb d n) (Xg P S d t):=by
 unfold stp;simp only[zmS];unfold VF;simp only[zoD]
theorem zrn {o:Oper}{d:Nat}{t:TypeId}{u:Value}{c:List Value}{out:Out C}(r:o.dst=E d) (h:o.op = .alloc t) (F:P.info? t=E ti) (H:ti.zero=E u) (B:u.cells.toList=c) (v:C.oal t c=I) (hs:stp qo Γ P n o S=E out) :
    S.heap (nid d 0)=I/\out = .go {env:=upd S.env d (.pc (nid d 0) 0),heap:=upd S.heap (nid d 0) (E (.cell (c.map ZY)))}:=by
 let⟨dst,op,ty,ps,af,g⟩:=o;simp only at r h;subst r h B;rw[zoE] at hs;let⟨_,hs⟩:=zb hs;unfold Xg at hs;rw[F] at hs;simp only[H,v] at hs;let⟨h0,hs⟩:=zb hs;cases hs;exact⟨Ze h0,rfl⟩
theorem absorb (hgl:C.gl w0.w σ0) {next:List Nat->List Nat->List (Nat×Nat)->St C->U3 ρ}{K:XE C->St C->U3 ρ}{r:ρ}(hdr:xD (Y9 qo Γ P n) (tch Γ P) P n ops okB i O cl taken al S K next=E r) {F:List Fl}(hi:i∈F.map Fl.i) {So:St C}
    (U:Cfg P ops n cl taken al S X (F.map Fl.i)) (B:Rl P ops n w0 σ0 κ taken X F So S a w):∃S' So' F' al',next (i::cl) taken al' S'=E r/\Cfg P ops n (i::cl) taken al' S' X (F'.map Fl.i)/\Rl P ops n w0 σ0 κ taken X F' So' S' a w:=by
 let⟨o,run,ho,hicl,hd,hgt,M,h⟩:=xb hdr;obtain⟨f,hf,rfl⟩:=D4.1 hi;obtain⟨F1,F2,rfl⟩:=List.append_of_mem hf;let⟨o',t,ti,zv,p1,p2,p3,p4,p5,p6,p7,p8,p9,p10,p11⟩:=B.fok.op f hf;rw[ho] at p1;cases p1;have hrun:run=true:=by unfold Xm at M;grind
 subst hrun;unfold yJ at h;rw[U8] at h;let⟨_,h⟩:=zb h;rw[Dy] at h;have R:∀k∈zF o,onX X k=true:=U.closed f.i o ho (U.fon f.i hi).1
 have hanc:∀H,onX X H=O->qc (Yf al (zF o)) H=false:=λH hr'=>by
  cases e:qc (Yf al (zF o)) H with
  |false=>rfl
  |true=>
   have this:onX X H=true:=zeh U.anc (λk=>onX X k=G) (λk q hk hon=>U.closed k q hk hon) (λk hk=>by rw[<- U.size];grind) R H e;grind
 split at h
 ·cases h
 · rename_i l p htc;let⟨hall,h⟩:=zb h;rw[Vn] at h;let⟨out,hs,h⟩:=gd h;obtain⟨h0,rfl⟩:=zrn p2 p3 p5 p6 p7 p8 hs;have Y:=zrl hs htc;have hnd:=B.fok.nd;rw[DA,UF] at hnd;let⟨hnd1,hnd2⟩:=UE.1 ((List.Perm.nodup_iff qJ).1 hnd);refine⟨_,{env:=upd So.env f.d (.pc (nid f.d 0) 0),heap:=upd So.heap (nid f.d 0) (E (.cell (f.zs.map ZY)))},F1++F2,_,h,U.absorb ho hi hd (λk=>?_) (λH q' h1 h2 h3=>?_),?_,?_,?_⟩
   · simp only[DA,UF,U5,Db] at hnd1 |-
     constructor
     ·grind
     grind
   ·have:=Dx.1 hall H h1;rw[hanc H h2,DC] at this;exact(U.qv H q' h1 h2 h3).keep Y h3 this
   · let⟨st,σs,hh,L,b,Z,PV,⟨ν,vs,ids,hA⟩,hinv,hfi⟩:=B.at_
     have hi2:Inv w0 σ0 Z ((.cell f.ad f.zs::PV)++frF (F1++F2)) w:=(hh.home hinv).sub_own λg k=>Sep.perm (by
      simp only[frF,DA,UF,List.cons_append];rw[<- Dc,<- Dc]
      exact qJ) k
     let⟨st',hh',N⟩:=Home.make hgl hi2;refine⟨st',Z,hh',L,b,Z,_,?_,N,hfi⟩;have hv:look L b f.d = .pointer (E (f.ad.add 0)):=by rw[<- hfi.get,B.fok.val f hf];simp[Addr.add]
     refine zC.unput (hA.new (d:=f.d) (by rw[B.eqx.heap];exact h0) (yQ κ f.d 0) (e :=.cell _) (v :=.slice I 0 0) (a:=⟨f.ad,λ_ =>.slice I 0 0⟩) (us:=f.zs) (A :=.pc (nid f.d 0) 0) (u :=.pointer (E (f.ad.add 0))) (λν' h1 h2=>⟨?_,by show nid f.d 0=nid f.d 0;rfl⟩) rfl rfl (λcs hcs=>?_) (by simp[Ent.at,Addr.add])) hv
     ·show Value.pointer (E f.ad) = .pointer (E ((ν'.adr _).a.add 0));rw[h2];simp[Addr.add]
     ·cases hcs;exact⟨xM _,YV _⟩
   · refine⟨?_,λt' ht'=>?_⟩
     ·show upd So.heap _ _=upd S.heap _ _;rw[B.eqx.heap]
     · show upd So.env _ _ t'=upd S.env _ _ t';by_cases e:t'=f.d
       ·subst e;rw[zp,zp]
       · rw[zq e,zq e];refine B.eqx.env t' λhD=>ht' ?_
         rcases hD with z | ⟨g,hg1,hg2⟩
         ·exact .inl z
         · refine .inr ⟨g,?_,hg2⟩;rcases U5.1 hg1 with z | z
           ·grind
           · rcases Db.1 z with z | z
             all_goals grind
   · have c:∀g,g∈F1++F2->g∈F1++f::F2:=λg M=>by
       rcases U5.1 M with z | z
       all_goals grind
     exact⟨λg M=>B.fok.op g (c g M),λg M=>B.fok.fl g (c g M),λg M=>B.fok.val g (c g M),jE⟩
theorem zfb{next:List Nat->List Nat->List (Nat×Nat)->St C->U3 ρ}{K:XE C->St C->U3 ρ}{r:ρ}(hdr:xD (Y9 qo Γ P n) (tch Γ P) P n ops okB i G cl taken al S K next=E r){F:List Fl}(hi:i∈F.map Fl.i)(Y:FOK C P ops n a F):False:=by
 let⟨o,run,B,v,hd,R,M,h⟩:=xb hdr;obtain⟨f,H,rfl⟩:=D4.1 hi;let⟨o',t,ti,zv,u,U,N,p4,_⟩:=Y.op f H;rw[B] at u;cases u;have c:run=true:=by unfold Xm at M;grind
 subst c;unfold yJ at h;rw[Dy] at h;let⟨_,h⟩:=zb h;rw[Dy,U] at h;let⟨h,_⟩:=zb h;rw[N] at h;cases h
theorem Rl.done{F:List Fl}{So:St C}(r:Rl P ops n w0 σ0 κ taken X F So S a w)(B:F=[])(hp:∀t,¬ zoB ops taken X t):At n w0 σ0 κ S a w:=by
 subst B;let⟨st,u,v,L,b,Z,PV,hA,c,h⟩:=r.at_;have:At n w0 σ0 κ So a w:=⟨L,b,Z,PV,hA,by have:=v.home c;simpa[frF] using this,h⟩
 exact this.eqx (r.eqx.weaken λt H=>by
  rcases H with z | ⟨f,M,_⟩
  all_goals grind)
theorem zsS(h:k≠i):(!V k i)=true:=by
 cases e:V k i with
 |true=>exact absurd (ge e) h
 |false=>rfl
theorem zwO (hgl:C.gl w0.w σ0) (hΓ:∀s∈Γ,s.OK P):∀(M:Nat) (ord:List (Nat×Bool)) {cl taken:List Nat}{al:List (Nat×Nat)}{S:St C}{K:XE C->St C->U3 ρ}{r:ρ},ZM (Y9 qo Γ P n) (tch Γ P) P n ops ord cl taken al S K=E r->
    ∀{X:Array Bool} {a:Act} {w:World} {So:St C} {F:List Fl},Cfg P ops n cl taken al S X (F.map Fl.i)->X.toList.count O<=M->Rl P ops n w0 σ0 κ taken X F So S a w->wpAny P .any ops (Zi n w0 σ0 κ K r) M X a w:=by
 intro M;have noF:∀{cl:List Nat} {F:List Fl} {taken al} {S:St C} {X:Array Bool} {a:Act},Cfg P ops n cl taken al S X (F.map Fl.i)->FOK C P ops n a F->(∀i,i < ops.size->i∈cl)->F=[]:=by
  intro cl F taken al S X a B hF U;cases F with
  |nil=>rfl
  |cons f F=>
   let⟨o,_,_,_,p1,_⟩:=hF.op f je;exact absurd (U f.i (U9.1 p1).1) (B.fon f.i je).2
 induction M with
 |zero=>
  intro ord
  induction ord with
  |nil=>
   intro cl taken al S K r h X a w So F B hn Y;let⟨U,h⟩:=zb h;have hcl:∀i,i < ops.size->i∈cl:=λi hi=>zR.1 (Dx.1 U i (D8.2 hi))
   have hon:∀i,i < ops.size->onX X i=true:=λi hi=>by
    cases e:onX X i with
    |true=>rfl
    |false=>have:=znk (by rw[B.size];exact hi) e;omega
   refine⟨?_,S,h,Y.done (noF B Y.fok hcl) λt ht=>ziG (λi hi=>hon i (B.inc i (B.tcl i hi))) t ht⟩;refine List.eq_nil_iff_forall_not_mem.2 λi hi=>?_
   let⟨h1,o,h2,_⟩:=(YY B.size).1 hi;grind
  |cons io ord ih=>
   intro cl taken al S K r h X a w So F B hn Y;let⟨i,early⟩:=io;have zero:∀{okB:Bool} {i:Nat} {early:Bool} {next},xD (Y9 qo Γ P n) (tch Γ P) P n ops okB i early cl taken al S K next=E r->i∈F.map Fl.i:=by
    intro okB i early next h
    let⟨o,run,ho,hi,hd,hgt,hg,h⟩:=xb h;by_cases hm:i∈F.map Fl.i
    ·exact hm
    exfalso;have N:onX X i=false:=by
     cases e:onX X i with
     |false=>rfl
     |true=>exact((B.sub i e).elim hi hm).elim
    have:=znk (by rw[B.size];grind) N;omega
   cases hb:qb i 4096 with
   |true=>
    cases hrd:wd ops cl i with
    |true=>
     rw[zdz hb hrd] at h;cases early with
     |true=>exact(zfb h (zero h) Y.fok).elim
     |false=>
      let⟨S',So',F',al',h',hc',hR'⟩:=absorb hgl h (zero h) B Y;grind
    |false=>rw[zcY hb hrd] at h;grind
   |false=>
    rw[zdA hb] at h;cases hrd:wd ops cl ((i - 4096) / 64) && wd ops cl ((i - 4096) % 64) with
    |true=>
     rw[hrd,Dy] at h;have h:=(za2 (zb h).2).1;let⟨S',So',F',al',h',hc',hR'⟩:=absorb hgl h (zero h) B Y;grind
    |false=>rw[hrd,U8] at h;grind
 |succ M ihf=>
  intro ord;have setX:∀{taken:List Nat} {X:Array Bool} {F:List Fl} {j:Nat} {t:Nat},j ∉ taken->flD ops taken X F t->flD ops taken (X.setIfInBounds j G) F t:=by
   intro taken X F j t hj ht;rcases ht with⟨r',q',h1,h2,h3,h4⟩ | z
   ·refine .inl ⟨r',q',h1,?_,h3,h4⟩;rw[Wk jE];exact h2
   ·exact .inr z
  have quiet:∀(ord:List (Nat×Bool)) {cl taken:List Nat} {al:List (Nat×Nat)} {S:St C} {K:XE C->St C->U3 ρ} {r:ρ},ZM (Y9 qo Γ P n) (tch Γ P) P n ops ord cl taken al S K=E r->
      ∀{X:Array Bool} {a:Act} {w:World} {So:St C} {F:List Fl},Cfg P ops n cl taken al S X (F.map Fl.i)->X.toList.count O<=M+1->Rl P ops n w0 σ0 κ taken X F So S a w->∀{j:Nat},j∈qx .any ops X->j∈cl->
       wpOp P ops (Zi n w0 σ0 κ K r) j (wpAny P .any ops (Zi n w0 σ0 κ K r) M (X.setIfInBounds j G)) a w:=by
   intro ord cl taken al S K r h X a w So F B hn Y j hj hjc;let⟨N,q,hq,R⟩:=(YY B.size).1 hj;have hjt:=B.tk j hjc N;have hlt:j < X.size:=by rw[B.size];grind
   let⟨st,σs,hh,hA⟩:=Y.at_;have hjF:∀f∈F,f.i≠j:=λf hf e=>(B.fon f.i (D4.2 ⟨f,hf,rfl⟩)).2 (e ▸ hjc)
   have base:=zsQ (w0:=st) (σ0:=σs) (Q:=Zi n w0 σ0 κ K r) (K:=λa' w'=>∃S1,At n st σs κ S1 a' w'/\EqX (λt=>flD ops taken X F t/\q.dst≠E t) S1 S) hh.gl hΓ hq hA Y.eqx (B.qv j q hjt N hq) (λt ht hp=>?_) (λd e=>(B.ds j q d hjt N hq e).1) λS1 a' w' hA' hX'=>⟨S1,hA',hX'⟩
   · refine wpOp_mono ?_ (ziH base);rintro a' w' ⟨⟨S1,hA',hX'⟩,ht⟩;refine ihf ord h (B.hit hjc λq' hq' k hk=>?_) (zhI hlt N hn) ⟨⟨st,σs,hh,hA'⟩,hX'.weaken λt ht=>?_,Y.fok.next ht hjF⟩
     ·grind
     · let⟨ht,hne⟩:=ht;rcases ht with⟨r',q',h1,h2,h3,h4⟩ | z
       · refine .inl ⟨r',q',h1,?_,h3,h4⟩;rw[Wk]
         all_goals grind
       ·exact .inr z
   · rcases hp with⟨r',q',h1,h2,h3,h4⟩ | ⟨f,hf,rfl⟩
     · let⟨_,_,k3,k4⟩:=B.ds r' q' t h1 h2 h3 h4;by_cases e:j=r'
       ·grind
       grind
     ·let⟨o,_,_,_,_,_,_,_,_,_,_,_,_,_,p⟩:=Y.fok.op f hf;exact(B.fon f.i (D4.2 ⟨f,hf,rfl⟩)).2 (WfL.deps hq ((p j q hq (hjF f hf).symm).1 ht) B.wf hjc)
  have float:∀(ord:List (Nat×Bool)) {cl taken:List Nat} {al:List (Nat×Nat)} {S:St C} {K:XE C->St C->U3 ρ} {r:ρ},ZM (Y9 qo Γ P n) (tch Γ P) P n ops ord cl taken al S K=E r->
      ∀{X:Array Bool} {a:Act} {w:World} {So:St C} {F:List Fl},Cfg P ops n cl taken al S X (F.map Fl.i)->X.toList.count O<=M+1->Rl P ops n w0 σ0 κ taken X F So S a w->∀{j:Nat},j∈qx .any ops X->j ∉ cl->j∈WW C P ops n->
       wpOp P ops (Zi n w0 σ0 κ K r) j (wpAny P .any ops (Zi n w0 σ0 κ K r) M (X.setIfInBounds j G)) a w:=by
   intro ord cl taken al S K r h X a w So F B hn Y j hj hjc hjf;let⟨N,q,hq,R⟩:=(YY B.size).1 hj;have hlt:j < X.size:=by rw[B.size];grind
   let⟨d,zs,hfo⟩:=zx9 hjf;let⟨o,t,ti,zv,p1,p2,p3,p4,p5,p6,p7,p8,p9,p10,p11⟩:=id hfo;rw[hq] at p1;cases p1;have hjF:∀f∈F,f.i≠j:=λf hf e=>by
    have:=(B.fon f.i (D4.2 ⟨f,hf,rfl⟩)).1;grind
   have hjt:j ∉ taken:=λhm=>hjc (B.tcl j hm)
   let⟨st,σs,hh,L,b,Z,PV,⟨ν,vs,ids,hA⟩,hinv,hfi⟩:=Y.at_;have base:wpOp P ops (Zi n w0 σ0 κ K r) j (λa' w'=>∃c:Addr,Inv st σs Z (.cell c zs::PV) w'/\Fits n ((d,.pointer (E (c.add 0)))::L) b a') a w:=by
    unfold wpOp;rw[hq];have hw:qB q (yielded ops a.tmps)=true:=by unfold qB;rw[p4]
    simp only[hw,jq];left;let⟨dst,op,ty,ps,af,g⟩:=q;simp only at p2 p3 p4;subst p2 p3 p4;refine zkm (w0:=st) (σ0:=σs) (Z:=Z) (PV:=PV) (L:=L) (b:=b) (p:=E ()) (H:=λ_ L' Z' PV'=>∃c:Addr,L'=(d,.pointer (E (c.add 0)))::L/\Z'=Z/\PV' = .cell c zs::PV) p9 p5 p6 p7 (λc=>⟨c,rfl,rfl,rfl⟩) () rfl a w hinv hfi _ _ ?_;grind
   refine wpOp_mono ?_ (ziH base);rintro a' w' ⟨⟨c,hi',hf'⟩,ht⟩
   have hi2:Inv w0 σ0 Z (PV++frF (⟨j,d,c,zs⟩::F)) w':=(hh.home hi').sub_own λg k=>Sep.perm (by
    show(Priv.cell c zs::(PV++frF F)).Perm (PV++(Priv.cell c zs::frF F))
    exact qJ.symm) k
   let⟨st',hh',hinv'⟩:=Home.make hgl hi2;refine ihf ord h (F:=⟨j,d,c,zs⟩::F) (So:=So.put d .und) (B.flt hq hjc R) (zhI hlt N hn) ⟨⟨st',Z,hh',_,b,Z,PV,⟨ν,vs,ids,hA.put (v :=.pointer (E (c.add 0))) trivial trivial⟩,hinv',hf'⟩,⟨Y.eqx.heap,λt' ht'=>?_⟩,?_⟩
   · show upd So.env d _ t'=S.env t';by_cases e:t'=d
     ·exact absurd (.inr ⟨_,qE ..,e.symm⟩) ht'
     · rw[zq e];refine Y.eqx.env t' λhD=>ht' ?_
       rcases setX hjt hD with z | ⟨f,hf,hz⟩
       ·exact .inl z
       ·exact .inr ⟨f,D2 _ hf,hz⟩
   · have hn:=Y.fok.next ht hjF;refine⟨λf hf=>?_,λf hf=>?_,λf hf=>?_,?_⟩
     · rcases Db.1 hf with z | z
       ·grind
       ·exact hn.op f z
     · rcases Db.1 hf with z | z
       ·grind
       ·exact hn.fl f z
     · rcases Db.1 hf with z | z
       ·subst z;show a'.tmps.getD d undef=_;rw[hf'.get];show(bif V d d then _ else _)=_;simp[Addr.add]
       ·exact hn.val f z
     ·rw[UF];exact UE.2 ⟨λhm=>jE,hn.nd⟩
  have real:∀{cl taken:List Nat} {al:List (Nat×Nat)} {S:St C} {K:XE C->St C->U3 ρ} {r:ρ} {okB:Bool} {j:Nat} {o:Oper} {run:Bool} {next:St C->List Nat->U3 ρ},ops[j]?=E o->j ∉ cl->(∀k∈zF o,k∈cl)->Xm ops S o run->yJ (Y9 qo Γ P n) (tch Γ P) P n ops okB cl taken (Yf al (zF o)) K j O o run S next=E r->
      ∀{X:Array Bool} {a:Act} {w:World} {So:St C} {F:List Fl},Cfg P ops n cl taken al S X (F.map Fl.i)->X.toList.count O<=M+1->Rl P ops n w0 σ0 κ taken X F So S a w->onX X j=O->(∀k∈zF o,onX X k=G)->
      (∀S',next S' taken=E r->∀{X':Array Bool} {a':Act} {w':World} {So':St C} {F':List Fl},Cfg P ops n (j::cl) taken ((j,Yf al (zF o))::al) S' X' (F'.map Fl.i)->X'.toList.count O<=M->Rl P ops n w0 σ0 κ taken X' F' So' S' a' w'->wpAny P .any ops (Zi n w0 σ0 κ K r) M X' a' w')->
        wpOp P ops (Zi n w0 σ0 κ K r) j (wpAny P .any ops (Zi n w0 σ0 κ K r) M (X.setIfInBounds j G)) a w:=by
   intro cl taken al S K r okB j o run next ho hjc hd hg h X a w So F B hn Y N R hnext
   have hlt:j < X.size:=by rw[B.size];grind
   have hjFm:j ∉ F.map Fl.i:=λhm=>by have:=(B.fon j hm).1;grind
   have hjF:∀f∈F,f.i≠j:=λf hf e=>hjFm (D4.2 ⟨f,hf,e⟩)
   have hjt:j ∉ taken:=λhm=>hjc (B.tcl j hm)
   let⟨st,σs,hh,hA⟩:=Y.at_;have hX:=Y.eqx;unfold yJ at h;rw[U8] at h;let⟨_,h⟩:=zb h;have hanc:∀r',onX X r'=O->qc (Yf al (zF o)) r'=false:=λr' hr'=>by
    cases e:qc (Yf al (zF o)) r' with
    |false=>rfl
    |true=>
     have:=zeh B.anc (λk=>onX X k=G) (λk q hk hon=>B.closed k q hk hon) (λk hk=>by rw[<- B.size];grind) R r' e;grind
   have hfree:∀t∈looks ops o,¬ flD ops taken X F t:=λt ht hD=>by
    rcases hD with⟨r',q',h1,h2,h3,h4⟩ | ⟨f,hf,rfl⟩
    · let⟨_,_,k3,k4⟩:=B.ds r' q' t h1 h2 h3 h4;have hne:j≠r':=λe=>hjc (e ▸ B.tcl r' h1)
      grind
    ·let⟨_,_,_,_,_,_,_,_,_,_,_,_,_,_,p⟩:=Y.fok.op f hf;exact(B.fon f.i (D4.2 ⟨f,hf,rfl⟩)).2 (hd _ ((p j o ho (hjF f hf).symm).1 ht))
   have hvB:∀t,flD ops taken X F t->t < vB:=λt hD=>by
    rcases hD with⟨r',q',h1,h2,h3,h4⟩ | ⟨f,hf,rfl⟩
    ·exact(B.ds r' q' t h1 h2 h3 h4).2.1
    ·let⟨_,_,_,_,_,_,_,_,_,_,_,_,_,p,_⟩:=Y.fok.op f hf;exact p
   have hgo:Xm ops So o run:=hg.congr λt ht=>hX.env t (hfree t (vl ht))
   have keep:∀{l p S'},Keeps S S' o.dst l p->(taken.all λr=>qc (Yf al (zF o)) r || zgo ops S l p o.dst r)=G->∀r' q',r'∈taken->onX X r'=O->ops[r']?=E q'->QV P ops S' q':=λhk U r' q' h1 h2 h3=>by
    have:=Dx.1 U r' h1;rw[hanc r' h2,DC] at this;exact(B.qv r' q' h1 h2 h3).keep hk h3 this
   have fin:∀{S' S1 a' w'},next S' taken=E r->(∀r' q',r'∈taken->onX X r'=O->ops[r']?=E q'->QV P ops S' q')->At n st σs κ S1 a' w'->EqX (flD ops taken X F) S1 S'->zei ops j a a'->wpAny P .any ops (Zi n w0 σ0 κ K r) M (X.setIfInBounds j G) a' w':=λh' hq' hA' hX' ht=>
    hnext _ h' (B.sync ho hjc hjFm hd R hq') (zhI hlt N hn) ⟨⟨st,σs,hh,hA'⟩,hX'.weaken λt ht=>setX hjt ht,Y.fok.next ht hjF⟩
   have tk0:∀{v:Value},zei ops j a (a.put o.dst v):=λ{v} t ht=>VJ (ht o ho)
   unfold wpOp;rw[ho];simp only[hgo.wanted hA];cases run with
   |false=>
    simp only[jk,jp];rw[U8] at h;let⟨U,h⟩:=zb h;split at h
    · rename_i d hdst;let⟨hdn,h⟩:=zb h;have tk1:zei ops j a (a.put (E d) undef):=jE
      rw[hdst];refine fin h (keep (l:=[]) (p:=λ_=>O) ?_ U) (hA.skip hdn) ⟨hX.heap,λt ht=>?_⟩ tk1
      ·rw[hdst];exact .put
      · show upd So.env d _ t=upd S.env d _ t;by_cases e:t=d
        ·subst e;rw[zp,zp]
        ·rw[zq e,zq e];exact hX.env t ht
    ·rename_i hdst;rw[hdst];exact fin h (keep (l:=[]) (p:=λ_=>O) (.refl S) U) hA hX λ_ _=>rfl
   |true=>
    simp only[jq];left;rw[Dy] at h;split at h
    ·cases h
    · rename_i l p htc;let⟨U,h⟩:=zb h;rw[Vn] at h;let⟨out,hs,h⟩:=gd h;have hsx:=zAd (q:=qo) (Γ:=Γ) (P:=P) (n:=n) (o:=o) hX hvB (λt ht=>hfree t (DB _ (zb4 ht)));rw[hs] at hsx;let⟨out',hs',hrel⟩:=hsx.inv;let⟨L,b,Z,PV,hAb,hinv,hf⟩:=hA;have base:o.wp P a w (λa' w'=>∃S' S1,out = .go S'/\EqX (flD ops taken X F) S1 S'/\At n st σs κ S1 a' w') (Zi n w0 σ0 κ K r):=by
        refine zkN hΓ n κ st σs hh.gl o So L b Z PV hAb _ hs' a w hinv hf _ _ ?_ ?_
        · intro S1 e L' Z' PV' a' w' hi' hf' hA';subst e;cases out with
          |pan v T=>grind
          |go S'=>exact⟨S',S1,rfl,hrel,L',b,Z',PV',hA',hi',hf'⟩
        · intro v S1 e u Z' PV' w' hi' hA' hp;subst e;cases out with
          |go S'=>grind
          |pan v' S'=>
           obtain⟨rfl,hrel⟩:=hrel;let⟨ν,vs,ids,hA'⟩:=hA';have hi3:Inv w0 σ0 Z' PV' w':=(hh.home hi').sub_own λg k=>by
            let⟨f1,f2,s1,s2,l1,l2,dd⟩:=k.split;exact s1.mono (.refl _) l1
           refine⟨v,_,h,u,L,b,Z',PV',rfl,hp,⟨ν,vs,ids,hA'.mask (hrel.weaken λt hD=>?_)⟩,hi3,hf⟩;rcases hD with⟨r',q',h1,h2,h3,h4⟩ | ⟨f,hf,rfl⟩
           ·exact qU.2 ⟨q',UT (by rw[qW];exact h3),h4⟩
           ·let⟨q',_,_,_,p1,p2,_⟩:=Y.fok.op f hf;exact qU.2 ⟨q',UT (by rw[qW];exact p1),p2⟩
      refine qO ?_ (znm base);rintro a' w' ⟨⟨S',S1,rfl,hrel',hA'⟩,ht⟩;exact fin h (keep (zrl hs htc) U) hA' hrel' λt ht'=>ht t (ht' o ho)
  induction ord with
  |nil=>
   intro cl taken al S K r h X a w So F B hn Y;have h0:=h;let⟨U,h⟩:=zb h;have hcl:∀i,i < ops.size->i∈cl:=λi hi=>zR.1 (Dx.1 U i (D8.2 hi))
   refine⟨λhr=>?_,λj hj=>quiet [] h0 B hn Y hj (hcl j ?_)⟩
   · have hon:∀i∈taken,onX X i=true:=λi hi=>by
       cases e:onX X i with
       |true=>rfl
       |false=>
        let⟨k,q,k1,k2,k3,k4⟩:=zsR B.wf B.inc ⟨i,B.tcl i hi,e⟩;have:k∈qx .any ops X:=(YY B.size).2 ⟨k2,q,k3,k4⟩;grind
     exact⟨S,h,Y.done (noF B Y.fok hcl) λt ht=>ziG hon t ht⟩
   ·let⟨_,q,hq,_⟩:=(YY B.size).1 hj;grind
  |cons io ord ih=>
   intro cl taken al S K r h X a w So F B hn Y;let⟨i,early⟩:=io;have h0:=h;have some_ready:∀{i:Nat} {o:Oper},ops[i]?=E o->i ∉ cl->i ∉ F.map Fl.i->(∀k∈zF o,k∈cl)->qx .any ops X=[]->False:=by
    intro i o ho hi hiF hd hr;have N:onX X i=false:=by
     cases e:onX X i with
     |false=>rfl
     |true=>exact((B.sub i e).elim hi hiF).elim
    by_cases hx:∃k∈cl,onX X k=O
    ·let⟨k,q,k1,k2,k3,k4⟩:=zsR B.wf B.inc hx;have:k∈qx .any ops X:=(YY B.size).2 ⟨k2,q,k3,k4⟩;grind
    · have:i∈qx .any ops X:=(YY B.size).2 ⟨N,o,ho,λk hk=>by
        grind⟩
      grind
   have dn:∀{i k:Nat},i ∉ F.map Fl.i->onX X k=G->k∈cl\/(k∈WW C P ops n/\k≠i):=λ{i k} hiF hk=>by
    rcases B.sub k hk with z | z
    ·exact .inl z
    ·let⟨f,hf,e⟩:=D4.1 z;exact .inr ⟨e ▸ Y.fok.fl f hf,λe'=>hiF (e' ▸ z)⟩
   cases hb:qb i 4096 with
   |false=>
    rw[zdA hb] at h;cases hrd:wd ops cl ((i - 4096) / 64) && wd ops cl ((i - 4096) % 64) with
    |false=>rw[hrd,U8] at h;grind
    |true=>
    rw[hrd,Dy] at h;let⟨hchk,h⟩:=zb h;generalize (i - 4096) / 64=i1 at h hchk;generalize (i - 4096) % 64=i2 at h hchk;let⟨g1,g2⟩:=za2 h;by_cases hF1:i1∈F.map Fl.i
    ·let⟨S',So',F',al',h',hc',hR'⟩:=absorb hgl g1 hF1 B Y;grind
    by_cases hF2:i2∈F.map Fl.i
    ·let⟨S',So',F',al',h',hc',hR'⟩:=absorb hgl g2 hF2 B Y;grind
    let⟨o1,run1,ho1,hi1,hd1,_,hg1,s1⟩:=xb g1;let⟨o2,run2,ho2,hi2,hd2,_,hg2,s2⟩:=xb g2;refine⟨λhr=>(some_ready ho1 hi1 hF1 hd1 hr).elim,λj hj=>?_⟩;by_cases hjc:j∈cl
    ·grind
    · obtain ⟨hjoff,q,hq,R⟩:=(YY B.size).1 hj;have hji:(j=i1\/j=i2)\/j∈WW C P ops n:=by
        have:=Dx.1 hchk j (D8.2 (U9.1 hq).1);rw[hq] at this;simp only[UO,Dw] at this;rcases this with(z | z) | z | z | z
        ·exact .inl (.inl (ge z))
        ·exact .inl (.inr (ge z))
        ·exact .inr (zR.1 z)
        ·exact absurd (zR.1 z) hjc
        · exfalso
          have:zb5 (zF q) (rmL i1 (rmL i2 (WW C P ops n))++cl)=true:=Dx.2 λk hk=>zR.2 (by
           rcases dn hF1 (R k hk) with z | ⟨z1,z2⟩
           ·grind
           · rcases dn hF2 (R k hk) with z | ⟨z3,z4⟩
             ·grind
             ·exact DB _ (D7.2 ⟨D7.2 ⟨z1,zsS z4⟩,zsS z2⟩))
          grind
      rcases hji with(e | e) | e
      ·subst e;grind
      ·subst e;grind
      grind
   |true=>
   cases hrd:wd ops cl i with
   |false=>rw[zcY hb hrd] at h;grind
   |true=>
   rw[zdz hb hrd] at h;cases early with
   |true=>
    have hiF:i ∉ F.map Fl.i:=λhm=>zfb h hm Y.fok
    let⟨o,run,ho,hi,hd,hgt,hg,h⟩:=xb h;have N:onX X i=false:=by
     grind
    have hearly:WV ops n cl taken i o=true:=by
     unfold yJ at h;rw[Dy] at h;exact(zb h).1
    have hgl:∀t∈ww ops o,o.dst≠E t:=λt ht e=>by
     unfold WV at hearly;rw[e] at hearly;simp only[gf,Dw] at hearly;rw[zR.2 (vl ht)] at hearly;grind
    let⟨he,S',h,hv,hS,hh⟩:=zoC hg hgl h;refine ih h (B.early ho hi hiF hd he hv hS hh) hn ⟨Y.at_,⟨Y.eqx.heap.trans hh.symm,λt ht=>?_⟩,Y.fok⟩;have hne:o.dst≠E t:=λe=>ht (.inl ⟨i,o,je,N,ho,e⟩)
    rw[hS t hne];refine Y.eqx.env t λhD=>ht ?_
    rcases hD with⟨r',q',h1,h2⟩ | z
    ·exact .inl ⟨r',q',D2 _ h1,h2⟩
    ·exact .inr z
   |false=>
    by_cases hiF:i∈F.map Fl.i
    ·let⟨S',So',F',al',h',hc',hR'⟩:=absorb hgl h hiF B Y;grind
    let⟨o,run,ho,hi,hd,hgt,hg,h⟩:=xb h;have honly:zoA ops (WW C P ops n) cl i=true:=by
     unfold yJ at h;rw[U8] at h;exact(zb h).1
    refine⟨λhr=>(some_ready ho hi hiF hd hr).elim,λj hj=>?_⟩;by_cases hjc:j∈cl
    ·grind
    · obtain ⟨hjoff,q,hq,R⟩:=(YY B.size).1 hj;have hji:j=i\/j∈WW C P ops n:=by
        have:=Dx.1 honly j (D8.2 (U9.1 hq).1);rw[hq] at this;simp only[UO,Dw] at this;rcases this with z | z | z | z
        ·exact .inl (ge z)
        ·exact .inr (zR.1 z)
        ·exact absurd (zR.1 z) hjc
        · exfalso
          have:zb5 (zF q) (rmL i (WW C P ops n)++cl)=true:=Dx.2 λk hk=>zR.2 (by
           rcases dn hiF (R k hk) with z | ⟨z1,z2⟩
           ·grind
           ·exact DB _ (D7.2 ⟨z1,zsS z2⟩))
          grind
      rcases hji with e | e
      ·grind
      grind
theorem zmT(u:C.gl w0.w σ0)(B:∀s∈Γ,s.OK P){K:XE C->St C->U3 ρ}{r:ρ}(h:ZM (Y9 qo Γ P n) (tch Γ P) P n ops ord [] [] [] S K=E r)(N:P.follows .mixedOrders=G)(hA:At n w0 σ0 κ S a w):(Code.region id ops G).wp P (Zi n w0 σ0 κ K r) a w:=by
 refine wp_region_any N ?_;let⟨L,b,Z,PV,M,hi,c⟩:=hA;have h0:∀i,onX (qL ops.size O) i=false:=λi=>by
  unfold onX;rw[U7];cases e:(qL ops.size O)[i]? with
  |none=>rfl
  |some v=>grind
 refine zwO u B _ _ h (X:=qL ops.size O) (F:=[]) ⟨je,λi hi=>jE,λi hi=>(by cases hi),trivial,λi hi=>(by cases hi),λi hi=>(by cases hi),λi hi=>(by cases hi),λk q _ R=>jE,λr q H=>(by cases H),λr q d H=>(by cases H),λi m N=>(by cases N)⟩ ?_ ⟨⟨w0,σ0,⟨λk=>by simpa[frF] using k,u⟩,L,b,Z,PV,M,hi.drew,c⟩,⟨rfl,λ_ _=>rfl⟩,⟨λf c=>(by cases c),λf c=>(by cases c),λf c=>(by cases c),List.nodup_nil⟩⟩;grind
end
end
end Go.Px
