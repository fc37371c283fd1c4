/- Part A5. -/
import Derived.Test.YthnflpoohleiaaaGreatDoorA4
set_option linter.unusedSectionVars false
set_option linter.unusedVariables false
set_option linter.unusedSimpArgs false
namespace Go.Px
open _root_.Array renaming mem_toList_iff->qA,replicate->qL,getElem?_eq_getElem->qM,getElem?_toList->qW,getElem?_setIfInBounds_ne->qX
open Bool renaming true->G,false->O,or_true->qG,true_or->qK,cond_eq_ite->qV
open Go.Call renaming operands->qk
open Go.Op renaming operands->W,slice->qR
open Go.Oper renaming wp->qD,wp_mono->qO,upon_enter->qP,upon->qQ
open Go.Region renaming ready->qx,wanted->qB,binds->qN
open List renaming range->qy,mem_cons_self->qE,mem_append_right->qF,perm_middle->qJ,mem_filterMap->qU
open Nat renaming beq->V,blt->qb,testBit->qc,ble->qs,shiftLeft->qH,beq_refl->qI,testBit_or->qS,lor->qT
open _root_.Option renaming some->E,none->I,map->qC
variable{K:Act->World->Prop}{Q:Exit->Act->World->Prop}{T0 e f i id j k m off:Nat}{a:Act}{bl:Bl}{dst:Uv Nat}{es:List ESh}{hi lo:Uv Operand}{ins:Sig}{l:List Nat}{okB run:Bool}{ord:List (Nat×Bool)}{p:Nat->Bool}{q:Oper}{s:Sh}{ti:TypeInfo}{ts:Array TypeId}{w:World}{α:Type}
section
theorem D4:∀(b:Bool),(O || b)=b:=@Bool.false_or
theorem D3:∀{α:Type _}{a:α}{«as»:List α}(bs:List α),a∈«as»->a∈«as»++bs:=@List.mem_append_left
variable [Dfr]
section
variable {κ:Kp}{C:Cod}{S:St C}{ν:Val}{vs:Nat->List Value}{ids:List Nat}{L:List (Nat×Value)}{b:Nat->Value}{Z:FS}{PV:List Priv}{P:Program}
variable {n:Nat}{w0:Start}{σ0:FS}
def lent:Op->Uv (Operand×List Operand)
 | .call ⟨.value c,args,_⟩=>E (c,args.toList)
 |_=>I
def Xg(S:St C)(x:Operand):Uv (Out C):=match S.op x with
 | .ifc t A=>chk (A.base || A.flat) (E (.pan (.ifc t A) S))
 |_=>I
structure Opts where
 fs:Bool
def Yc(q:Opts)(P:Program)(S:St C)(d:Nat)(ty t:TypeId)(x:Operand)(lo hi a:Uv Operand):Uv (Out C):=match lo,a with
 |none,I=>bif q.fs then yF P S d ty t x I hi else Yb P S d t x hi
 |some lo,I=>yF P S d ty t x (E lo) hi
 |_,_=>I
def Xh{D:Nat->Type}(args:List (AV D)):List (AV D)->List (AV D)
 |[.tup ws]=>ws++args
 |caps=>args++caps
def wR(args:List Value):List Value->List Value
 |[.tuple a]=>a.toList++args
 |vs=>args++vs
theorem zob {Z:FS}{ν:Val}{p:Nat->Prop}(k:∀i,(ν.hdr i).oneCell'=G) {args b:List Value}{As caps:List (AV C.D)}(n:zdg caps=G) (o:VRs C Z ν args As) (c:VRs C Z ν b caps) (h:AV.oks p As) (g:AV.oks p caps) :
    VRs C Z ν (wR args b) (Xh As caps)/\AV.oks p (Xh As caps)/\∃j d:Array Value,zaZ f b = .func (.func f) j d/\(j++args.toArray)++d=(wR args b).toArray:=by
 have plain:(∀v∈b,v.oneCell'=G)\/b.length≠1->Xh As caps=As++caps->VRs C Z ν (wR args b) (Xh As caps)/\AV.oks p (Xh As caps)/\∃j d:Array Value,zaZ f b = .func (.func f) j d/\(j++args.toArray)++d=(wR args b).toArray:=by
  intro h1 h2;have w:wR args b=args++b:=by
   unfold wR;split
   · rename_i a;rcases h1 with h1 | h1
     ·have:=h1 (.tuple a) je;cases this
     grind
   ·rfl
  have s:zaZ f b = .func (.func f) #[] b.toArray:=by
   unfold zaZ;split
   · rename_i a;rcases h1 with h1 | h1
     ·have:=h1 (.tuple a) je;cases this
     grind
   ·rfl
  rw[w,h2];exact⟨o.append c,AV.oks_append h g, #[],b.toArray,s,je⟩
 match b,caps,c with
 |[],[],c=>exact plain (.inl λv x=>by cases x) rfl
 |[v],[A],c=>
   by_cases q:∃m,A = .tup m
   ·obtain⟨m,rfl⟩:=q;let⟨us,e,h2⟩:=c.1;subst e;exact⟨h2.append o,AV.oks_append g.1 h,us.toArray, #[],rfl,by simp[wR]⟩
   · have t:A.leaf=true:=by
       unfold zdg at n;split at n
       ·grind
       all_goals grind
     refine plain (.inl λu r=>by rw[Dr.1 r];exact c.1.one t k) ?_;unfold Xh;grind
 |u::v::l,A::B::cs,c=>exact plain (.inr je) (by cases A<;>rfl)
 |[v],A::B::cs,c=>exact c.2.elim
 |u::v::l,[A],c=>exact c.2.elim
def zei(P:Program)(t:TypeId)(a:String):Uv FuncId:=match P.info? t,P.underlying t with
 |some ti,E (.pointer _)=>(match ti.methods.find? (·.name == a) with
  |some m=>(match m.path.toList,m.func with
   |[],E (f,G)=>E f
   |_,_=>I)
  |none=>I)
 |_,_=>I
theorem zqX{t:TypeId}{a:String}{f:FuncId}(h:zei P t a=E f){v:Value}{args:Array Value}:(callMethod (.iface t v) a args).run P w=(callFunc f (#[v]++args)).run P w:=by
 unfold zei at h;split at h
 ·rename_i ti e hi d;split at h
  ·rename_i m g;split at h
   ·rename_i i hp c;cases h;have b:∃k,P.types.size+Made.depth=k+1:=⟨P.types.size+Made.depth - 1,by unfold Made.depth;omega⟩
    let⟨k,b⟩:=b;simp only[callMethod,UP,UR,UQ,b];simp[method,typeInfo,hi,g,hp,follow,c,receiverAt,UO d,Place.get,Result.andThen]
   ·cases h
  ·cases h
 ·cases h
def WQ(Γ:List (Spec C))(P:Program)(S:St C)(d:Nat)(x:Operand)(a:String)(args:Array Operand):Uv (Out C):=match S.op x with
 | .ifc t A=>(match zei P t a with
  |some f=>vA Γ S d f (A::args.toList.map S.op)
  |none=>I)
 |_=>I
def xA(q:Opts)(Γ:List (Spec C))(P:Program)(d:Nat)(ty:TypeId)(S:St C):Op->Uv (Out C)
 | .alloc t=>Xf P S d t
 | .box t x=>chk (YS (S.op x)) (bif C.bz t then zqP S d t (zt (S.op x)) else zbL S d (zt (S.op x)))
 | .makeSlice t x y=>w9 P S d t x y
 | .buildSlice t m a=>Y6 P S d t m a.toList
 | .slice t x lo hi e=>match yE P S ty (.slice t x lo hi e) with
  |some A=>E (.go (S.put d A))
  |none=>Yc q P S d ty t x lo hi e
 | .convert t t' x=>match yE P S ty (.convert t t' x) with
  |some A=>E (.go (S.put d A))
  |none=>I
 | .call ⟨.value c,args,_⟩=>match S.op c with
  | .clo f caps=>chk (zdg caps) (vA Γ S d f (Xh (args.toList.map S.op) caps))
  |_=>I
 | .call ⟨.invoke x b,args,_⟩=>WQ Γ P S d x b args
 | .call ⟨.builtin .append,args,ts⟩=>match args.toList,ts.toList with
  |[x,y],[t,t']=>chk (V t t') (Ya P S d t x y)
  |_,_=>I
 | .makeMap t I=>Xy S d t
 | .lookup t x y O=>zf8 P S d t x y
 | .panic x=>Xg S x
 |op=>(yE P S ty op).map λA =>.go (S.put d A)
def VH(q:Opts)(Γ:List (Spec C))(P:Program)(n:Nat)(o:Oper)(S:St C):Uv (Out C):=match o.dst with
 |some d=>chk (qb d n) (xA q Γ P d o.type S o.op)
 |none=>match o.op with
  | .store t x y=>yx P S t x y
  | .mapUpdate t x y z=>zbQ P S t x y z
  | .call ⟨.builtin .delete,args,ts⟩=>(match args.toList with
   |[x,y]=>wI P S ts x y
   |_=>I)
  | .panic x=>Xg S x
  |_=>I
theorem zkz (h:AbsL κ S ν vs ids L b Z PV) {x:Operand}{ty:TypeId}{ps:String}{af:Array Edge}{g:Uv (Nat×Bool)} :
    OpA κ P n w0 σ0 ⟨dst,.panic x,ty,ps,af,g⟩ (Xg S x) L b Z PV:=by
 intro out c a w hi j K Q o k;have f:=h.op x;unfold Xg at c;split at c
 · rename_i t A e;let⟨hb,c⟩:=zb c;cases c;rw[e] at f;have i:∀p:Nat->Prop,(AV.ifc t A).ok p:=λp=>by
     rcases(UH _ _).mp hb with hb | hb
     ·exact Vo (A :=.ifc t A) hb
     ·exact WP (A :=.ifc t A) hb
   let⟨u,l,m⟩:=f;have d:(execOp a.eval ⟨dst,.panic x,ty,ps,af,g⟩).run P w = .halt (.panic (.iface t u)) w:=by
    rw[j.eval];show(execOp (opv L b) ⟨dst,.panic x,ty,ps,af,g⟩).run P w=_;simp only[execOp,l];rfl
   unfold qD;rw[d];refine k _ _ rfl (.iface t u) Z PV w hi ⟨ν,vs,ids,h⟩ ⟨i _,λν' _=>VR.congr (ν:=ν) (p:=λ_=>False) (λ_ h=>h.elim) (i _) ⟨u,rfl,m⟩⟩
 ·cases c
theorem zwv (t:C.gl w0.w σ0) {Γ:List (Spec C)}(z:∀s∈Γ,s.OK P) (h:AbsL κ S ν vs ids L b Z PV) {c:Operand}{args:Array Operand}{d:Nat}(hn:qb d n=G) {ty:TypeId}{ps:String}{af:Array Edge}{g:Uv (Nat×Bool)}{f:FuncId}{caps:List (AV C.D)}(hc:S.op c = .clo f caps) :
    OpA κ P n w0 σ0 ⟨E d,.call ⟨.value c,args,ts⟩,ty,ps,af,g⟩ (chk (zdg caps) (vA Γ S d f (Xh (args.toList.map S.op) caps))) L b Z PV:=by
 intro out y a w hi N K Q X hP;let⟨j,y⟩:=zb y;have m:=h.op c;have l:=h.oks_op c;rw[hc] at m l;let⟨p,e1,e2⟩:=m;have o:AV.oks (λid=>(S.heap id).isSome=G) (args.toList.map S.op):=AV.oks_iff.2 λA hA=>by
  obtain⟨x,_,rfl⟩:=Dw.1 hA;exact h.oks_op x
 let⟨U,R,fi,ca,e3,Y⟩:=zob (f:=f) h.one j (zbe h.toAbs args.toList) e2 o l;let⟨fn,H,F,hb,i⟩:=zip t h U R hi z y;have k:(execOp a.eval ⟨E d,.call ⟨.value c,args,ts⟩,ty,ps,af,g⟩).run P w = .ok (.enter f (wR (args.toList.map (opv L b)) p).toArray) w:=by
  have u:args.map (opv L b)=(args.toList.map (opv L b)).toArray:=jE
  rw[N.eval,<- Y];simp only[execOp,resolve,e1,e3,u,Deferred.ofValue,UP,UN,UQ,invoke];unfold callFunc;simp only[UP,UR,UQ,H,F,hb,jk,jp,UN]
 unfold qD;rw[k,qP];refine Calls.mono i ?_;intro e w' M;cases e with
 |returned v=>
  obtain⟨S',T,q,rfl,r,hA⟩:=M;exact X _ rfl _ T q _ w' r (N.put (by simpa[UT] using hn) v) hA
 |panicked B=>
  grind
 |outgrown=>exact M.elim
theorem zqY (y:C.gl w0.w σ0) {Γ:List (Spec C)}(B:∀s∈Γ,s.OK P) (h:AbsL κ S ν vs ids L b Z PV) {x:Operand}{c:String}{args:Array Operand}{d:Nat}(hn:qb d n=G) {ty:TypeId}{ps:String}{af:Array Edge}{g:Uv (Nat×Bool)} :
    OpA κ P n w0 σ0 ⟨E d,.call ⟨.invoke x c,args,ts⟩,ty,ps,af,g⟩ (WQ Γ P S d x c args) L b Z PV:=by
 intro out j a w hi R K Q Y hP;unfold WQ at j;split at j
 · rename_i t A hc;split at j
   · rename_i f hm;have o:=h.op x;have m:=h.oks_op x;rw[hc] at o m;let⟨u,e1,e2⟩:=o;have p:AV.oks (λid=>(S.heap id).isSome=G) (args.toList.map S.op):=AV.oks_iff.2 λA hA=>by
       obtain⟨x,_,rfl⟩:=Dw.1 hA;exact h.oks_op x
     have X:VRs C Z ν (u::args.toList.map (opv L b)) (A::args.toList.map S.op):=⟨e2,zbe h.toAbs args.toList⟩;have T:AV.oks (λid=>(S.heap id).isSome=G) (A::args.toList.map S.op):=⟨m,p⟩;let⟨fn,H,F,hb,i⟩:=zip y h X T hi B j;have k:(execOp a.eval ⟨E d,.call ⟨.invoke x c,args,ts⟩,ty,ps,af,g⟩).run P w = .ok (.enter f (u::args.toList.map (opv L b)).toArray) w:=by
      have z:args.map (opv L b)=(args.toList.map (opv L b)).toArray:=jE
      rw[R.eval];simp only[execOp,resolve,e1,z,UP,UN,UQ,invoke];have N:(args.toList.map (opv L b)).length=args.size:=je
      generalize args.toList.map (opv L b)=l at *
      have h0:(#[Value.iface t u]++l.toArray)[0]?=E (.iface t u):=je
      have h1:(#[Value.iface t u]++l.toArray).extract 1 (#[Value.iface t u]++l.toArray).size=l.toArray:=by
       grind
      simp only[h0,h1];rw[zqX hm,(jE:#[u]++l.toArray=(u::l).toArray)];unfold callFunc;simp only[UP,UR,UQ,H,F,hb,jk,jp,UN]
     unfold qD;rw[k,qP];refine Calls.mono i ?_;intro e w' M;cases e with
     |returned v=>
      obtain⟨S',U,q,rfl,r,hA⟩:=M;exact Y _ rfl _ U q _ w' r (R.put (by simpa[UT] using hn) v) hA
     |panicked D=>
      grind
     |outgrown=>exact M.elim
   ·cases j
 ·cases j
theorem zm3 (h:AbsL κ S ν vs ids L b Z PV) {op:Op}{d:Nat}(e:qb d n=G) {ty:TypeId}{ps:String}{af:Array Edge}{g:Uv (Nat×Bool)} :
    OpA κ P n w0 σ0 ⟨E d,op,ty,ps,af,g⟩ ((yE P S ty op).map λA =>.go (S.put d A)) L b Z PV:=by
 intro out c;obtain⟨A,a,rfl⟩:=D1.1 c;exact zaj h e a (zak h a) _ rfl
theorem zww{q:Opts}{Γ:List (Spec C)}(j:∀s∈Γ,s.OK P)(n:Nat)(κ:Kp):zku P n κ (VH q Γ P n):=by
 intro w0 σ0 i o S L b Z PV hA out a;let⟨ν,vs,ids,h⟩:=hA;let⟨dst,op,ty,ps,af,g⟩:=o;cases dst with
 |none=>
  unfold VH at a;simp only at a;split at a
  ·exact zn5 h _ a
  ·exact zmz h _ a
  ·split at a
   ·rename_i args ts _ x y e;rw[za0 e];exact zmA h _ a
   ·cases a
  ·exact zkz h _ a
  ·cases a
 |some d=>
  let⟨c,a⟩:=zb a;have a:xA q Γ P d ty S op=E out:=a;unfold xA at a;split at a
  ·exact zn4 h c _ a
  ·let⟨hs,a⟩:=zb a;rw[qV] at a;split at a
   ·exact zqQ h c hs _ a
   ·exact zqF h c hs _ a
  ·exact zqI h c _ a
  ·exact zmx h c _ a
  ·split at a
   ·rename_i A k;exact zaj h c k (zak h k) _ a
   ·unfold Yc at a;split at a
    ·cases m:q.fs with
     |true=>rw[m] at a;exact ze1 h c _ a
     |false=>rw[m] at a;exact zmy h c _ a
    ·exact ze1 h c _ a
    ·cases a
  ·split at a
   ·rename_i A k;exact zaj h c k (zak h k) _ a
   ·cases a
  ·split at a
   ·rename_i f caps u;exact zwv i j h c u _ a
   ·cases a
  ·exact zqY i j h c _ a
  ·split at a
   ·rename_i args ts x y t t' v r;let⟨p,l⟩:=zb a;have:=ge p;subst this;rw[za0 v,za0 r];exact ze0 h c _ l
   ·cases a
  ·exact zkq h c _ a
  ·exact zqO h c _ a
  ·exact zkz h _ a
  ·exact zm3 h c _ a
def zu0(n:Nat):Uv Nat->Bool
 |some d=>qb d n
 |none=>G
def stp(q:Opts)(Γ:List (Spec C))(P:Program)(n:Nat)(o:Oper)(S:St C):Uv (Out C):=match xd P S o.dst o.op with
 |some k=>chk (zu0 n o.dst) (W3 P S k)
 |none=>VH q Γ P n o S
theorem zkA{q:Opts}{Γ:List (Spec C)}(f:∀s∈Γ,s.OK P)(n:Nat)(κ:Kp):zku P n κ (stp q Γ P n):=by
 intro w0 σ0 c o S L b Z PV hA out a;unfold stp at a;split at a
 ·rename_i X j;let⟨hd,i⟩:=zb a;let⟨ν,vs,ids,h⟩:=hA;let⟨dst,op,ty,ps,af,g⟩:=o;exact zx7 h (λd e=>by subst e;exact hd) j out i
 ·exact zww f n κ w0 σ0 c o S L b Z PV hA out a
end
omit [Dfr] in
theorem xv.loopO:xv (λ{s β} f x=>loopO f x):=λf x y h=>vw.1 h
theorem xv.iter(k:Nat):xv (λ{s β} f x=>yb f k x):=λf x y h=>⟨k,h⟩
end
section
variable [Dfr]
section
variable {C:Cod}{S:St C}{P:Program}{ρ:Type}{Γ:List (Spec C)}
theorem zgb{f:XE C->St C->Uv (Out C)}{K:Out C->Uv ρ}{k:XK}{g:Sig}{y:XK.ty C k g}:(Yi k g y f).bind K=Yi k g y λe Sr=>(f e Sr).bind K:=by
 cases k<;>rfl
theorem XB{f:XE C->St C->Uv (Out C)}{K:Out C->Uv ρ}:∀{outs:List (XK×Sig)}{r:zg C outs},(zT outs r f).bind K=zT outs r λe Sr=>(f e Sr).bind K
 |[],r=>r.elim
 |[o],r=>zgb
 |o::o2::l,r=>by
  cases r with
  |inl a=>exact zgb (k:=o.1) (g:=o.2) (y:=a)
  |inr y=>exact XB (outs:=o2::l) (r:=y)
def VI(s:Spec C)(d:Nat)(S:St C)(x:s.ins.ty C)(K:Out C->Uv ρ):Uv ρ:=
 chk s.ins.es.isEmpty ((s.F x).bind λr=>zT s.outs r λe Sr=>(zbj S d s.nr e Sr).bind K)
def zbY:(outs:List (XK×Sig))->zg C outs->(XE C->St C->List ESh->α)->α
 |[],y,_=>y.elim
 |[o],y,K=>Yi o.1 o.2 y λe S=>K e S o.2.es
 |o::b::r,y,K=>match(y:XK.ty C o.1 o.2⊕zg C (b::r)) with
  | .inl a=>Yi o.1 o.2 a λe S=>K e S o.2.es
  | .inr y=>zbY (b::r) y K
theorem za2{K:XE C->St C->List ESh->α}:∀{outs:List (XK×Sig)}{r:zg C outs},zbY outs r K=zT outs r λe S=>K e S (ym outs r)
 |[],r=>r.elim
 |[o],r=>rfl
 |o::o2::l,r=>by
  cases r with
  |inl a=>rfl
  |inr y=>exact za2 (outs:=o2::l) (r:=y)
theorem zgc{k:XK}{g:Sig}{y:XK.ty C k g}:Yi k g y (λ_ _=>(none:Uv α))=none:=by cases k<;>rfl
theorem zdo:∀{outs:List (XK×Sig)}{r:zg C outs},zT outs r (λ_ _=>(none:Uv α))=I
 |[],r=>r.elim
 |[o],r=>zgc (k:=o.1) (g:=o.2) (y:=r)
 |o::o2::l,r=>by
  cases r with
  |inl a=>exact zgc (k:=o.1) (g:=o.2) (y:=a)
  |inr y=>exact zdo (outs:=o2::l) (r:=y)
def zbZ(s:Spec C)(d:Nat)(S2:St C)(bl:Bl)(x:s.ins.ty C)(K:Out C->Uv ρ):Uv ρ:=
 (s.F x).bind λr=>zbY s.outs r λe Sr es=>chk (qs s.ins.es.length es.length) ((Wd S2 d s.nr bl es e Sr).bind K)
theorem ze6{s:Spec C}{d:Nat}{S2:St C}{x:s.ins.ty C}{K:Out C->Uv ρ}:zbZ s d S2 bl x K=(xy s d S2 bl x).bind K:=by
 unfold zbZ xy;rw[gh];congr 1;funext r;rw[za2,zx,XB];cases qs s.ins.es.length (ym s.outs r).length with
 |true=>rfl
 |false=>exact zdo
def zb0(s:Spec C)(d:Nat)(S:St C)(x:s.ins.ty C)(K:Out C->Uv ρ):Uv ρ:=
 (s.F x).bind λr=>zbY s.outs r λe Sr es=>chk (zuZ e) ((Wd S d s.nr [] es e Sr).bind K)
theorem ze7{s:Spec C}{d:Nat}{x:s.ins.ty C}{K:Out C->Uv ρ}:zb0 s d S x K=(yG s d S x).bind K:=by
 unfold zb0 yG;rw[gh];congr 1;funext r;rw[za2,XB];simp only[zx]
def zb1(Γ:List (Spec C))(S:St C)(d f:Nat)(As:List (AV C.D))(K:Out C->Uv ρ):Uv ρ:=match Γ with
 |[]=>I
 |s :: Γ=>bif V s.f f && (s.view || s.viewO) then We S As λa=>chk (okX As a) (wB s.ins.ts (zf9 S As a) λT=>match YL s.ins T As.length with
    |some (_,_,x)=>bif s.view then VI s d S x K else zb0 s d S x K
    |none=>I) else zb1 Γ S d f As K
theorem zmE{s:Spec C}{d:Nat}{x:s.ins.ty C}{K:Out C->Uv ρ}:VI s d S x K=(yT s d S x).bind K:=by
 simp only[VI,yT,zx,gh,XB]
theorem ze8{d:Nat}{As:List (AV C.D)}{K:Out C->Uv ρ}:∀{Γ:List (Spec C)},zb1 Γ S d f As K=(xz Γ S d f As).bind K
 |[]=>rfl
 |s::Γ=>by
  unfold zb1 xz;cases(V s.f f && (s.view || s.viewO)) with
  |false=>exact ze8
  |true=>
   simp only[Dq];rw[zbV];congr 1;funext Bs;rw[zx,zbW];congr 1;congr 1;funext T;cases YL s.ins T As.length with
   |none=>rfl
   |some q=>
    let⟨S2,bl,x⟩:=q;simp only;cases s.view with
    |true=>exact zmE
    |false=>exact ze7
def VJ(Γ0 Γ:List (Spec C))(S:St C)(d f:Nat)(As:List (AV C.D))(K:Out C->Uv ρ):Uv ρ:=match Γ with
 |[]=>zb1 Γ0 S d f As K
 |s::Γ=>bif V s.f f then(match YV s.ins S As with
  |some (S2,bl,x)=>bif s.view then VI s d S x K else bif s.viewO then zb0 s d S x K else zbZ s d S2 bl x K
  |none=>VJ Γ0 Γ S d f As K) else VJ Γ0 Γ S d f As K
theorem za3{Γ0:List (Spec C)}{d:Nat}{As:List (AV C.D)}{K:Out C->Uv ρ}:∀{Γ:List (Spec C)},VJ Γ0 Γ S d f As K=(YM Γ0 Γ S d f As).bind K
 |[]=>ze8
 |s::Γ=>by
  unfold VJ YM;cases V s.f f with
  |false=>exact za3
  |true=>
   simp only[Dq];cases YV s.ins S As with
   |none=>exact za3
   |some q=>
    let⟨S2,bl,x⟩:=q;simp only;cases s.view with
    |true=>
     simp only[Dq,VI,yT,zx,gh,XB]
    |false=>
     rw[U0,U0];cases s.viewO with
     |true=>simp only[Dq,ze7]
     |false=>simp only[U0,ze6]
def zhr(Γ:List (Spec C))(S:St C)(d f:Nat)(As:List (AV C.D))(K:Out C->Uv ρ):Uv ρ:=VJ Γ Γ S d f As K
theorem zgd{d:Nat}{As:List (AV C.D)}{K:Out C->Uv ρ}:zhr Γ S d f As K=(vA Γ S d f As).bind K:=za3
def eff:Op->Bool
 | .slice _ _ _ _ _=>G
 | .convert _ _ _=>G
 |op=> !rdE op
where
 rdE:Op->Bool
  | .alloc _=>O
  | .box _ _=>O
  | .makeSlice _ _ _=>O
  | .buildSlice _ _ _=>O
  | .call ⟨.value _,_,_⟩=>O
  | .call ⟨.invoke _ _,_,_⟩=>O
  | .call ⟨.builtin .append,_,_⟩=>O
  | .makeMap _ _=>O
  | .lookup _ _ _ _=>O
  | .panic _=>O
  |_=>G
def zan(P:Program)(S:St C)(d:Nat)(t:TypeId)(x y:Operand)(K:Out C->Uv ρ):Uv ρ:=
 match P.underlying t with
 |some (.slice e)=>(match P.info? e with
  |some ti=>(match ti.zero with
   |some a=>chk (V ti.size (C.size e) && (qb 0 (C.size e) && (V a.cells.size (C.size e) && isNone (S.heap (nid d 0)))))
       (match S.op x with
       | .row id=>(match S.heap id with
        |some (.row T s)=>chk (V T e) ((zbP S T (S.op y)).bind λts=>(zo ti.bytes s ts).bind λs'=>
            K (.go {env:=upd (S.sub id .und).env d (.row (nid d 0)),heap:=upd (S.sub id .und).heap (nid d 0) (E (.row T s'))}))
        |_=>I)
       | .nils=>(zbP S e (S.op y)).bind λts=>(zo ti.bytes ⟨[],O⟩ ts).bind λs'=>
             K (.go {env:=upd S.env d (.row (nid d 0)),heap:=upd S.heap (nid d 0) (E (.row e s'))})
       |_=>I)
   |none=>I)
  |none=>I)
 |_=>I
theorem zdp{d:Nat}{t:TypeId}{x y:Operand}{K:Out C->Uv ρ}:zan P S d t x y K=(Ya P S d t x y).bind K:=by
 unfold zan Ya;cases P.underlying t with
 |none=>rfl
 |some a=>
  cases a<;>first | rfl | skip
  rename_i e;simp only;cases P.info? e with
  |none=>rfl
  |some ti=>
   simp only;cases ti.zero with
   |none=>rfl
   |some f=>
    simp only[zx];congr 1;cases S.op x<;>first | rfl | skip
    ·rename_i id;simp only;cases S.heap id with
     |none=>rfl
     |some c=>
      cases c with
      |cell cs=>rfl
      |row T s=>simp only[zx,gh,jj]
      |obj q T b s=>rfl
      |orow T s g=>rfl
    grind
def zge{D:Nat->Type}:AV D->Bool
 | .str _=>G
 | .sl _ _ _=>G
 | .nx _ _ _ _=>G
 |_=>O
theorem ziV{q:Opts}{d:Nat}{ty t:TypeId}{x:Operand}(h:zge (S.op x)=G):Yc q P S d ty t x lo hi I=none:=by
 have h1:∀lo,yF P S d ty t x lo hi=none:=by
  intro lo;unfold yF;cases a:S.op x<;>rw[a] at h<;>first | (cases h;done) | rfl
 have h2:Yb P S d t x hi=none:=by
  unfold Yb;cases P.underlying t with
  |none=>rfl
  |some b=>
   cases b<;>first | rfl | skip
   rename_i e;simp only;cases P.info? e with
   |none=>rfl
   |some ti=>
    simp only;cases a:S.op x<;>rw[a] at h<;>first | (cases h;done) | rfl
 unfold Yc;cases lo with
 |none=>simp only;cases q.fs<;>simp[h1,h2]
 |some lo=>exact h1 _
def zi0(q:Opts) :Uv α->Bool
 |none=>q.fs
 |some _=>G
def zdq(P:Program)(S:St C)(d:Nat)(ty t:TypeId)(A:AV C.D)(x:Operand)(lo hi:Uv Operand)(K:Out C->Uv ρ):Uv ρ:=match A with
 | .row id=>zeg P (S.frz1 id) ty (.slice t x lo hi I) λA=>K (.go ((S.frz1 id).put d A))
 |_=>I
theorem zkB {q:Opts}{d:Nat}{ty t:TypeId}{x:Operand}{K:Out C->Uv ρ}(b:zi0 q lo=G) (a:zge (S.op x)=O) :
    zdq P S d ty t (S.op x) x lo hi K=(xA q Γ P d ty S (.slice t x lo hi I)).bind K:=by
 have c:yE P S ty (.slice t x lo hi I)=none:=by
  show Ys P S t (S.op x) lo hi=I;revert a;unfold Ys;cases S.op x<;>intro a<;>first | (cases a;done) | skip
  all_goals (split<;>first | rfl | simp_all)
 have e:Yc q P S d ty t x lo hi I=yF P S d ty t x lo hi:=by
  unfold Yc;cases lo with
  |none=>simp only;rw[show q.fs=G from b];rfl
  |some lo=>rfl
 unfold xA;simp only;rw[c];simp only;rw[e];unfold zdq yF;cases S.op x<;>first | rfl | skip
 simp only;rw[zbR,gh];rfl
def zdr(P:Program)(S:St C)(d:Nat)(t:TypeId)(x:Operand)(hi:Uv Operand)(K:Out C->Uv ρ):Uv ρ:=
 match P.underlying t with
 |some (.slice e)=>(match P.info? e with
  |some ti=>(match S.op x with
   | .row id=>(match S.heap id with
    |some (.row T s)=>chk (V ti.size (C.size T) && isNone (S.heap (nid d 0))) (match Zn S s.len hi with
     |some j=>(z8 s 0 j).bind λs'=>K (.go {env:=upd (S.sub id .und).env d (.row (nid d 0)),heap:=upd (S.sub id .und).heap (nid d 0) (E (.row T s'))})
     |none=>I)
    |_=>I)
   |_=>I)
  |none=>I)
 |_=>I
theorem zkC {q:Opts}{d:Nat}{ty t:TypeId}{x:Operand}{K:Out C->Uv ρ}(b:zi0 q lo=O) (a:zge (S.op x)=O) :
    zdr P S d t x hi K=(xA q Γ P d ty S (.slice t x lo hi I)).bind K:=by
 have f:yE P S ty (.slice t x lo hi I)=none:=by
  show Ys P S t (S.op x) lo hi=I;revert a;unfold Ys;cases S.op x<;>intro a<;>first | (cases a;done) | skip
  all_goals (split<;>first | rfl | simp_all)
 have h:Yc q P S d ty t x lo hi I=Yb P S d t x hi:=by
  unfold Yc;cases lo with
  |none=>simp only;rw[show q.fs=O from b];rfl
  |some lo=>cases b
 unfold xA;simp only;rw[f];simp only;rw[h];unfold zdr Yb;cases P.underlying t with
 |none=>rfl
 |some c=>
  cases c<;>first | rfl | skip
  rename_i e;simp only;cases P.info? e with
  |none=>rfl
  |some ti=>
   simp only;cases S.op x<;>first | rfl | skip
   rename_i id;simp only;cases S.heap id with
   |none=>rfl
   |some g=>
    cases g<;>first | rfl | skip
    rename_i T s;simp only[zx];cases Zn S s.len hi with
    |none=>rfl
    |some j=>simp only[gh];rfl
def VL(P:Program)(S:St C)(t:TypeId)(x y:Operand)(K:Out C->Uv ρ):Uv ρ:=match P.info? t,S.op x with
 |some ti,.pr _ _ _ _=>go ti (S.frz (AV.rows (S.op y)))
 |_,_=>(yx P S t x y).bind K
where
 go (ti:TypeInfo) (S:St C):Uv ρ:=match S.op x with
  | .pr id T i off=>(match S.heap id with
   |some (.row T' s)=>chk (V T T' && (YS (S.op y) && (V ti.size (zt (S.op y)).length && (qs (off+(zt (S.op y)).length) (C.size T') && qb 0 (zt (S.op y)).length))))
       ((za s i).bind λq=>(C.imp T' ((C.emb T' q).take off++zt (S.op y)++(C.emb T' q).drop (off+(zt (S.op y)).length))).bind λq'=>
         K (.go {S with heap:=upd S.heap id (E (.row T' (s.set i q')))}))
   |_=>I)
  |_=>I
theorem zmF{x y:Operand}{K:Out C->Uv ρ}:VL.go x y K ti S=(yx.go x y ti S).bind K:=by
 unfold VL.go yx.go;cases S.op x<;>first | rfl | skip
 rename_i id T i off;simp only;cases S.heap id with
 |none=>rfl
 |some e=>
  cases e with
  |cell cs=>rfl
  |row T' s=>simp only[zx,gh,jj]
  |obj q T b s=>rfl
  |orow T s g=>rfl
theorem zmG{t:TypeId}{x y:Operand}{K:Out C->Uv ρ}:VL P S t x y K=(yx P S t x y).bind K:=by
 unfold VL;split
 ·rename_i ti id T i off h1 h2;rw[zmF];unfold yx;rw[h1,h2]
 ·rfl
def zhs(P:Program)(S:St C)(d:Nat)(t:TypeId)(x y:Operand)(K:Out C->Uv ρ):Uv ρ:=
 match P.underlying t with
 |some (.slice e)=>(match P.info? e with
  |some ti=>(match ti.zero,S.op x with
   |some a,.int _ i=>chk (zdh x y && (V ti.size (C.size e) && (qb 0 (C.size e) && isNone (S.heap (nid d 0)))))
       ((C.imp e (a.cells.toList.map ZZ)).bind λq=>(xM ti.bytes i q).bind λs=>K (.go {env:=upd S.env d (.row (nid d 0)),heap:=upd S.heap (nid d 0) (E (.row e s))}))
   |_,_=>I)
  |none=>I)
 |_=>I
theorem zoc{d:Nat}{t:TypeId}{x y:Operand}{K:Out C->Uv ρ}:zhs P S d t x y K=(w9 P S d t x y).bind K:=by
 unfold zhs w9;cases P.underlying t with
 |none=>rfl
 |some a=>
  cases a<;>first | rfl | skip
  rename_i e;simp only;cases P.info? e with
  |none=>rfl
  |some ti=>
   simp only;cases ti.zero with
   |none=>rfl
   |some b=>
    cases S.op x<;>first | rfl | (simp only[zx,gh,jj])
def zu1(q:Opts)(Γ:List (Spec C))(P:Program)(n:Nat):yQ C:=λo S _ K=>match o.dst with
 |some d=>chk (qb d n) (match o.op with
  | .call ⟨.value c,args,_⟩=>(match S.op c with
   | .clo f caps=>chk (zdg caps) (zhr Γ S d f (Xh (args.toList.map S.op) caps) K)
   |_=>I)
  | .call ⟨.invoke x a,args,_⟩=>(match S.op x with
   | .ifc t A=>(match zei P t a with
    |some f=>zhr Γ S d f (A::args.toList.map S.op) K
    |none=>I)
   |_=>I)
  | .call ⟨.builtin .append,args,ts⟩=>(match args.toList,ts.toList with
   |[x,y],[t,t']=>chk (V t t') (zan P S d t x y K)
   |_,_=>I)
  | .makeSlice t x y=>zhs P S d t x y K
  | .slice t x lo hi I=>bif zge (S.op x) then zeg P S o.type (.slice t x lo hi I) λA=>K (.go (S.put d A)) else bif zi0 q lo then zdq P S d o.type t (S.op x) x lo hi K else zdr P S d t x hi K
  | .convert t t' x=>(match yE P S o.type (.convert t t' x) with
   |some A=>K (.go (S.put d A))
   |none=>I)
  |op=>bif eff op then(xA q Γ P d o.type S op).bind K else zeg P S o.type op λA=>K (.go (S.put d A)))
 |none=>(match o.op with
  | .store t x y=>VL P S t x y K
  |_=>(VH q Γ P n o S).bind K)
theorem zwx{q:Opts}{d:Nat}{ty:TypeId}{op:Op}(h:eff op=O):xA q Γ P d ty S op=(yE P S ty op).map λA =>.go (S.put d A):=by
 unfold xA;split<;>first | (cases h;done) | rfl
theorem zsC{q:Opts}{n:Nat}{o:Oper}{K:Out C->Uv ρ}:zu1 q Γ P n o S ρ K=(VH q Γ P n o S).bind K:=by
 let⟨dst,op,ty,ps,af,g⟩:=o;cases dst with
 |none=>cases op<;>first | rfl | exact zmG
 |some d=>
  show chk (qb d n) _=(chk (qb d n) (xA q Γ P d ty S op)).bind K;rw[zx];congr 1;simp only;split
  ·rename_i c args ts;unfold xA;simp only;cases S.op c<;>first | rfl | (simp only[zx];rw[zgd])
  ·rename_i x a args ts;unfold xA WQ;simp only;cases S.op x<;>first | rfl | skip
   rename_i t A;simp only;cases zei P t a with
   |none=>rfl
   |some f=>exact zgd
  ·rename_i args ts;unfold xA;simp only;generalize args.toList=l;generalize ts.toList=m
   match l,m with
   |[],_=>rfl
   |[_],_=>rfl
   |[x,y],[]=>rfl
   |[x,y],[_]=>rfl
   |[x,y],[t,t']=>simp only[zx,zdp]
   |[x,y],_::_::_::_=>rfl
   |_::_::_::_,_=>rfl
  ·rename_i t x y;exact zoc
  ·rename_i t x lo hi;cases b:zge (S.op x) with
   |false=>
    rw[U0];cases e:zi0 q lo with
    |false=>rw[U0];exact zkC e b
    |true=>rw[Dq];exact zkB e b
   |true=>
    rw[Dq,zbR];unfold xA;simp only;rw[ziV b];cases yE P S ty (.slice t x lo hi I)<;>rfl
  ·rename_i t t' x;unfold xA;grind
  ·cases h:eff op with
   |true=>rfl
   |false=>
    rw[U0,zbR,zwx h];cases yE P S ty op<;>rfl
def zht(P:Program)(S:St C)(d:Nat)(t:TypeId)(x y:Operand)(K:Out C->Uv ρ):Uv ρ:=match x with
 | .tmp a=>(match S.env a with
  | .nx id T i .whole=>Wk S a id T i (nid d 1) λS1=>zan P S1 d t x y K
  |_=>I)
 |_=>I
theorem zod{d:Nat}{t:TypeId}{x y:Operand}{K:Out C->Uv ρ}:zht P S d t x y K=(Wl P S d t x y).bind K:=by
 unfold zht Wl;cases x<;>first | rfl | skip
 rename_i a;simp only;cases S.env a<;>first | rfl | skip
 rename_i id T i nx;cases nx<;>first | rfl | skip
 simp only[zoG];congr 1;funext S1;exact zdp
def zoe(P:Program)(S:St C)(K:Out C->Uv ρ):KN->Uv ρ
 | .st t x y=>XD P S t x y K
 | .apn d t t' x y=>chk (V t t') (zht P S d t x y K)
 | .apo d t t' x y=>chk (V t t') (W0 P S d t x y K)
 | .bl d t i m y=>chk (V i 0 && V m 1) (XF P S d t y K)
 | .mk d t x y=>wK P S d t x y K
 | .cy d ts x y=>W1 P S d ts x y K
theorem zsD{k:KN}{K:Out C->Uv ρ}:zoe P S K k=(W3 P S k).bind K:=by
 cases k<;>simp only[zoe,W3,zx]
 ·exact zkV
 ·rw[zod]
 ·rw[zoH]
 ·rw[zk2]
 ·exact zmQ
 ·exact zoJ
def Y7(q:Opts)(Γ:List (Spec C))(P:Program)(n:Nat):yQ C:=λo S _ K=>match xd P S o.dst o.op with
 |some k=>chk (zu0 n o.dst) (zoe P S K k)
 |none=>zu1 q Γ P n o S _ K
theorem Vp{q:Opts}{n:Nat}{o:Oper}{K:Out C->Uv ρ}:Y7 q Γ P n o S ρ K=(stp q Γ P n o S).bind K:=by
 unfold Y7 stp;cases xd P S o.dst o.op with
 |some k=>simp only[zx,zsD]
 |none=>exact zsC
theorem zkD{q:Opts}{n:Nat}{o:Oper}{K:Out C->Uv ρ}:Y7 q Γ P n o S ρ K=(Y7 q Γ P n o S _ E).bind K:=by
 rw[Vp,Vp,gh];rfl
end
end
section
variable [Dfr]
section
variable {κ:Kp}{C:Cod}{S T:St C}{ν:Val}{vs:Nat->List Value}{ids:List Nat}{L:List (Nat×Value)}{b:Nat->Value}{Z:FS}{PV:List Priv}{P:Program}{ρ:Type}
variable {t t' ty:TypeId}{x y z:Operand}{d:Nat}{ps:String}{af:Array Edge}{g:Uv (Nat×Bool)}{A:AV C.D}{n:Nat}{w0:Start}{σ0:FS}{o:Oper}{D:Nat->Prop}
def zds(P:Program)(S:St C)(t:TypeId)(m:Nat)(a:List (Nat×Operand)):Uv (AV C.D):=match P.underlying t with
 |some (.slice e)=>(match P.info? e with
  |some ti=>(match ti.zero with
   |some b=>chk (V ti.size (C.size e) && (qb 0 (C.size e) && (qs (m * C.size e) 16777216 && (V a.length m && zef a 0))))
       ((Yz S e (a.map (·.2))).bind λxs=>E (.sl e ⟨xs,G⟩ O))
   |none=>I)
  |none=>I)
 |_=>I
theorem zqZ(h:AbsL κ S ν vs ids L b Z PV)(hn:qb d n=G){c:Array (Nat×Operand)}(f:zds P S t m c.toList=E A):OpA κ P n w0 σ0 ⟨E d,.buildSlice t m c,ty,ps,af,g⟩ (E (.go (S.put d A))) L b Z PV:=by
 unfold zds at f;split at f
 ·rename_i e Y;split at f
  ·rename_i ti hi;split at f
   ·rename_i zv N;let⟨M,B⟩:=zb f;simp only[gf] at M;let⟨c1,c2,c3,c4,c5⟩:=M;let⟨xs,y,u⟩:=gd B;cases u;let⟨r1,r2,R⟩:=zdi h y;have l:((c.toList.map (·.2)).map (opv L b)).length=m:=by
     have:=ge c4;simpa using this
    intro out ho a w k hf K Q X hP;cases ho;refine vK (ρ:=Unit) (p:=E ()) (H:=λp' F s i=>∃v,F=(d,v)::L/\s=Z/\i=Priv.row (zC C e).o e v ⟨xs,G⟩::PV) (T:=(zC C e).o) (vs:=(c.toList.map (·.2)).map (opv L b)) (xs:=xs) [] PV hn Y hi N (ge c1) c3 c2 (zbO c5) l (λq _=>⟨zc.none,zc.none_le _,Ty.rels_o.2 r1,by rw[Dt];exact r2,R⟩) (λv=>⟨v,rfl,rfl,rfl⟩) () rfl a w k hf K Q ?_;rintro p' F s i a' w' U r z ⟨v,rfl,rfl,rfl⟩;let⟨h1,q,D,j,x⟩:=r.freeze (m:=0) rfl;have q:zn (zC C e).o e v ⟨xs,G⟩ s h1:=q;refine X _ rfl _ _ _ _ _ x z ⟨ν,vs,ids,(h.le j).put (A :=.sl e ⟨xs,G⟩ O) (Rv.of_vrel (q.fast j λb o v e=>Xw b o v e)).vr trivial⟩
   ·cases f
  ·cases f
 ·cases f
def rdQ:Op->Bool
 | .alloc _=>O
 | .box _ _=>O
 | .makeSlice _ _ _=>O
 | .call ⟨.value _,_,_⟩=>O
 | .call ⟨.builtin .append,_,_⟩=>O
 | .panic _=>O
 |_=>G
def evQ(P:Program)(S:St C)(ty:TypeId):Op->Uv (AV C.D)
 | .buildSlice t m a=>zds P S t m a.toList
 |op=>yE P S ty op
def zsE(P:Program)(S:St C)(ty:TypeId)(op:Op)(K:AV C.D->Uv ρ):Uv ρ:=match op with
 | .buildSlice t m a=>(match P.underlying t with
  |some (.slice e)=>(match P.info? e with
   |some ti=>(match ti.zero with
    |some b=>chk (V ti.size (C.size e) && (qb 0 (C.size e) && (qs (m * C.size e) 16777216 && (V a.toList.length m && zef a.toList 0))))
        ((Yz S e (a.toList.map (·.2))).bind λxs=>K (.sl e ⟨xs,G⟩ O))
    |none=>I)
   |none=>I)
  |_=>I)
 |op=>zeg P S ty op K
theorem zwy{op:Op}{K:AV C.D->Uv ρ}:zsE P S ty op K=(evQ P S ty op).bind K:=by
 unfold zsE evQ;split
 ·unfold zds;cases P.underlying _ with
  |none=>rfl
  |some a=>
   cases a<;>first | rfl | skip
   simp only;cases P.info? _ with
   |none=>rfl
   |some ti=>
    simp only;cases ti.zero with
    |none=>rfl
    |some b=>simp only[zx,gh,jj]
 ·exact zbR
theorem zxU{q:Opts}{Γ:List (Spec C)}(h:AbsL κ S ν vs ids L b Z PV)(c:qb d n=G){op:Op}(e:rdQ op=G)(a:evQ P S ty op=E A):OpA κ P n w0 σ0 ⟨E d,op,ty,ps,af,g⟩ (E (.go (S.put d A))) L b Z PV:=by
 unfold evQ at a;split at a
 ·exact zqZ h c a
 ·have:=zm3 (P:=P) (n:=n) (w0:=w0) (σ0:=σ0) (ps:=ps) (af:=af) (g:=g) h (op:=op) c (ty:=ty);rw[a] at this;exact this
theorem zgf:∀{l:List Operand},(∀x∈l,S.op x=T.op x)->Yz S e l=Yz T e l
 |[],_=>rfl
 |x::r,h=>by
  unfold Yz;rw[h x je,zgf λy a=>h y (by simp[a])]
end
end
section
variable [Dfr]
section
variable {C:Cod}{S T:St C}{P:Program}
def AV.hid{D:Nat->Type}:AV D->List Nat
 | .row id=>[id]
 | .pc id _=>[id]
 | .pr id _ _ _=>[id]
 | .nx id _ _ _=>[id]
 |_=>[]
def zft(S:St C):Op->List Nat
 | .load _ x=>(S.op x).hid
 | .indexAddr _ x _=>(S.op x).hid
 | .binOp _ _ x _ _=>match S.op x with
  | .row id=>[id]
  | .nx id _ _ _=>[id]
  |_=>[]
 | .call ⟨.builtin .len,args,_⟩=>match args.toList with
  |[x]=>(S.op x).hid
  |_=>[]
 | .slice _ x _ _ _=>match S.op x with
  | .nx id _ _ _=>[id]
  |_=>[]
 |_=>[]
theorem Wf{U:Nat}{i:Int}{K:(U:Nat)->Sl (C.D U)->Uv α}(h:S.heap id=T.heap id):zM S id U i K=zM T id U i K:=by
 unfold zM;rw[h]
theorem zq0{t:TypeId}{A:AV C.D}(h:∀id∈A.hid,S.heap id=T.heap id):x8 P S t A=x8 P T t A:=by
 cases A<;>first | rfl | (simp only[x8];rw[h _ (by simp[AV.hid])]) | skip
 rename_i id U i x;cases x<;>first | rfl | (simp only[x8];rw[Wf (h _ (by simp[AV.hid]))])
theorem zof{t:TypeId}{A B:AV C.D}(h:∀id∈A.hid,S.heap id=T.heap id):XR P S t A B=XR P T t A B:=by
 unfold XR;split
 ·split
  ·cases A<;>first | rfl | (cases B<;>first | rfl | (simp only;rw[h _ (by simp[AV.hid])])) | skip
   rename_i id U i x;cases x<;>cases B<;>first | rfl | (simp only;rw[Wf (h _ (by simp[AV.hid]))])
  ·rfl
 ·rfl
 ·rfl
theorem zsF{t:TypeId}{A:AV C.D}(h:∀id∈A.hid,S.heap id=T.heap id):w8 P S t A=w8 P T t A:=by
 unfold w8;cases P.underlying t with
 |none=>rfl
 |some a=>
  cases A<;>first | rfl | (cases a<;>first | rfl | (simp only;rw[h _ (by simp[AV.hid])])) | skip
  rename_i id U i x;cases x<;>cases a<;>first | rfl | (simp only;rw[Wf (h _ (by simp[AV.hid]))])
theorem zb2{dflt:Int}{o:Uv Operand}(h:∀x,o=E x->S.op x=T.op x):Zn S dflt o=Zn T dflt o:=by
 cases o with
 |none=>rfl
 |some x=>simp only[Zn];rw[h x rfl]
theorem zog{t:TypeId}{A:AV C.D}(h1:∀x,lo=E x->S.op x=T.op x)(h2:∀x,hi=E x->S.op x=T.op x)(b:∀id U i x,A = .nx id U i x->S.heap id=T.heap id):Ys P S t A lo hi=Ys P T t A lo hi:=by
 unfold Ys;have a:=λdflt=>zb2 (S:=S) (T:=T) (dflt:=dflt) h1
 have c:=λdflt=>zb2 (S:=S) (T:=T) (dflt:=dflt) h2
 simp only[a,c];split
 ·rfl
 ·rfl
 ·split
  ·exact Wf (b _ _ _ _ rfl)
  ·rfl
 ·rfl
theorem zq1{l:List Operand}(h:∀x∈l,S.op x=T.op x):l.map S.op=l.map T.op:=Ds h
theorem zoh{t:TypeId}{a:List (Nat×Operand)}(h:∀q∈a,S.op q.2=T.op q.2):WL P S t a=WL P T t a:=by
 unfold WL;have:a.map (λq=>(q.1,S.op q.2))=a.map λq=>(q.1,T.op q.2):=Ds λq b=>by rw[h q b]
 rw[this]
theorem zm4{ty:TypeId}{op:Op}(b:∀x∈op.operands.toList,S.op x=T.op x)(d:∀id∈zft S op,S.heap id=T.heap id):yE P S ty op=yE P T ty op:=by
 unfold yE;cases op
 case move x=>simp only;rw[b x (by simp[W])]
 case assign x=>simp only;rw[b x (by simp[W])]
 case pick c a e=>simp only;rw[b c (by simp[W]),b a (by simp[W]),b e (by simp[W])]
 case nilCheck x=>simp only;rw[b x (by simp[W])]
 case binOp bo t x y t'=>
  simp only;unfold x9;rw[<- b x (by simp[W]),<- b y (by simp[W])];cases Ye y with
  |true=>rfl
  |false=>
  simp only[U0];unfold wq;simp only[zft] at d;split
  ·grind
  ·rename_i id U i e;rw[e] at d;split
   ·exact Wf (d id je)
   ·rfl
  ·rfl
 case unOp u t x=>cases u<;>first | rfl | (simp only;rw[b x (by simp[W])])
 case convert t t' x=>simp only;rw[b x (by simp[W])]
 case makeFunc f fs caps=>
  cases f<;>first | rfl | skip
  simp only;have h:=zq1 (l:=fs.toList) λx g=>b x (by simp[W];grind)
  unfold zbf;generalize fs.toList=fl at h;rw[zq1 (l:=caps.toList) λx g=>b x (by simp[W];grind)];grind
 case makeInterface t x=>simp only;rw[b x (by simp[W])]
 case extract x i=>simp only;rw[b x (by simp[W])]
 case typeAssert x xt t ok=>simp only;rw[b x (by simp[W])]
 case build t parts=>exact zoh λq o=>b q.2 (by simp[W];grind)
 case field t x m=>simp only;rw[b x (by simp[W])]
 case fieldAddr t x m=>simp only;rw[b x (by simp[W])]
 case indexAddr t x y=>
  simp only;rw[<- b x (by simp[W]),<- b y (by simp[W])];exact zof d
 case load t x=>
  simp only;rw[<- b x (by simp[W])];exact zq0 d
 case index t x y=>simp only;rw[b x (by simp[W]),b y (by simp[W])]
 case slice t x lo hi mx=>
  cases mx with
  |some m=>rfl
  |none=>
   simp only;rw[<- b x (by simp[W])];simp only[zft] at d;exact zog (λy e=>b y (by subst e;simp[W])) (λy e=>b y (by subst e;simp[W])) λid U i x e=>by
    grind
 case call c=>
  let⟨j,args,ts⟩:=c;cases j
  case value c=>rfl
  case invoke r m=>rfl
  case builtin bi=>
   have n:∀x∈args.toList,S.op x=T.op x:=λx g=>b x (by simp[W,qk];simpa using g)
   cases bi<;>first | rfl | skip
   case len=>
    simp only;split
    ·rename_i x t k p;rw[k] at n;rw[<- n x je];refine zsF λid hid=>d id ?_
     simp only[zft,k];exact hid
    ·rfl
   all_goals grind
 all_goals rfl
structure EqX(D:Nat->Prop)(S T:St C):Prop where
 heap:S.heap=T.heap
 env:∀t,¬ D t->S.env t=T.env t
variable {D:Nat->Prop}
def zS(D:Nat->Prop):Uv (Out C)->Uv (Out C)->Prop
 |some (.go S),E (.go T)=>EqX D S T
 |some (.pan u S),E (.pan v T)=>u=v/\EqX D S T
 |none,I=>True
 |_,_=>False
omit [Dfr] in
theorem zS.go{S' T':St C}(h:EqX D S' T'):zS D (E (.go S')) (E (.go T')):=h
omit [Dfr] in
theorem zS.none:zS (C:=C) D I none:=trivial
omit [Dfr] in
theorem zS.chk{c:Bool}{x y:Uv (Out C)}(h:zS D x y):zS D (chk c x) (chk c y):=by
 cases c with
 |true=>exact h
 |false=>trivial
omit [Dfr] in
theorem zS.bind{x:Uv α}{f g:α->Uv (Out C)}(h:∀a,zS D (f a) (g a)):zS D (x.bind f) (x.bind g):=by
 cases x with
 |none=>trivial
 |some a=>exact h a
omit [Dfr] in
theorem EqX.refl(S:St C):EqX D S S:=⟨rfl,λ_ _=>rfl⟩
omit [Dfr] in
theorem EqX.put(h:EqX D S T)(d:Nat)(A:AV C.D){hp:Nat->Uv (Ent C)}:EqX D {env:=upd S.env d A,heap:=hp} {env:=upd T.env d A,heap:=hp}:=⟨rfl,λt a=>by
 show upd S.env d A t=upd T.env d A t;unfold upd;cases V t d with
 |true=>rfl
 |false=>exact h.env t a⟩
omit [Dfr] in
theorem EqX.sub(h:EqX D S T)(id:Nat)(R:AV C.D):EqX D (S.sub id R) (T.sub id R):=by
 refine⟨?_,λt a=>?_⟩
 ·unfold St.sub;simp only;rw[h.heap]
 ·show AV.sub id R (S.env t)=AV.sub id R (T.env t);rw[h.env t a]
omit [Dfr] in
theorem EqX.frz1(h:EqX D S T)(id:Nat):EqX D (S.frz1 id) (T.frz1 id):=by
 unfold St.frz1;rw[h.heap];split
 ·exact h.sub _ _
 ·rename_i T0 s g _;cases g.rd with
  |true=>exact h.sub _ _
  |false=>exact h
 ·exact h
omit [Dfr] in
theorem EqX.frz:∀(l:List Nat) {S T:St C},EqX D S T->EqX D (S.frz l) (T.frz l)
 |[],_,_,h=>h
 |id::r,_,_,h=>EqX.frz r (h.frz1 id)
omit [Dfr] in
theorem EqX.op(h:EqX D S T){x:Operand}(a:∀t,x = .tmp t->¬ D t):S.op x=T.op x:=by
 cases x with
 |tmp t=>exact h.env t (a t rfl)
 |const v=>rfl
 |global g=>rfl
 |func f=>rfl
def vC(D:Nat->Prop)(l:List Operand):Prop:=∀t,Operand.tmp t∈l->¬ D t
omit [Dfr] in
theorem EqX.ops(h:EqX D S T){l:List Operand}(b:vC D l):∀x∈l,S.op x=T.op x:=λx a=>h.op λt e=>b t (e ▸ a)
theorem zm5(h:EqX D S T){d:Nat}{cs:List (AV C.D)}:zS D (zbL S d cs) (zbL T d cs):=by
 unfold zbL;rw[h.heap];exact .chk (h.put d _)
theorem zq2(h:EqX D S T){d:Nat}{t:TypeId}:zS D (Xf P S d t) (Xf P T d t):=by
 unfold Xf;split
 ·split
  ·split
   ·unfold zqG;rw[h.heap];exact .chk (h.put d _)
   ·exact zm5 h
  ·trivial
 ·trivial
theorem zsG(h:EqX D S T){d:Nat}{t:TypeId}{x y:Operand}(a:S.op x=T.op x):zS D (w9 P S d t x y) (w9 P T d t x y):=by
 unfold w9;rw[a,h.heap];split
 ·split
  ·split
   ·exact .chk (.bind λq =>.bind λs=>h.put d _)
   ·trivial
  ·trivial
 ·trivial
theorem ziq:∀{l:List Operand},(∀x∈l,S.op x=T.op x)->Yz S e l=Yz T e l
 |[],_=>rfl
 |x::r,h=>by
  unfold Yz;rw[h x je,ziq λy a=>h y (Du _ a)]
theorem zoi(h:EqX D S T){d:Nat}{t:TypeId}{a:List (Nat×Operand)}(hp:vC D (a.map (·.2))):zS D (Y6 P S d t m a) (Y6 P T d t m a):=by
 unfold Y6;have e:a.map (λq=>S.op q.2)=a.map λq=>T.op q.2:=Ds λq c=>h.ops hp _ (Dw.2 ⟨q,c,rfl⟩)
 rw[e];have b:=EqX.frz (AV.rowss (a.map λq=>T.op q.2)) h;generalize S.frz _=S' at b |-
 generalize T.frz _=T' at b |-
 unfold Y6.go;have f:=λe=>ziq (e:=e) (b.ops hp)
 simp only[b.heap,f];split
 ·split
  ·split
   ·exact .chk (.bind λxs=>b.put d _)
   ·trivial
  ·trivial
 ·trivial
theorem EqX.heap'(h:EqX D S T){hp:Nat->Uv (Ent C)}:EqX D {S with heap:=hp} {T with heap:=hp}:=⟨rfl,h.env⟩
theorem zq3(h:EqX D S T){t:TypeId}{x y:Operand}(d:∀t,x = .tmp t->¬ D t)(e:∀t,y = .tmp t->¬ D t):zS D (yx P S t x y) (yx P T t x y):=by
 unfold yx;have g:=h.op d;have f:=h.op e;rw[g,f,h.heap];split
 ·split
  ·exact .chk h.heap'
  ·trivial
 ·rename_i ti _ _ _ _ _ _;have c:=EqX.frz (AV.rows (T.op y)) h;have b:=c.op d;have a:=c.op e;generalize S.frz _=S' at c b a |-
  generalize T.frz _=T' at c b a |-
  unfold yx.go;rw[b,a,c.heap];split
  ·split
   ·exact .chk (.bind λq =>.bind λq'=>c.heap')
   ·trivial
  ·trivial
 ·trivial
theorem zwz(h:S.heap=T.heap){A:AV C.D}:zbP S e A=zbP T e A:=by
 unfold zbP;rw[h]
theorem EqX.subRow(h:EqX D S T)(d id T':Nat)(s':Sl (C.D T')):EqX D {env:=upd (S.sub id .und).env d (.row (nid d 0)),heap:=upd (S.sub id .und).heap (nid d 0) (E (.row T' s'))} {env:=upd (T.sub id .und).env d (.row (nid d 0)),heap:=upd (T.sub id .und).heap (nid d 0) (E (.row T' s'))}:=by
 have:=h.sub id .und;exact⟨by show upd _ _ _=upd _ _ _;rw[this.heap],(this.put d _ (hp:=T.heap)).env⟩
theorem zgg(h:EqX D S T){d:Nat}{t:TypeId}{x y:Operand}(a:S.op x=T.op x)(b:S.op y=T.op y):zS D (Ya P S d t x y) (Ya P T d t x y):=by
 unfold Ya;have e:=λe A=>zwz (e:=e) (A:=A) h.heap
 simp only[a,b,h.heap,e];split
 ·split
  ·split
   ·refine .chk ?_;split
    ·split
     ·exact .chk (.bind λts =>.bind λs'=>EqX.subRow h _ _ _ _)
     ·trivial
    ·exact .bind λts =>.bind λs'=>h.put d _
    ·trivial
   ·trivial
  ·trivial
 ·trivial
theorem zoj(h:EqX D S T){d:Nat}{t:TypeId}{x:Operand}(a:S.op x=T.op x)(h1:∀y,hi=E y->S.op y=T.op y):zS D (Yb P S d t x hi) (Yb P T d t x hi):=by
 unfold Yb;have b:=λdflt=>zb2 (S:=S) (T:=T) (dflt:=dflt) h1
 have hs:=λid T' s'=>EqX.subRow h d id T' s'
 rw[a];simp only[h.heap,b];split
 ·split
  ·split
   ·split
    ·refine .chk ?_;split
     ·exact .bind λs'=>hs _ _ _
     ·trivial
    ·trivial
   ·trivial
  ·trivial
 ·trivial
end
end
section
variable [Dfr]
section
variable {C:Cod}{S T:St C}{P:Program}{D:Nat->Prop}
omit [Dfr] in
theorem EqX.owk(h:EqX D S T)(id:Nat)(e:Ent C):EqX D (S.owk id e) (T.owk id e):=by
 refine⟨?_,λt a=>?_⟩
 ·unfold St.owk;simp only;rw[h.heap]
 ·show AV.knx _ (S.env t)=AV.knx _ (T.env t);rw[h.env t a]
theorem EqX.newE(h:EqX D S T)(d i:Nat)(A:AV C.D)(e:Uv (Ent C)):EqX D {env:=upd S.env d A,heap:=upd S.heap i e} {env:=upd T.env d A,heap:=upd T.heap i e}:=by
 rw[h.heap];exact h.put d A
theorem zm6(h:EqX D S T){s:Sl (C.D T0)}{g:Own}{i:Int}{cells:List (AV C.D)}:zS D (wC S id T0 s g i off cells E) (wC T id T0 s g i off cells E):=by
 unfold wC;simp only[vl];split
 ·rw[h.heap];split
  ·exact .chk (.bind λq =>.bind λg' =>.bind λq'=>(h.sub _ _).owk _ _)
  ·trivial
 ·refine .bind λq=>?_
  split
  ·exact .bind λg' =>.bind λq'=>h.owk _ _
  ·trivial
 ·trivial
theorem zwA{y:Operand}{N:Nat}(a:S.op y=T.op y):VP S ti y off N=VP T ti y off N:=by unfold VP;rw[a]
theorem zok(h:EqX D S T){t:TypeId}{x y:Operand}(b:S.op x=T.op x)(a:S.op y=T.op y):zS D (xR P S t x y) (xR P T t x y):=by
 have c:=λti off N=>zwA (S:=S) (T:=T) (ti:=ti) (y:=y) (off:=off) (N:=N) a
 unfold xR XD;rw[b,a,h.heap];simp only[c];split
 ·split
  ·refine .chk ?_;cases Xb _ _ _ with
   |true=>exact zm6 h
   |false=>exact .bind λq =>.bind λq'=>⟨rfl,h.env⟩
  ·exact .chk (zm6 h)
  ·trivial
 ·split
  ·refine .chk (.bind λq=>?_);split
   ·exact .chk (.bind λd =>.bind λe =>.bind λq'=>⟨rfl,h.env⟩)
   ·trivial
  ·trivial
 ·trivial
theorem zsH(h:EqX D S T){d:Nat}{x y:Operand}(a:S.op x=T.op x)(b:S.op y=T.op y):zS D (Wo P S d ts x y) (Wo P T d ts x y):=by
 unfold Wo W1;rw[a,b,h.heap];split
 ·split
  ·split
   ·split
    ·refine .chk (.bind λq =>.bind λc=>?_);split
     ·exact .chk (.bind λxs =>.bind λq'=>⟨rfl,(h.put d _ (hp:=λ_=>I)).env⟩)
     ·trivial
    ·trivial
   ·trivial
  ·trivial
 ·trivial
theorem zwB(h:EqX D S T){a:Nat}{i:Int}{gid:Nat}{K K':St C->Uv (Out C)}(c:∀S1 b,EqX D S1 b->(∀z,(∀t,z = .tmp t->t=a\/¬ D t)->S1.op z=b.op z)->zS D (K S1) (K' b)):zS D (Wk S a id T0 i gid K) (Wk T a id T0 i gid K'):=by
 unfold Wk;rw[h.heap];split
 ·refine .chk (.bind λq=>?_);split
  ·refine c _ _ (h.put a _) λz d=>?_
   cases z with
   |tmp t=>
    show upd S.env a _ t=upd T.env a _ t;unfold upd;cases e:V t a with
    |true=>rfl
    |false=>
     simp only[U0];rcases d t rfl with z | z
     ·subst z;simp at e
     ·exact h.env t z
   |const v=>rfl
   |global g=>rfl
   |func f=>rfl
  ·trivial
 ·trivial
theorem zsI(h:EqX D S T){d:Nat}{t:TypeId}{x y:Operand}(c:∀t,x = .tmp t->¬ D t)(i:∀t,y = .tmp t->¬ D t):zS D (Wl P S d t x y) (Wl P T d t x y):=by
 unfold Wl;cases x with
 |tmp a=>
  simp only;rw[h.env a (c a rfl)];split
  ·exact zwB h λS1 j h1 b=>zgg h1 (b _ λt e =>.inr (c t e)) (b _ λt e =>.inr (i t e))
  ·trivial
 |const v=>trivial
 |global g=>trivial
 |func f=>trivial
theorem zsJ(h:EqX D S T){d:Nat}{t:TypeId}{x y:Operand}(f:S.op x=T.op x)(c:S.op y=T.op y):zS D (Wn P S d t x y) (Wn P T d t x y):=by
 have hs:=λid a (e:Uv (Ent C))=>((h.sub id .und).sub a .und).newE d (nid d 0) (.row (nid d 0)) e
 have b:=λa (e:Uv (Ent C))=>(h.sub a .und).newE d (nid d 0) (.row (nid d 0)) e
 unfold Wn W0;rw[f,c];rw[show isNone (S.heap (nid d 0))=isNone (T.heap (nid d 0)) by rw[h.heap]];split
 ·split
  ·split
   ·refine .chk ?_;split
    ·rw[h.heap];split
     ·split
      ·split
       ·exact .chk (.bind λts =>.bind λs'=>hs _ _ _)
       ·trivial
      ·exact .bind λts =>.bind λs'=>b _ _
      ·trivial
     ·trivial
    ·trivial
   ·trivial
  ·trivial
 ·trivial
theorem zol(h:EqX D S T){d:Nat}{t:TypeId}{y:Operand}(c:S.op y=T.op y):zS D (xT P S d t y) (xT P T d t y):=by
 have b:=λa (e:Uv (Ent C))=>(h.sub a .und).newE d (nid d 0) (.row (nid d 0)) e
 unfold xT XF;rw[c];rw[show isNone (S.heap (nid d 0))=isNone (T.heap (nid d 0)) by rw[h.heap]];split
 ·split
  ·split
   ·refine .chk ?_;split
    ·rw[show∀i,S.heap i=T.heap i from λi=>by rw[h.heap]];split
     ·exact .bind λq=>b _ _
     ·trivial
    ·trivial
   ·trivial
  ·trivial
 ·trivial
theorem zq4(h:EqX D S T){d:Nat}{t:TypeId}{x y:Operand}(a:S.op x=T.op x):zS D (XW P S d t x y) (XW P T d t x y):=by
 unfold XW wK;rw[a,h.heap];split
 ·split
  ·split
   ·refine .chk ?_;split
    ·refine .bind λq=>?_
     split
     ·exact .chk (.bind λs=>h.put d _)
     ·trivial
    ·trivial
   ·trivial
  ·trivial
 ·trivial
theorem zwC(h:S.heap=T.heap){x y:Operand}(a:S.op x=T.op x)(b:S.op y=T.op y):zfD S x y=zfD T x y:=by unfold zfD;rw[h,a,b]
theorem zwD{x:Operand}(a:S.op x=T.op x):zfC S x=zfC T x:=by unfold zfC;rw[a]
theorem zxV(h:S.heap=T.heap){x:Operand}(a:S.op x=T.op x):isO S x=isO T x:=by unfold isO;rw[h,a]
theorem zwE(h:EqX D S T){op:Op}(l:vC D op.operands.toList):xd P S dst op=xd P T dst op/\∀k,xd P T dst op=E k->zS D (W3 P S k) (W3 P T k):=by
 have b:=h.ops l;unfold xd;split
 ·rename_i t x y;have j:=b x (by simp[W]);have f:=b y (by simp[W]);rw[zwC h.heap j f];refine⟨rfl,λk a=>?_⟩;cases c:zfD T x y with
  |false=>grind
  |true=>rw[c] at a;cases a;exact zok h j f
 ·rename_i d args ts;split
  ·rename_i x y t t' g r;have q:x∈(W (.call ⟨.builtin .append,args,ts⟩)).toList:=by simp[W,qk];rw[<- qA,g];simp
   have p:y∈(W (.call ⟨.builtin .append,args,ts⟩)).toList:=by simp[W,qk];rw[<- qA,g];simp
   have j:=b x q;have f:=b y p;rw[zwD j,zxV h.heap f];refine⟨rfl,λk a=>?_⟩;cases c:zfC T x with
   |true=>
    rw[c] at a;cases a;exact .chk (zsI h (λt e=>l t (e ▸ q)) (λt e=>l t (e ▸ p)))
   |false=>
    rw[c,U0] at a;cases o:isO T y with
    |true=>rw[o] at a;cases a;exact .chk (zsJ h j f)
    |false=>grind
  grind
 ·rename_i d t m n;split
  ·rename_i i y g;have f:=b y (by simp[W];exact⟨i,by rw[<- qA,g];simp⟩);rw[f];refine⟨rfl,λk a=>?_⟩;cases c:(C.own (YO P t) && zdJ (zt (T.op y)) (C.nst (YO P t))) with
   |true=>rw[c] at a;cases a;exact .chk (zol h f)
   |false=>grind
  grind
 ·rename_i d t x y;refine⟨rfl,λk a=>?_⟩;cases c:C.own (YO P t) with
  |true=>rw[c] at a;cases a;exact zq4 h (b x (by simp[W]))
  |false=>rw[c] at a;cases a
 ·rename_i d args ts;refine⟨rfl,λk a=>?_⟩;split at a
  ·rename_i x y g;cases a;exact zsH h (b x (by simp[W,qk];rw[<- qA,g];simp)) (b y (by simp[W,qk];rw[<- qA,g];simp))
  grind
 grind
end
end
section
variable [Dfr]
section
variable {C:Cod}{S T:St C}{P:Program}{D:Nat->Prop}
def vD(D:Nat->Prop)(ts:List (Nat×Sh)):Prop:=∀q∈ts,¬ D q.1
theorem zu2(h:EqX D S T):∀{ts:List (Nat×Sh)},vD D ts->fzT S ts=fzT T ts
 |[],_=>rfl
 |(t,s)::ts,hf=>by
  unfold fzT;rw[h.env t (hf (t,s) je),zu2 h λq a=>hf q (Du _ a)]
theorem zwF{t:Nat}{p:Nat}(h:EqX D S T)(a:¬ D t):EqX D (nilA1 es t s p S) (nilA1 es t s p T):=by
 unfold nilA1;rw[h.env t a,h.heap];split
 ·split
  ·cases isNone (T.heap _) with
   |true=>exact h.put t _
   |false=>exact h
  ·exact h
 ·exact h
theorem zq5{t:Nat}(a:¬ D t):∀(l:List Sh) (p:Nat) {S T:St C},EqX D S T->EqX D (nilA es t l p S) (nilA es t l p T)
 |[],_,S,T,h=>h
 |s::l,p,S,T,h=>zq5 a l _ (zwF h a)
theorem zbk:∀(ts:List (Nat×Sh)) {S T:St C},EqX D S T->vD D ts->EqX D (nilT es ts S) (nilT es ts T)
 |[],S,T,h,_=>h
 |(t,s)::ts,S,T,h,hf=>by
  unfold nilT;rw[h.env t (hf (t,s) je),h.heap];have a:vD D ts:=λq b=>hf q (Du _ b)
  split
  ·split
   ·cases isNone (T.heap _) with
    |true=>exact zbk ts (h.put t _) a
    |false=>exact zbk ts h a
   ·exact zbk ts h a
  ·exact zbk ts (zq5 (hf _ (qE ..)) _ 0 h) a
  ·exact zbk ts h a
theorem zfu(h:S.heap=T.heap) :vE S bl=vE T bl:=by
 funext k;unfold vE;rw[h]
theorem zm7(h:EqX D S T):∀{ts:List (Nat×Sh)}{bl:Bl},vD D ts->zgs S ts bl=zgs T ts bl
 |[],bl,_=>rfl
 |(t,s)::ts,bl,hf=>by
  unfold zgs;rw[h.env t (hf (t,s) je),zm7 h λq a=>hf q (Du _ a)]
theorem zm8(h:S.heap=T.heap):∀{es:List ESh}{k:Nat}{bl:Bl},zgt S es k bl=zgt T es k bl
 |[],k,bl=>rfl
 |e::es,k,bl=>by
  unfold zgt;rw[zfu h,zm8 h]
theorem zao(h:EqX D S T){g:Sig}(a:vD D g.ts):Zz g m S=Zz g m T:=by
 unfold Zz;rw[zm7 h a,zm8 h.heap]
theorem zu3(h:S.heap=T.heap) :∀{es:List ESh}{k:Nat},fzE S bl es k=fzE T bl es k
 |[],k=>rfl
 |e::es,k=>by
  unfold fzE;rw[zfu h,zu3 h]
theorem zxW(h:EqX D S T){p:Nat}:EqX D (nil1 es id s p S) (nil1 es id s p T):=by
 unfold nil1;rw[h.heap];split
 ·split
  ·cases isNone (T.heap _) with
   |true=>exact h.heap'
   |false=>exact h
  ·exact h
 ·exact h
theorem zq6:∀(l:List Sh) (p:Nat) {S T:St C},EqX D S T->EqX D (nilC es id l p S) (nilC es id l p T)
 |[],p,S,T,h=>h
 |s::l,p,S,T,h=>zq6 l _ (zxW h)
theorem zq7{all:List ESh}:∀(es:List ESh) (k:Nat) {S T:St C},EqX D S T->EqX D (nilE all bl es k S) (nilE all bl es k T)
 |[],k,S,T,h=>h
 |e::es,k,S,T,h=>by
  refine zq7 es _ ?_;unfold zgv;split
  ·exact zq6 _ 0 h
  ·exact h
theorem zq8(h:EqX D S T){g:Sig}(a:vD D g.ts):EqX D (g.prep m S) (g.prep m T):=by
 unfold Sig.prep;rw[zu2 h a];have b:=zbk (es:=g.es) g.ts (EqX.frz (fzT T g.ts) h) a;generalize nilT g.es g.ts (S.frz _)=S' at b |-
 generalize nilT g.es g.ts (T.frz _)=T' at b |-
 simp only;rw[zao b a];have h2:=zq7 (all:=g.es) (bl:=Zz g m T') g.es 0 b;generalize nilE g.es _ g.es 0 S'=S2 at h2 |-
 generalize nilE g.es _ g.es 0 T'=T2 at h2 |-
 rw[zao h2 a,zu3 h2.heap];exact EqX.frz _ h2
theorem zq9(h:S.heap=T.heap) :∀{es:List ESh}{k:Nat},zfA S m es k=zfA T m es k
 |[],_=>rfl
 |e::es,k=>by unfold zfA;rw[h,zq9 h]
theorem zkE(h:EqX D S T){g:Sig}(a:vD D g.ts):YX g m S bl=YX g m T bl:=by
 unfold YX;rw[zq9 h.heap,zfu h.heap,show g.ts.map (λt=>S.env t.1)=g.ts.map λt=>T.env t.1 from Ds λq b=>h.env _ (a q b)]
theorem zra(h:EqX D S T)(As:List (AV C.D)):EqX D (virt S As) (virt T As):=⟨h.heap,λt a=>by
 show(bif qb t vB then S.env t else _)=(bif qb t vB then T.env t else _)
 rw[h.env t a]⟩
theorem zkF(h:EqX D S T):EqX D (unvirt S) (unvirt T):=⟨h.heap,λt a=>by
 show(bif qb t vB then S.env t else _)=(bif qb t vB then T.env t else _)
 rw[h.env t a]⟩
theorem zm9(h:EqX D S T):EqX (λt=>D (vB+t)) (xc S) (xc T):=⟨h.heap,λt a=>h.env _ a⟩
theorem zgh(b:∀t,D t->t < vB){g:Sig}:vD D g.shift.ts:=λq a=>by
 obtain⟨p,hp,rfl⟩:=Dw.1 a;grind
def zi1(D:Nat->Prop) :Uv (St C×Bl×ins.ty C)->Uv (St C×Bl×ins.ty C)->Prop
 |some (S,bl,x),E (T,a,b)=>EqX D S T/\bl=a/\x=b
 |none,I=>True
 |_,_=>False
theorem zrb(a:EqX D S T)(d:∀t,D t->t < vB){N:Nat}:zi1 D (YL ins S N) (YL ins T N):=by
 unfold YL;have b:=zgh d (g:=ins);have hp:=zq8 a (g:=ins.shift) (m:=0) b;have hb:=zao hp (g:=ins.shift) (m:=0) b;have c:∀bl,YX ins 0 (xc (ins.shift.prep 0 S)) bl=YX ins 0 (xc (ins.shift.prep 0 T)) bl:=λbl=>zkE (zm9 hp) λq e hd=>by
  grind
 simp only[hb,c];cases V N ins.ts.length && qs ins.es.length 64 with
 |false=>trivial
 |true=>
  show zi1 D (qC _ _) (qC _ _);cases YX ins 0 (xc (ins.shift.prep 0 T)) (Zz ins.shift 0 (ins.shift.prep 0 T)) with
  |none=>trivial
  |some x=>exact⟨hp,rfl,rfl⟩
theorem zsK(h:EqX D S T)(c:∀t,D t->t < vB){As:List (AV C.D)}:zi1 D (YV ins S As) (YV ins T As):=by
 unfold YV;have d:=zra h As;have a:=zgh c (g:=ins);have hp:=zq8 d (g:=ins.shift) (m:=0) a;have hb:=zao hp (g:=ins.shift) (m:=0) a;have b:∀bl,YX ins 0 (xc (ins.shift.prep 0 (virt S As))) bl=YX ins 0 (xc (ins.shift.prep 0 (virt T As))) bl:=λbl=>zkE (zm9 hp) λq e hd=>by
  grind
 simp only[hb,b];cases V As.length ins.ts.length && qs ins.es.length 64 with
 |false=>trivial
 |true=>
  show zi1 D (qC _ _) (qC _ _);cases YX ins 0 (xc (ins.shift.prep 0 (virt T As))) (Zz ins.shift 0 (ins.shift.prep 0 (virt T As))) with
  |none=>trivial
  |some x=>exact⟨hp,rfl,rfl⟩
theorem zir(h:EqX D S T){Sr:St C}{d:Nat}:EqX D (Zy S Sr d bl es) (Zy T Sr d bl es):=by
 refine⟨?_,λt a=>?_⟩
 ·unfold Zy;simp only;rw[h.heap]
 ·show AV.kill _ (AV.knx _ (S.env t))=AV.kill _ (AV.knx _ (T.env t));rw[h.env t a]
theorem zfv(h:S.heap=T.heap){Sr:St C}{d:Nat}:∀{k:Nat},VG S Sr d bl k=VG T Sr d bl k
 |0=>rfl
 |k+1=>by unfold VG;rw[h,zfv h]
theorem zdt{outs:List (XK×Sig)}{r:zg C outs}{f g:XE C->St C->Uv (Out C)}(h:∀e Sr,zS D (f e Sr) (g e Sr)):zS D (zT outs r f) (zT outs r g):=by
 have i:zT outs r (λ_ _=>True):=by
  revert r
  induction outs with
  |nil=>intro r;exact r.elim
  |cons o l b=>
   have one:∀y:XK.ty C o.1 o.2,Yi o.1 o.2 y (λ_ _=>True):=λy=>by
    let⟨k,g⟩:=o;cases k<;>trivial
   cases l with
   |nil=>intro r;exact one r
   |cons d l=>
    intro r;cases r with
    |inl a=>exact one a
    |inr y=>exact b (r:=y)
 revert r
 induction outs with
 |nil=>intro r;exact r.elim
 |cons o l b=>
  have one:∀y:XK.ty C o.1 o.2,zS D (Yi o.1 o.2 y f) (Yi o.1 o.2 y g):=λy=>by
   let⟨k,j⟩:=o;cases k<;>exact h _ _
  cases l with
  |nil=>intro r _;exact one r
  |cons d l=>
   intro r c;cases r with
   |inl a=>exact one a
   |inr y=>exact b (r:=y) c
theorem zrc(h:EqX D S T){s:Spec C}{d:Nat}{x:s.ins.ty C}:zS D (xy s d S bl x) (xy s d T bl x):=by
 unfold xy;refine .bind λr =>.chk (zdt λe Sr=>?_)
 unfold Wd;rw[zfv h.heap];refine .chk ?_;have a:=zkF (zir h (Sr:=Sr) (d:=d) (bl:=bl) (es:=ym s.outs r));cases e with
 |ret=>exact⟨a.heap,(a.put d _ (hp:=λ_=>I)).env⟩
 |pan A=>exact⟨rfl,a⟩
 |normal=>trivial
 |exit i=>trivial
theorem zis(h:EqX D S T){s:Spec C}{d:Nat}{x:s.ins.ty C}:zS D (yG s d S x) (yG s d T x):=by
 unfold yG;refine .bind λr=>zdt λe Sr =>.chk ?_
 unfold Wd;rw[zfv h.heap];refine .chk ?_;have a:=zkF (zir h (Sr:=Sr) (d:=d) (bl:=[]) (es:=ym s.outs r));cases e with
 |ret=>exact⟨a.heap,(a.put d _ (hp:=λ_=>I)).env⟩
 |pan A=>exact⟨rfl,a⟩
 |normal=>trivial
 |exit i=>trivial
theorem zit(h:EqX D S T){s:Spec C}{d:Nat}{x:s.ins.ty C}:zS D (yT s d S x) (yT s d T x):=by
 unfold yT;refine .chk (.bind λr=>zdt λe Sr=>?_);unfold zbj;cases e with
 |ret=>exact .chk ⟨h.heap,(h.put d _ (hp:=λ_=>I)).env⟩
 |pan A=>exact .chk ⟨rfl,h⟩
 |normal=>trivial
 |exit i=>trivial
theorem zom(h:S.heap=T.heap){i:Int}{K:(U:Nat)->Sl (C.D U)->Uv α}:zM S id T0 i K=zM T id T0 i K:=by
 unfold zM;rw[h]
omit [Dfr] in
mutual
theorem zxX(h:S.heap=T.heap):∀{A:AV C.D}{K:AV C.D->Uv α},vO S A K=vO T A K
 | .nx id T i .whole,K=>zom h
 | .agg cs,K=>zhu h (As:=cs)
 | .nx _ _ _ (.part _ _ _),K=>rfl
 | .nx _ _ _ (.elem _ _ _),K=>rfl
 | .int _ _,K=>rfl
 | .bool _,K=>rfl
 | .str _,K=>rfl
 | .tup _,K=>rfl
 | .sl _ _ _,K=>rfl
 | .row _,K=>rfl
 | .pc _ _,K=>rfl
 | .pr _ _ _ _,K=>rfl
 | .pz _ _ _,K=>rfl
 | .pnil,K=>rfl
 | .nils,K=>rfl
 | .clo _ _,K=>rfl
 | .nilf,K=>rfl
 | .ifc _ _,K=>rfl
 | .nili,K=>rfl
 | .und,K=>rfl
theorem zhu(h:S.heap=T.heap):∀{As:List (AV C.D)}{K:List (AV C.D)->Uv α},We S As K=We T As K
 |[],K=>rfl
 |A::As,K=>by
  show vO S A _=vO T A _;rw[zxX h (A:=A)];congr 1;funext B;exact zhu h (As:=As)
end
omit [Dfr] in
mutual
theorem zxY:∀{A:AV C.D}{f g:AV C.D->Uv (Out C)},(∀B,zS D (f B) (g B))->zS D (vO T A f) (vO T A g)
 | .nx id T0 i .whole,f,g,h=>by
  show zS D (zM T id T0 i _) (zM T id T0 i _);unfold zM;split
  ·refine .chk (.bind λq=>?_);split
   ·exact h _
   ·trivial
  ·trivial
 | .agg cs,f,g,h=>zhv (As:=cs) λa=>h _
 | .nx _ _ _ (.part _ _ _),f,g,h=>h _
 | .nx _ _ _ (.elem _ _ _),f,g,h=>h _
 | .int _ _,f,g,h=>h _
 | .bool _,f,g,h=>h _
 | .str _,f,g,h=>h _
 | .tup _,f,g,h=>h _
 | .sl _ _ _,f,g,h=>h _
 | .row _,f,g,h=>h _
 | .pc _ _,f,g,h=>h _
 | .pr _ _ _ _,f,g,h=>h _
 | .pz _ _ _,f,g,h=>h _
 | .pnil,f,g,h=>h _
 | .nils,f,g,h=>h _
 | .clo _ _,f,g,h=>h _
 | .nilf,f,g,h=>h _
 | .ifc _ _,f,g,h=>h _
 | .nili,f,g,h=>h _
 | .und,f,g,h=>h _
theorem zhv:∀{As:List (AV C.D)}{f g:List (AV C.D)->Uv (Out C)},(∀a,zS D (f a) (g a))->zS D (We T As f) (We T As g)
 |[],f,g,h=>h _
 |A::As,f,g,h=>zxY (A:=A) λB=>zhv (As:=As) λa=>h _
end
theorem zwG(h:EqX D S T)(c:∀t,D t->t < vB)(As a:List (AV C.D)):EqX D (zf9 S As a) (zf9 T As a):=by
 have h1:=EqX.frz (AV.nxss As) (zra h As);refine⟨h1.heap,λt b=>?_⟩;show(bif qb t vB then _ else match za1 As a (t - vB) with | some B=>B | none=>_)=(bif qb t vB then _ else match za1 As a (t - vB) with | some B=>B | none=>_);rw[h1.env t b]
theorem zhw(b:∀t,D t->t < vB):∀{ts:List (Nat×Sh)}{S T:St C}{f g:St C->Uv (Out C)},EqX D S T->(∀S1 a,EqX D S1 a->zS D (f S1) (g a))->zS D (wB ts S f) (wB ts T g)
 |[],S,T,f,g,h,k=>k _ _ h
 |(t,s)::ts,S,T,f,g,h,k=>by
  unfold wB;have d:¬ D (vB+t):=λhd=>jE
  have c:∀id,XA S id=XA T id:=λid=>by unfold XA;rw[h.heap]
  rw[h.env _ d];split
  ·rename_i T0 o id off _;rw[c];have h1:=EqX.frz (XA T id) h;rw[h1.heap];split
   ·refine .bind λq=>zhw b ?_ k
    have h2:=h1.sub id .und;rw[h2.heap];exact h2.put (vB+t) _
   ·trivial
  ·exact zhw b h k
theorem ziu(h:EqX D S T)(c:∀t,D t->t < vB){d:Nat}{As:List (AV C.D)}:∀{Γ:List (Spec C)},zS D (xz Γ S d f As) (xz Γ T d f As)
 |[]=>trivial
 |s::Γ=>by
  unfold xz;cases(V s.f f && (s.view || s.viewO)) with
  |false=>exact ziu h c
  |true=>
   simp only[Dq];rw[zhu h.heap];refine zhv λg =>.chk (zhw c (zwG h c As g) λS1 i h1=>?_)
   have e:=zrb h1 c (ins:=s.ins) (N:=As.length);generalize YL s.ins S1 As.length=a at e;generalize YL s.ins i As.length=b at e
   match a,b,e with
   |none,I,_=>trivial
   |some (S2,bl,x),E (j,_,_),⟨h2,rfl,rfl⟩=>
    show zS D (bif s.view then yT s d S x else yG s d S x) (bif s.view then yT s d T x else yG s d T x);cases s.view with
    |true=>exact zit h
    |false=>exact zis h
theorem zdu(h:EqX D S T)(c:∀t,D t->t < vB){Γ0:List (Spec C)}{d:Nat}{As:List (AV C.D)}:∀{Γ:List (Spec C)},zS D (YM Γ0 Γ S d f As) (YM Γ0 Γ T d f As)
 |[]=>ziu h c
 |s::Γ=>by
  unfold YM;cases V s.f f with
  |false=>exact zdu h c
  |true=>
   simp only[Dq];have e:=zsK h c (ins:=s.ins) (As:=As);generalize YV s.ins S As=a at e;generalize YV s.ins T As=b at e
   match a,b,e with
   |none,I,_=>exact zdu h c
   |some (S2,bl,x),E (g,_,_),⟨h2,rfl,rfl⟩=>
    show zS D (bif s.view then yT s d S x else bif s.viewO then yG s d S x else xy s d S2 bl x) (bif s.view then yT s d T x else bif s.viewO then yG s d T x else xy s d g bl x);cases s.view with
    |true=>exact zit h
    |false=>
     cases s.viewO with
     |true=>exact zis h
     |false=>exact zrc h2
theorem zkG(h:EqX D S T)(a:∀t,D t->t < vB){d:Nat}{As:List (AV C.D)}{Γ:List (Spec C)}:zS D (vA Γ S d f As) (vA Γ T d f As):=zdu h a
theorem zkH(h:EqX D S T){ty:TypeId}{op:Op}(a:vC D op.operands.toList):yE P S ty op=yE P T ty op:=zm4 (h.ops a) λid _=>by rw[h.heap]
omit [Dfr] in
theorem zS.map{x:Uv (AV C.D)}{d:Nat}(h:EqX D S T):zS D (x.map λA =>.go (S.put d A)) (x.map λA =>.go (T.put d A)):=by
 cases x with
 |none=>trivial
 |some A=>exact⟨h.heap,(h.put d A (hp:=λ_=>Option.none)).env⟩
theorem ziv(h:EqX D S T){x:Operand}(a:S.op x=T.op x):zS D (Xg S x) (Xg T x):=by
 unfold Xg;rw[a];split
 ·exact .chk ⟨rfl,h⟩
 ·trivial
theorem zgi(h:EqX D S T){d:Nat}{ty t:TypeId}{x:Operand}(a:S.op x=T.op x)(b:vC D (qR t x lo hi I).operands.toList):zS D (yF P S d ty t x lo hi) (yF P T d ty t x lo hi):=by
 unfold yF;rw[a];split
 ·rename_i id e;have h1:=EqX.frz1 h id;rw[zkH h1 b];exact .bind λA=>⟨h1.heap,(h1.put d A (hp:=λ_=>I)).env⟩
 ·trivial
theorem zon(h:EqX D S T){q:Opts}{d:Nat}{ty t:TypeId}{x:Operand}{f:Uv Operand}(c:vC D (qR t x lo hi f).operands.toList):zS D (Yc q P S d ty t x lo hi f) (Yc q P T d ty t x lo hi f):=by
 have a:=h.ops c;have b:S.op x=T.op x:=a x (by simp[W]);unfold Yc;split
 ·cases q.fs with
  |true=>exact zgi h b c
  |false=>
   have h1:∀y,hi=E y->S.op y=T.op y:=λy e=>a y (by subst e;simp[W])
   exact zoj h b h1
 ·exact zgi h b c
 ·trivial
theorem zmH(h:EqX D S T){d:Nat}{t:TypeId}:zS D (Xy S d t) (Xy T d t):=by
 unfold Xy;rw[h.heap];split
 ·exact .chk (h.put d _)
 ·trivial
theorem zhx(h:EqX D S T){t:TypeId}{x y:Operand}(d:S.op x=T.op x)(e:S.op y=T.op y){f g:(a id q T:Nat)->(b:ByteArray)->(s:Sl (C.D T))->(M:MapR C.D C.opv T)->M.k.ty->Uv (Out C)}(c:∀a id q T b s M k,zS D (f a id q T b s M k) (g a id q T b s M k)):zS D (zal P S t x y f) (zal P T t x y g):=by
 unfold zal;rw[d,e,h.heap];split
 ·split
  ·split
   ·split
    ·split
     ·exact .chk (c _ _ _ _ _ _ _ _)
     ·trivial
    ·trivial
   ·trivial
  ·trivial
 ·trivial
theorem zsL(h:EqX D S T){d:Nat}{t:TypeId}{x y:Operand}(a:S.op x=T.op x)(c:S.op y=T.op y):zS D (zf8 P S d t x y) (zf8 P T d t x y):=by
 refine zhx h a c λe id q T b s M k=>?_
 split
 ·exact .chk ⟨h.heap,(h.put d _ (hp:=λ_=>I)).env⟩
 ·trivial
theorem zoo(h:EqX D S T){t:TypeId}{x y z:Operand}(a:S.op x=T.op x)(d:S.op y=T.op y)(c:S.op z=T.op z):zS D (zbQ P S t x y z) (zbQ P T t x y z):=by
 refine zhx h a d λe id q T b s M k=>?_
 rw[c];split
 ·exact⟨by rw[h.heap],h.env⟩
 ·trivial
theorem zop(h:EqX D S T){x y:Operand}(a:S.op x=T.op x)(c:S.op y=T.op y):zS D (wI P S ts x y) (wI P T ts x y):=by
 unfold wI;split
 ·exact zhx h a c λd id q T b s M k=>⟨by rw[h.heap],h.env⟩
 ·trivial
theorem zxZ{q:Opts}{Γ:List (Spec C)}{n:Nat}{o:Oper}(h:EqX D S T)(r:∀t,D t->t < vB)(i:vC D o.op.operands.toList):zS D (VH q Γ P n o S) (VH q Γ P n o T):=by
 let⟨dst,op,ty,ps,af,g⟩:=o;have a:=h.ops i;simp only at i a;unfold VH;cases dst with
 |none=>
  simp only;split
  ·rename_i t x y;exact zq3 h (λt e=>i t (by simp[W,e])) (λt e=>i t (by simp[W,e]))
  ·rename_i t x y z;exact zoo h (a x (by simp[W])) (a y (by simp[W])) (a z (by simp[W]))
  ·rename_i args ts;split
   ·rename_i x y e;have b:∀z∈args.toList,S.op z=T.op z:=λz j=>a z (by simp[W,qk];simpa using j)
    rw[e] at b;exact zop h (b x je) (b y je)
   ·trivial
  ·rename_i x;exact ziv h (a x (by simp[W]))
  ·trivial
 |some d=>
  simp only;refine .chk ?_;have rd:∀f,f=op->zS D ((yE P S ty f).map λA =>.go (S.put d A)) ((yE P T ty f).map λA =>.go (T.put d A)):=λf e=>by
   subst e;rw[zkH h i];exact .map h
  unfold xA;split
  ·exact zq2 h
  ·rename_i t x;rw[a x (by simp[W])];refine .chk ?_;cases C.bz t with
   |true=>exact .bind λq=>zS.map (x:=E (.pz _ q 0)) h
   |false=>exact zm5 h
  ·rename_i t x y;exact zsG h (a x (by simp[W]))
  ·rename_i t m k;exact zoi h (by simpa[W] using i)
  ·rename_i t x lo hi v;rw[zkH h i];split
   ·exact⟨h.heap,(h.put d _ (hp:=λ_=>I)).env⟩
   ·exact zon h i
  ·rename_i t t' x;have l:=a x (by simp[W]);grind
  ·rename_i c args ts;have b:args.toList.map S.op=args.toList.map T.op:=Ds λx l=>a x (by simp[W,qk];grind)
   rw[a c (by simp[W,qk]),b];split
   ·exact zS.chk (zkG h r)
   ·trivial
  ·rename_i x p args ts;have b:args.toList.map S.op=args.toList.map T.op:=Ds λx l=>a x (by simp[W,qk];exact .inr (by simpa using l))
   unfold WQ;rw[a x (by simp[W,qk]),b];split
   ·split
    ·exact zkG h r
    ·trivial
   ·trivial
  ·rename_i args ts;split
   ·rename_i x y t t' s u;have b:∀z∈args.toList,S.op z=T.op z:=λz j=>a z (by simp[W,qk];simpa using j)
    rw[s] at b;exact .chk (zgg h (b x je) (b y je))
   ·trivial
  ·exact zmH h
  ·rename_i t x y;exact zsL h (a x (by simp[W])) (a y (by simp[W]))
  ·rename_i x;exact ziv h (a x (by simp[W]))
  grind
theorem zz4{q:Opts}{Γ:List (Spec C)}{n:Nat}{o:Oper}(h:EqX D S T)(b:∀t,D t->t < vB)(a:vC D o.op.operands.toList):zS D (stp q Γ P n o S) (stp q Γ P n o T):=by
 let⟨h1,h2⟩:=zwE (P:=P) (dst:=o.dst) h a;unfold stp;rw[h1];cases c:xd P T o.dst o.op with
 |some k=>exact .chk (h2 k c)
 |none=>exact zxZ h b a
end
end
section
variable [Dfr]
def xo(id:Nat):Nat:=id+1099511627776
mutual
def AV.avoid{D:Nat->Type}(l:List Nat):AV D->Bool
 | .row id=> !zE id l
 | .pc id _=> !zE id l
 | .pr id _ _ _=> !zE id l
 | .nx id _ _ _=> !zE id l && !zE (xo id) l
 | .agg cs=>AV.avoids l cs
 | .tup cs=>AV.avoids l cs
 | .clo _ cs=>AV.avoids l cs
 | .ifc _ A=>AV.avoid l A
 |_=>G
def AV.avoids{D:Nat->Type}(l:List Nat):List (AV D)->Bool
 |[]=>G
 |A::As=>AV.avoid l A && AV.avoids l As
end
omit [Dfr] in
mutual
theorem zdv{D:Nat->Type}{R:AV D}(a:zE id l=G):∀{A:AV D},A.avoid l=G->AV.sub id R A=A
 | .row j,h=>by
  unfold AV.sub;cases e:V j id with
  |true=>
   have:=ge e;subst this;simp only[AV.avoid,a] at h;cases h
  |false=>rfl
 | .pc j o,h=>by
  unfold AV.sub;cases e:V j id with
  |true=>
   have:=ge e;subst this;simp only[AV.avoid,a] at h;cases h
  |false=>rfl
 | .pr j _ _ _,h=>by
  unfold AV.sub;cases e:V j id with
  |true=>
   have:=ge e;subst this;simp only[AV.avoid,a] at h;cases h
  |false=>rfl
 | .nx j _ _ _,h=>by
  unfold AV.sub;cases e:V j id with
  |true=>
   have:=ge e;subst this;simp only[AV.avoid,a] at h;cases h
  |false=>rfl
 | .agg cs,h=>by unfold AV.sub;rw[Wg a h]
 | .tup cs,h=>by unfold AV.sub;rw[Wg a h]
 | .clo f cs,h=>by unfold AV.sub;rw[Wg a h]
 | .ifc t A,h=>by unfold AV.sub;rw[zdv a (A:=A) h]
 | .int _ _,_=>rfl
 | .bool _,_=>rfl
 | .str _,_=>rfl
 | .sl _ _ _,_=>rfl
 | .pz _ _ _,_=>rfl
 | .pnil,_=>rfl
 | .nils,_=>rfl
 | .nilf,_=>rfl
 | .nili,_=>rfl
 | .und,_=>rfl
theorem Wg{D:Nat->Type}{R:AV D}(a:zE id l=G):∀{A:List (AV D)},AV.avoids l A=G->AV.subs id R A=A
 |[],_=>rfl
 |A::As,h=>by
  simp only[AV.avoids,gf] at h;unfold AV.subs;rw[zdv a h.1,Wg a h.2]
end
omit [Dfr] in
mutual
theorem zb3{D:Nat->Type}(hp:∀i,p i=G->zE i l=G):∀{A:AV D},A.avoid l=G->AV.kill p A=A
 | .row j,h=>by
  unfold AV.kill;cases e:p j with
  |true=>simp only[AV.avoid,hp j e] at h;cases h
  |false=>rfl
 | .pc j o,h=>by
  unfold AV.kill;cases e:p j with
  |true=>simp only[AV.avoid,hp j e] at h;cases h
  |false=>rfl
 | .pr j _ _ _,h=>by
  unfold AV.kill;cases e:p j with
  |true=>simp only[AV.avoid,hp j e] at h;cases h
  |false=>rfl
 | .nx j _ _ _,h=>by
  unfold AV.kill;cases e:p j with
  |true=>simp only[AV.avoid,hp j e] at h;cases h
  |false=>rfl
 | .agg cs,h=>by unfold AV.kill;rw[wv hp h]
 | .tup cs,h=>by unfold AV.kill;rw[wv hp h]
 | .clo f cs,h=>by unfold AV.kill;rw[wv hp h]
 | .ifc t A,h=>by unfold AV.kill;rw[zb3 hp (A:=A) h]
 | .int _ _,_=>rfl
 | .bool _,_=>rfl
 | .str _,_=>rfl
 | .sl _ _ _,_=>rfl
 | .pz _ _ _,_=>rfl
 | .pnil,_=>rfl
 | .nils,_=>rfl
 | .nilf,_=>rfl
 | .nili,_=>rfl
 | .und,_=>rfl
theorem wv{D:Nat->Type}(hp:∀i,p i=G->zE i l=G):∀{A:List (AV D)},AV.avoids l A=G->AV.kills p A=A
 |[],_=>rfl
 |A::As,h=>by
  simp only[AV.avoids,gf] at h;unfold AV.kills;rw[zb3 hp h.1,wv hp h.2]
end
omit [Dfr] in
mutual
theorem zap{D:Nat->Type}(hp:∀i,p i=G->zE (xo i) l=G):∀{A:AV D},A.avoid l=G->AV.knx p A=A
 | .row j,h=>rfl
 | .pc j o,h=>rfl
 | .pr j _ _ _,h=>rfl
 | .nx j _ _ _,h=>by
  unfold AV.knx;cases e:p j with
  |true=>simp only[AV.avoid,hp j e,Dg,Bool.and_false] at h;cases h
  |false=>rfl
 | .agg cs,h=>by unfold AV.knx;rw[XU hp h]
 | .tup cs,h=>by unfold AV.knx;rw[XU hp h]
 | .clo f cs,h=>by unfold AV.knx;rw[XU hp h]
 | .ifc t A,h=>by unfold AV.knx;rw[zap hp (A:=A) h]
 | .int _ _,_=>rfl
 | .bool _,_=>rfl
 | .str _,_=>rfl
 | .sl _ _ _,_=>rfl
 | .pz _ _ _,_=>rfl
 | .pnil,_=>rfl
 | .nils,_=>rfl
 | .nilf,_=>rfl
 | .nili,_=>rfl
 | .und,_=>rfl
theorem XU{D:Nat->Type}(hp:∀i,p i=G->zE (xo i) l=G):∀{A:List (AV D)},AV.avoids l A=G->AV.knxs p A=A
 |[],_=>rfl
 |A::As,h=>by
  simp only[AV.avoids,gf] at h;unfold AV.knxs;rw[zap hp h.1,XU hp h.2]
end
section
variable {C:Cod}{S T:St C}{P:Program}
def Ent.avoid(l:List Nat):Ent C->Bool
 | .cell cs=>AV.avoids l cs
 | .row _ _=>G
 | .obj _ _ _ _=>G
 | .orow _ _ _=>G
def zkI(l:List Nat):Uv (Ent C)->Bool
 |some e=>e.avoid l
 |none=>G
structure Keeps(S T:St C)(d:Uv Nat)(l:List Nat)(p:Nat->Bool):Prop where
 env:∀t,t < vB->d≠E t->(S.env t).avoid l=G->T.env t=S.env t
 heap:∀id,p id=O->zkI l (S.heap id)=G->T.heap id=S.heap id
omit [Dfr] in
theorem Keeps.refl(S:St C){d:Uv Nat}:Keeps S S d l p:=⟨λ_ _ _ _=>rfl,λ_ _ _=>rfl⟩
omit [Dfr] in
theorem Keeps.trans{U:St C}{d:Uv Nat}(h:Keeps S T d l p)(k:Keeps T U d l p):Keeps S U d l p:=
 ⟨λt h1 h2 a=>by have e:=h.env t h1 h2 a;rw[k.env t h1 h2 jE,e],λid h1 h2=>by have e:=h.heap id h1 h2;rw[k.heap id h1 jE,e]⟩
omit [Dfr] in
theorem Keeps.sub{R:AV C.D}{d:Uv Nat}(a:zE id l=G)(hp:p id=G):Keeps S (S.sub id R) d l p:=by
 refine⟨λt _ _ h=>zdv a h,λj f h=>?_⟩;show(bif V j id then I else(S.heap j).map (Ent.sub id R))=S.heap j;cases e:V j id with
 |true=>have:=ge e;grind
 |false=>
  simp only[U0];cases hs:S.heap j with
  |none=>rfl
  |some c=>
   rw[hs] at h;cases c with
   |row T s=>rfl
   |obj q T b s=>rfl
   |orow T s g=>rfl
   |cell cs=>show E (Ent.cell (AV.subs id R cs))=_;rw[Wg a h]
theorem zb4(S:St C)(id:Nat):(∃R,S.frz1 id=S.sub id R)\/S.frz1 id=S:=by
 unfold St.frz1;split
 ·grind
 all_goals grind
omit [Dfr] in
theorem Keeps.frz{d:Uv Nat}:∀(r:List Nat) {S:St C},(∀id∈r,zE id l=G/\p id=G)->Keeps S (S.frz r) d l p
 |[],S,_ =>.refl S
 |id::r,S,h=>by
  have h1:=h id je;have k:Keeps S (S.frz1 id) d l p:=by
   rcases zb4 S id with⟨R,e⟩ | e
   ·rw[e];exact .sub h1.1 h1.2
   ·rw[e];exact .refl S
  exact k.trans (Keeps.frz r λj a=>h j (Du _ a))
theorem Keeps.new{d:Nat}{A:AV C.D}{e:Uv (Ent C)}(hp:p id=G):Keeps S {env:=upd S.env d A,heap:=upd S.heap id e} (E d) l p:=
 ⟨λt _ h2 _=>zq λe=>h2 (by rw[e]),λj a _=>zq λe=>jE⟩
omit [Dfr] in
theorem Keeps.ent{e:Uv (Ent C)}{d:Uv Nat}(hp:p id=G):Keeps S {S with heap:=upd S.heap id e} d l p:=
 ⟨λt _ _ _=>rfl,λj a _=>zq λe=>jE⟩
omit [Dfr] in
theorem Keeps.put{d:Nat}{A:AV C.D}:Keeps S (S.put d A) (E d) l p:=⟨λt _ h2 _=>zq λe=>h2 (by rw[e]),λj _ _=>rfl⟩
omit [Dfr] in
theorem Keeps.virt{As:List (AV C.D)}{d:Uv Nat}:Keeps S (virt S As) d l p:=⟨λt a _ _=>by
 show(bif qb t vB then S.env t else _)=_
 rw[show qb t vB=G from by rw[UT];exact a];rfl,λj _ _=>rfl⟩
omit [Dfr] in
theorem Keeps.unvirt{d:Uv Nat}:Keeps S (unvirt S) d l p:=⟨λt a _ _=>by
 show(bif qb t vB then S.env t else _)=_
 rw[show qb t vB=G from by rw[UT];exact a];rfl,λj _ _=>rfl⟩
omit [Dfr] in
theorem Keeps.nilA1{t q:Nat}{d:Uv Nat}(hp:∀id,1048576<=id->p id=G)(b:vB<=t):Keeps S (nilA1 es t s q S) d l p:=by
 unfold Px.nilA1;split
 ·split
  ·cases isNone (S.heap _) with
   |true=>
    refine⟨λt' a _ _=>zq λe=>?_,λj c _=>zq λe=>?_⟩
    all_goals grind
   |false=>exact .refl S
  ·exact .refl S
 ·exact .refl S
omit [Dfr] in
theorem Keeps.nilA{t:Nat}{d:Uv Nat}(hp:∀id,1048576<=id->p id=G)(a:vB<=t):∀(sl:List Sh) (q:Nat) {S:St C},Keeps S (nilA es t sl q S) d l p
 |[],q,S =>.refl S
 |s::sl,q,S=>(Keeps.nilA1 hp a).trans (Keeps.nilA hp a sl _)
omit [Dfr] in
theorem Keeps.nilT{d:Uv Nat}(hp:∀id,1048576<=id->p id=G):∀(ts:List (Nat×Sh)) {S:St C},(∀q∈ts,vB<=q.1)->Keeps S (nilT es ts S) d l p
 |[],S,_ =>.refl S
 |(t,s)::ts,S,hts=>by
  have a:∀q∈ts,vB<=q.1:=λq b=>hts q (Du _ b)
  unfold Px.nilT;split
  ·split
   ·cases isNone (S.heap _) with
    |false=>exact Keeps.nilT hp ts a
    |true=>
     refine Keeps.trans ?_ (Keeps.nilT hp ts a);refine⟨λt' c _ _=>zq λe=>?_,λj f _=>zq λe=>?_⟩
     ·have:=hts _ (qE ..);grind
     grind
   ·exact Keeps.nilT hp ts a
  ·exact(Keeps.nilA hp (hts _ (qE ..)) _ 0).trans (Keeps.nilT hp ts a)
  ·exact Keeps.nilT hp ts a
omit [Dfr] in
theorem Keeps.nil1{q:Nat}{d:Uv Nat}(hp:∀id,1048576<=id->p id=G)(hid:p id=G):Keeps S (nil1 es id s q S) d l p:=by
 unfold Px.nil1;split
 ·split
  ·cases isNone (S.heap _) with
   |true=>
    refine⟨λ_ _ _ _=>rfl,λj b _=>?_⟩;show upd (upd S.heap _ _) id _ j=S.heap j;have a:j≠id:=λe=>jE
    rw[zq a];exact zq λe=>jE
   |false=>exact .refl S
  ·exact .refl S
 ·exact .refl S
omit [Dfr] in
theorem Keeps.nilC{d:Uv Nat}(hp:∀id,1048576<=id->p id=G)(hid:p id=G):∀(sl:List Sh) (q:Nat) {S:St C},Keeps S (nilC es id sl q S) d l p
 |[],q,S =>.refl S
 |s::sl,q,S=>(Keeps.nil1 hp hid).trans (Keeps.nilC hp hid sl _)
omit [Dfr] in
theorem Keeps.nilE{all:List ESh}{d:Uv Nat}(hp:∀id,1048576<=id->p id=G)(hb:∀id,yf id bl=G->p id=G):∀(es:List ESh) (k:Nat) {S:St C},Keeps S (nilE all bl es k S) d l p
 |[],k,S =>.refl S
 |e::es,k,S=>by
  refine Keeps.trans ?_ (Keeps.nilE hp hb es _);unfold zgv;split
  ·rename_i id e';exact Keeps.nilC hp (hb id (Xi e')) _ 0
  ·exact .refl S
def zu4(g:Sig)(m:Nat)(S:St C):Bl:=Zz g m (nilT g.es g.ts (S.frz (fzT S g.ts)))
def zgj(g:Sig)(m:Nat)(S:St C):List Nat:=
 let S1:=nilT g.es g.ts (S.frz (fzT S g.ts))
 let S2:=nilE g.es (Zz g m S1) g.es 0 S1
 fzT S g.ts++fzE S2 (Zz g m S2) g.es 0
omit [Dfr] in
theorem Keeps.prep{g:Sig}{d:Uv Nat}(hp:∀id,1048576<=id->p id=G)(a:∀q∈g.ts,vB<=q.1)(hb:∀id,yf id (zu4 g m S)=G->p id=G)(b:∀id∈zgj g m S,zE id l=G/\p id=G):Keeps S (g.prep m S) d l p:=by
 unfold Sig.prep;simp only;refine(Keeps.frz _ λid hid=>b id (by unfold zgj;grind)).trans ((Keeps.nilT hp g.ts a).trans ((Keeps.nilE hp hb g.es 0).trans (Keeps.frz _ λid hid=>b id (by unfold zgj;grind))))
theorem zbl(d k:Nat)(a:k < 64):nid d k / 64=d+1:=by unfold nid;omega
theorem Keeps.merge{Sr:St C}{d:Nat}(f:∀id∈YH es bl,zE id l=G/\p id=G)(hb:∀id,yf id bl=G->p id=G)(x:∀k,k < 64->p (nid d k)=G)(n:es.length<=64)(m:∀id,yf id bl=G->zE (xo id) l=G):Keeps S (Zy S Sr d bl es) (E d) l p:=by
 have a:∀i,zE i (YH es bl)=G->zE i l=true:=λi hi=>(f i (zR.1 hi)).1
 refine⟨λt _ _ h=>by show AV.kill _ (AV.knx _ (S.env t))=_;rw[zap (λid hid=>m id jE) h,zb3 a h],λj c h=>?_⟩;have r:(Zy S Sr d bl es).heap j=bif zE j (YH es bl) then I else(S.heap j).map λe=>Ent.kill (λi=>zE i (YH es bl)) (Ent.knx (λi=>yf i bl && !zE i (kpL Sr bl 0)) e):=by
  refine vN λk e w v=>?_
  rw[US];intro e';unfold xx at e';split at e'
  ·rename_i id hid;subst e';rw[hb _ (Xi hid)] at c;cases c
  grind
 rw[r];cases o:zE j (YH es bl) with
 |true=>rw[(f j (zR.1 o)).2] at c;cases c
 |false=>
  simp only[U0];cases hs:S.heap j with
  |none=>rfl
  |some u=>
   rw[hs] at h;cases u with
   |row T s=>rfl
   |obj q T b s=>rfl
   |orow T s g=>rfl
   |cell cs=>show E (Ent.cell (AV.kills _ (AV.knxs _ cs)))=_;rw[XU (λid hid=>m id jE) h,wv a h]
abbrev Tch:=List Nat×(Nat->Bool)
def zdw(d:Nat):Uv Tch:=E ([],λi=>V (i / 64) (d+1))
def zb5:Bl->List Nat
 |[]=>[]
 |some id::r=>xo id::zb5 r
 |none::r=>zb5 r
theorem zfw:∀{bl:Bl},yf id bl=G->xo id∈zb5 bl
 |some a::r,h=>by
  simp only[yf,UH] at h;rcases h with h | h
  ·rw[ge h];simp[zb5]
  ·exact Du _ (zfw h)
 |none::r,h=>zfw (bl:=r) h
 |[],h=>by cases h
def zrd(id:Nat)(l:List Nat):Uv Tch:=E (l,λi=>V i id || zE i l)
def WR(Γ:List (Spec C))(S:St C)(d f:Nat)(As:List (AV C.D)):Uv Tch:=match Γ with
 |[]=>E ([],λi=>V (i / 64) (d+1))
 |s::Γ=>bif V s.f f then(match YV s.ins S As with
  |some (S2,bl,x)=>bif s.view then E ([],λ_=>O) else bif s.viewO then chk (s.outs.all λo=>qs o.2.es.length 64) (E ([],λi=>V (i / 64) (d+1))) else go s bl (zu4 s.ins.shift 0 (virt S As)) (zgj s.ins.shift 0 (virt S As)++((s.outs.flatMap λo=>YH o.2.es bl)++zb5 bl))
  |none=>WR Γ S d f As) else WR Γ S d f As
where
 go (s:Spec C) (bl b1:Bl) (l:List Nat):Uv Tch:=chk (s.outs.all λo=>qs o.2.es.length 64) (E (l,λi=>zE i l || (yf i bl || (V (i / 64) (d+1) || (qs 1048576 i || yf i b1)))))
def zsM(Γ:List (Spec C))(P:Program)(o:Oper)(S:St C):Uv Tch:=match o.dst with
 |none=>match o.op with
  | .store t x y=>(match S.op x with
   | .pc id _=>zrd id []
   | .pr id _ _ _=>zrd id (AV.rows (S.op y))
   |_=>I)
  | .mapUpdate _ x _ _=>(match S.op x with
   | .row id=>E ([],λi=>V i id)
   |_=>I)
  | .call ⟨.builtin .delete,args,_⟩=>(match args.toList with
   |[x,_]=>(match S.op x with
    | .row id=>E ([],λi=>V i id)
    |_=>I)
   |_=>I)
  |_=>E ([],λ_=>O)
 |some d=>match o.op with
  | .alloc _=>zdw d
  | .box _ _=>zdw d
  | .makeSlice _ _ _=>zdw d
  | .makeMap _ _=>zdw d
  | .buildSlice _ _ a=>go d (AV.rowss (a.toList.map λq=>S.op q.2))
  | .call ⟨.value c,args,_⟩=>(match S.op c with
   | .clo f caps=>WR Γ S d f (Xh (args.toList.map S.op) caps)
   |_=>I)
  | .call ⟨.invoke x b,args,_⟩=>(match S.op x with
   | .ifc t A=>(match zei P t b with
    |some f=>WR Γ S d f (A::args.toList.map S.op)
    |none=>I)
   |_=>I)
  | .call ⟨.builtin .append,args,_⟩=>(match args.toList with
   |[x,y]=>(match S.op x with
    | .row id=>go d [id]
    | .nils=>zdw d
    |_=>I)
   |_=>I)
  | .slice _ x _ _ _=>go d (S.op x).hid
  | .panic _=>E ([],λ_=>O)
  |_=>E ([],λ_=>O)
where
 go (d:Nat) (l:List Nat):Uv Tch:=E (l,λi=>zE i l || V (i / 64) (d+1))
theorem ZW(h:id∈l):zE id l=true:=zR.2 h
theorem Wh(d:Nat):V (nid d 0 / 64) (d+1)=true:=by rw[zbl d 0 Zd];simp
theorem zaq:∀{outs:List (XK×Sig)}{r:zg C outs},∃o∈outs,ym outs r=o.2.es
 |[],r=>r.elim
 |[o],r=>⟨o,je,rfl⟩
 |o::b::l,r=>by
  cases r with
  |inl a=>exact⟨o,je,rfl⟩
  |inr y=>
   let⟨o',h1,h2⟩:=zaq (outs:=b::l) (r:=y);exact⟨o',Du _ h1,h2⟩
theorem XC{K:XE C->St C->Uv α}{z:α}{outs:List (XK×Sig)}{r:zg C outs}(h:zT outs r K=E z):∃e S,K e S=E z:=by
 have b:zT outs r (λ_ _=>True):=by
  clear h;revert r
  induction outs with
  |nil=>intro r;exact r.elim
  |cons o l c=>
   have one:∀y:XK.ty C o.1 o.2,Yi o.1 o.2 y (λ_ _=>True):=λy=>by
    let⟨k,g⟩:=o;cases k<;>trivial
   cases l with
   |nil=>intro r;exact one r
   |cons d l=>
    intro r;cases r with
    |inl a=>exact one a
    |inr y=>exact c (r:=y)
 let⟨e,S,h1,_⟩:=Xz h b;grind
theorem ziW{s:Spec C}(a:s.viewO=G){d:Nat}{x:s.ins.ty C}{S':St C}(h:yG s d S x=E (.go S')):Keeps S S' (E d) [] λi=>V (i / 64) (d+1):=by
 simp only[Spec.viewO,gf] at a;unfold yG at h;let⟨r,_,h⟩:=gd h;let⟨e,Sr,h⟩:=XC h;let⟨_,h⟩:=zb h;unfold Wd at h;let⟨_,h⟩:=zb h;cases e with
 |normal=>cases h
 |exit i=>cases h
 |pan A=>cases h
 |ret=>
  cases h;let⟨o,g,f⟩:=zaq (outs:=s.outs) (r:=r);have j:YH (ym s.outs r) []=[]:=by cases ym s.outs r<;>rfl
  have b:=Dp.1 a.2 o g;simp only[gf] at b;refine Keeps.trans (.merge (λid hid=>?_) (λid hid=>?_) (λk c=>?_) ?_ (λid hid=>?_)) (Keeps.trans .unvirt .put)
  ·grind
  ·cases hid
  ·simp only[zbl d k c,qI]
  ·rw[f];exact UZ b.2
  ·cases hid
theorem ziX{s:Spec C}{d:Nat}{x:s.ins.ty C}{S':St C}(h:yT s d S x=E (.go S')):Keeps S S' (E d) l p:=by
 let⟨_,h⟩:=zb h;let⟨r,_,h⟩:=gd h;let⟨e,Sr,h⟩:=XC h;unfold zbj at h;cases e with
 |normal=>cases h
 |exit i=>cases h
 |pan A=>let⟨_,h⟩:=zb h;cases h
 |ret=>let⟨_,h⟩:=zb h;cases h;exact .put
theorem zc0{d:Nat}{As:List (AV C.D)}{S':St C}:∀{Γ:List (Spec C)},xz Γ S d f As=E (.go S')->Keeps S S' (E d) [] λi=>V (i / 64) (d+1)
 |[],h=>by cases h
 |s::Γ,h=>by
  unfold xz at h;cases a:(V s.f f && (s.view || s.viewO)) with
  |false=>rw[a] at h;exact zc0 h
  |true=>
   rw[a,Dq] at h;let⟨e,h,_⟩:=zbU h;let⟨_,h⟩:=zb h;let⟨T,h,_⟩:=vZ h;split at h
   ·rename_i S2 bl x c;cases b:s.view with
    |true=>rw[b] at h;exact ziX h
    |false=>
     rw[b] at h;simp only[gf,UH,b] at a;exact ziW jE h
   ·cases h
theorem za4{Γ0:List (Spec C)}{d:Nat}{As:List (AV C.D)}{S':St C}:∀{Γ:List (Spec C)},YM Γ0 Γ S d f As=E (.go S')->WR Γ S d f As=E (l,p)->Keeps S S' (E d) l p
 |[],h,a=>by cases a;exact zc0 h
 |s::Γ,h,a=>by
  unfold YM at h;unfold WR at a;cases v:V s.f f with
  |false=>rw[v] at h a;exact za4 h a
  |true=>
   rw[v] at h a;simp only[Dq] at h a;split at h
   ·rename_i S2 bl x b;rw[b] at a;simp only at a;cases w:s.view with
    |true=>
     rw[w] at h a;cases a;simp only[Dq] at h;let⟨_,h⟩:=zb h;let⟨r,_,h⟩:=gd h;let⟨e,Sr,h⟩:=XC h;unfold zbj at h;cases e with
     |normal=>cases h
     |exit i=>cases h
     |pan A=>let⟨_,h⟩:=zb h;cases h
     |ret=>let⟨_,h⟩:=zb h;cases h;exact .put
    |false=>
    rw[w] at h a;rw[U0] at h a;cases c:s.viewO with
    |true=>
     rw[c] at h a;rw[Dq] at h a;let⟨u,a⟩:=zb a;cases a;unfold yG at h;let⟨r,_,h⟩:=gd h;let⟨e,Sr,h⟩:=XC h;let⟨_,h⟩:=zb h;unfold Wd at h;let⟨_,h⟩:=zb h;cases e with
     |normal=>cases h
     |exit i=>cases h
     |pan A=>cases h
     |ret=>
      cases h;let⟨o,n,j⟩:=zaq (outs:=s.outs) (r:=r);have z:YH (ym s.outs r) []=[]:=by cases ym s.outs r<;>rfl
      refine Keeps.trans (.merge (λid hid=>?_) (λid hid=>?_) (λk t=>?_) ?_ (λid hid=>?_)) (Keeps.trans .unvirt .put)
      ·grind
      ·cases hid
      ·simp only[zbl d k t,qI]
      ·rw[j];exact UZ (Dp.1 u o n)
      ·cases hid
    |false=>
    rw[c] at h a;simp only[U0] at h a;let⟨u,a⟩:=zb a;cases a;unfold YV at b;let⟨_,b⟩:=zb b;let⟨F,B,j⟩:=D1.1 b;cases j;unfold xy at h;let⟨r,_,h⟩:=gd h;let⟨_,h⟩:=zb h;let⟨e,Sr,h⟩:=XC h;unfold Wd at h;let⟨_,h⟩:=zb h;cases e with
    |normal=>cases h
    |exit i=>cases h
    |pan A=>cases h
    |ret=>
     cases h;let⟨o,n,j⟩:=zaq (outs:=s.outs) (r:=r);refine Keeps.trans .virt (Keeps.trans (.prep (g:=s.ins.shift) (m:=0) (λid h=>?_) (λq y=>?_) (λid hid=>?_) (λid hid=>?_)) (Keeps.trans (.merge (λid hid=>?_) (λid hid=>?_) (λk t=>?_) ?_ (λid hid=>?_)) (Keeps.trans .unvirt .put)))
     ·simp[Nat.ble_eq,h]
     ·obtain⟨p,hp,rfl⟩:=Dw.1 y;grind
     ·grind
     ·have:=ZW (D3 ((s.outs.flatMap λo=>YH o.2.es (Zz s.ins.shift 0 (s.ins.shift.prep 0 (virt S As))))++zb5 (Zz s.ins.shift 0 (s.ins.shift.prep 0 (virt S As)))) hid);grind
     ·have:id∈zgj s.ins.shift 0 (virt S As)++((s.outs.flatMap λo=>YH o.2.es (Zz s.ins.shift 0 (s.ins.shift.prep 0 (virt S As))))++zb5 (Zz s.ins.shift 0 (s.ins.shift.prep 0 (virt S As)))):=qF _ (D3 _ (List.mem_flatMap.2 ⟨o,n,jE⟩));have:=ZW this;grind
     ·grind
     ·simp only[zbl d k t,qI,qK,qG]
     ·rw[j];exact UZ (Dp.1 u o n)
     ·exact ZW (qF _ (qF _ (zfw hid)))
   ·rename_i b;rw[b] at a;exact za4 h a
theorem zgk{d:Nat}{As:List (AV C.D)}{S':St C}{Γ:List (Spec C)}(h:vA Γ S d f As=E (.go S'))(a:WR Γ S d f As=E (l,p)):Keeps S S' (E d) l p:=za4 h a
theorem ze9{d:Nat}{cs:List (AV C.D)}{S':St C}(h:zbL S d cs=E (.go S'))(hp:p (nid d 0)=G):Keeps S S' (E d) l p:=by
 let⟨_,h⟩:=zb h;cases h;exact .new hp
theorem zhy{d:Nat}{t:TypeId}{x:Operand}{S':St C}(h:Yb P S d t x hi=E (.go S')):Keeps S S' (E d) (S.op x).hid λi=>zE i (S.op x).hid || V (i / 64) (d+1):=by
 unfold Yb at h;split at h
 ·split at h
  ·split at h
   ·rename_i id a;rw[a];have hid:zE id (AV.hid (.row (D:=C.D) id))=true:=ZW (by simp[AV.hid]);split at h
    ·let⟨_,h⟩:=zb h;split at h
     ·let⟨q,_,h⟩:=gd h;cases h;exact Keeps.trans (.sub hid (by simp only[hid,qK])) (.new (by simp only[Wh,qG]))
     ·cases h
    ·cases h
   ·cases h
  ·cases h
 ·cases h
theorem zbm{d:Nat}{ty t:TypeId}{x:Operand}{S':St C}(h:yF P S d ty t x lo hi=E (.go S')):Keeps S S' (E d) (S.op x).hid λi=>zE i (S.op x).hid || V (i / 64) (d+1):=by
 unfold yF at h;split at h
 ·rename_i id a;let⟨A,_,h⟩:=gd h;cases h;rw[a];have hid:zE id (AV.hid (.row (D:=C.D) id))=true:=ZW (by simp[AV.hid])
  have:=Keeps.frz (d:=E d) (l:=AV.hid (.row (D:=C.D) id)) (p:=λi=>zE i (AV.hid (.row (D:=C.D) id)) || V (i / 64) (d+1)) [id] (S:=S) (λj b=>by
   grind)
  exact Keeps.trans this .put
 ·cases h
theorem zwH{q:Opts}{Γ:List (Spec C)}{n:Nat}{o:Oper}{S':St C}(h:VH q Γ P n o S=E (.go S'))(u:zsM Γ P o S=E (l,p)):Keeps S S' o.dst l p:=by
 let⟨dst,op,ty,ps,af,g⟩:=o;unfold VH at h;unfold zsM at u;cases dst with
 |none=>
  simp only at h u |-
  split at h
  ·rename_i t x y;simp only at u;unfold yx at h;split at h
   ·rename_i ti id off hi w;rw[w] at u;cases u;split at h
    ·let⟨_,h⟩:=zb h;cases h;exact .ent je
    ·cases h
   ·rename_i ti id T i off hi w;rw[w] at u;cases u;refine Keeps.trans (.frz (AV.rows (S.op y)) λj F=>⟨ZW F,by rw[ZW F];simp⟩) ?_;have hx:(S.frz (AV.rows (S.op y))).op x = .pr id T i off\/¬ (S.frz (AV.rows (S.op y))).op x = .pr id T i off:=Classical.em _;have key:∀(S1:St C),(∀id' T' H B,S1.op x = .pr id' T' H B->id'=id)->yx.go x y ti S1=E (.go S')->Keeps S1 S' I (AV.rows (S.op y)) λi=>V i id || zE i (AV.rows (S.op y)):=by
     intro S1 hk h;unfold yx.go at h;split at h
     ·rename_i id' T' H B Q;have:=hk _ _ _ _ Q;subst this;split at h
      ·let⟨_,h⟩:=zb h;let⟨q,_,h⟩:=gd h;let⟨q',_,h⟩:=gd h;cases h;exact .ent je
      ·cases h
     ·cases h
    refine key _ ?_ h;intro id' T' H B e';cases x with
    |const v=>exact absurd w (by cases v<;>(try (intro h;cases h;done))<;>(simp only[St.op,zbF,ZZ];grind))
    |global g=>cases w
    |func f=>cases w
    |tmp D=>
     have e1:S.env D = .pr id T i off:=w;have e2:(S.frz (AV.rows (S.op y))).env D = .pr id' T' H B:=e';have L:∀(r:List Nat) (S1:St C),(∀a b c d,S1.env D = .pr a b c d->a=id)->(∀R,S1.env D=R->(∃a b c d,R = .pr a b c d)\/R = .und)->(∀a b c d,(S1.frz r).env D = .pr a b c d->a=id):=by
      intro r
      induction r with
      |nil=>intro S1 h1 _;exact h1
      |cons j r ih=>
       intro S1 h1 h2;refine ih (S1.frz1 j) ?_ ?_
       ·intro a b c d e;rcases zb4 S1 j with⟨N,e0⟩ | e0
        ·rw[e0] at e;have e:AV.sub j N (S1.env D)=_:=e;rcases h2 _ rfl with⟨a',b',c',d',h⟩ | h
         ·rw[h] at e;unfold AV.sub at e;cases hb:V a' j with
          |true=>grind
          |false=>grind
         ·rw[h] at e;cases e
        grind
       ·intro R e;rcases zb4 S1 j with⟨N,e0⟩ | e0
        ·rw[e0] at e;have e:AV.sub j N (S1.env D)=_:=e;rcases h2 _ rfl with⟨a',b',c',d',h⟩ | h
         ·rw[h] at e;unfold AV.sub at e;cases hb:V a' j with
          |true=>grind
          |false=>grind
         ·rw[h] at e;exact .inr e.symm
        grind
     grind
   ·cases h
  ·rename_i t x y z;simp only at u;let⟨kt,et,id,T,b,s,M,k,h1,h2,w,Z,U,h⟩:=WO h;rw[w] at u;cases u;split at h
   ·cases h;exact .ent je
   ·cases h
  ·rename_i args ts _;simp only at u;split at h
   ·rename_i x y e;rw[e] at u;simp only at u;unfold wI at h;split at h
    ·let⟨kt,et,id,T,b,s,M,k,h1,h2,w,Z,U,h⟩:=WO h;rw[w] at u;cases u;cases h;exact .ent je
    ·cases h
   ·cases h
  ·rename_i x;unfold Xg at h;split at h
   ·let⟨_,h⟩:=zb h;cases h
   ·cases h
  ·cases h
 |some d=>
  simp only at h u |-
  let⟨_,h⟩:=zb h;unfold xA at h;have pan:∀x,Xg S x=E (.go S')->False:=λx h=>by
   unfold Xg at h;split at h
   ·let⟨_,h⟩:=zb h;cases h
   ·cases h
  split at h
  ·cases u;unfold Xf at h;split at h
   ·split at h
    ·split at h
     ·let⟨_,h⟩:=zb h;cases h;exact .new (Wh d)
     ·exact ze9 h (Wh d)
    ·cases h
   ·cases h
  ·cases u;let⟨_,h⟩:=zb h;rw[qV] at h;split at h
   ·let⟨q,_,h⟩:=gd h;cases h;exact .put
   ·exact ze9 h (Wh d)
  ·cases u;unfold w9 at h;split at h
   ·split at h
    ·split at h
     ·let⟨_,h⟩:=zb h;let⟨q,_,h⟩:=gd h;let⟨q',_,h⟩:=gd h;cases h;exact .new (Wh d)
     ·cases h
    ·cases h
   ·cases h
  ·rename_i t m K;cases u;unfold Y6 at h;refine Keeps.trans (.frz _ λj F=>⟨ZW F,by simp only[ZW F,qK]⟩) ?_;generalize S.frz _=S1 at h |-
   unfold Y6.go at h;split at h
   ·split at h
    ·split at h
     ·let⟨_,h⟩:=zb h;let⟨q,_,h⟩:=gd h;cases h;exact .new (by simp only[Wh,qG])
     ·cases h
    ·cases h
   ·cases h
  ·rename_i t x lo hi mx;cases u;split at h
   ·cases h;exact .put
   ·unfold Yc at h;split at h
    ·cases Y:q.fs with
     |true=>rw[Y,Dq] at h;exact zbm h
     |false=>rw[Y,U0] at h;exact zhy h
    ·exact zbm h
    ·cases h
  ·cases u;split at h
   ·cases h;exact .put
   ·cases h
  ·rename_i c args ts _;simp only at u;split at h
   ·rename_i f caps ec;rw[ec] at u;exact zgk (zb h).2 u
   ·cases h
  ·rename_i x X args ts _;simp only at u;unfold WQ at h;split at h
   ·rename_i t A w;rw[w] at u;simp only at u;split at h
    ·rename_i f ef;rw[ef] at u;exact zgk h u
    ·cases h
   ·cases h
  ·rename_i args ts _;simp only at u;split at h
   ·rename_i x y t t' e1 e2;rw[e1] at u;simp only at u;let⟨_,h⟩:=zb h;unfold Ya at h;split at h
    ·split at h
     ·split at h
      ·let⟨_,h⟩:=zb h;split at h
       ·rename_i id w;rw[w] at u;cases u;have hid:zE id [id]=true:=ZW je;split at h
        ·let⟨_,h⟩:=zb h;let⟨q,_,h⟩:=gd h;let⟨q',_,h⟩:=gd h;cases h;exact Keeps.trans (.sub hid jE) (.new (by simp only[Wh,qG]))
        ·cases h
       ·rename_i w;rw[w] at u;cases u;let⟨q,_,h⟩:=gd h;let⟨q',_,h⟩:=gd h;cases h;exact .new (Wh d)
       ·cases h
      ·cases h
     ·cases h
    ·cases h
   ·cases h
  ·cases u;unfold Xy at h;split at h
   ·let⟨_,h⟩:=zb h;cases h;exact .new (Wh d)
   ·cases h
  ·cases u;let⟨kt,et,id,T,b,s,M,k,h1,h2,w,Z,U,h⟩:=WO h;split at h
   ·let⟨_,h⟩:=zb h;cases h;exact .put
   ·cases h
  ·grind
  ·let⟨A,_,h⟩:=D1.1 h;cases h;exact .put
omit [Dfr] in
theorem Keeps.owk{e:Ent C}{d:Uv Nat}(c:zE (xo id) l=G)(hp:p id=G):Keeps S (S.owk id e) d l p:=by
 have a:∀i,V i id=G->zE (xo i) l=true:=λi hi=>by rw[ge hi];exact c
 refine⟨λt _ _ h=>zap a h,λj m h=>?_⟩;show(bif V j id then E e else(S.heap j).map (Ent.knx _))=S.heap j;cases f:V j id with
 |true=>have:=ge f;grind
 |false=>
  simp only[U0];cases hs:S.heap j with
  |none=>rfl
  |some k=>
   rw[hs] at h;cases k with
   |row T s=>rfl
   |obj q T b s=>rfl
   |orow T s g=>rfl
   |cell cs=>show E (Ent.cell (AV.knxs _ cs))=_;rw[XU a h]
def zx0:KN->Uv Nat
 | .st _ _ _=>I
 | .apn d _ _ _ _=>E d
 | .apo d _ _ _ _=>E d
 | .bl d _ _ _ _=>E d
 | .mk d _ _ _=>E d
 | .cy d _ _ _=>E d
theorem zre{op:Op}{k:KN}(h:xd P S dst op=E k):zx0 k=dst:=by
 unfold xd at h;split at h
 ·cases a:zfD S _ _ with
  |true=>rw[a] at h;cases h;rfl
  |false=>grind
 ·split at h
  ·rename_i x y _ _ _ _;cases a:zfC S x with
   |true=>rw[a] at h;cases h;rfl
   |false=>
    rw[a,U0] at h;cases b:isO S y with
    |true=>rw[b] at h;cases h;rfl
    |false=>grind
  ·cases h
 ·split at h
  ·cases a:(C.own (YO P _) && zdJ (zt (S.op _)) (C.nst (YO P _))) with
   |true=>rw[a] at h;cases h;rfl
   |false=>grind
  ·cases h
 ·cases a:C.own (YO P _) with
  |true=>rw[a] at h;cases h;rfl
  |false=>rw[a] at h;cases h
 ·split at h<;>cases h;rfl
 ·cases h
def zdx(S:St C):KN->Uv Tch
 | .st _ x y=>(match S.op x with
  | .pr id T _ off=>E (bif Xb off (zt (S.op y)).length (C.nst T) then xo id::AV.rowss (zt (S.op y)) else [],λi=>V i id || zE i (AV.rowss (zt (S.op y))))
  | .nx id _ _ _=>E ([],λi=>V i id)
  |_=>I)
 | .apn d _ _ x _=>(match S.op x with
  | .nx id _ _ _=>E ([xo id,nid d 1],λi=>V i id || V (i / 64) (d+1))
  |_=>I)
 | .apo d _ _ x y=>(match S.op x,S.op y with
  | .row id,.row a=>E ([id,a],λi=>zE i [id,a] || V (i / 64) (d+1))
  | .nils,.row a=>E ([a],λi=>zE i [a] || V (i / 64) (d+1))
  |_,_=>I)
 | .bl d _ _ _ y=>E (AV.rowss (zt (S.op y)),λi=>zE i (AV.rowss (zt (S.op y))) || V (i / 64) (d+1))
 | .mk d _ _ _=>E ([],λi=>V (i / 64) (d+1))
 | .cy _ _ x _=>(match S.op x with
  | .nx id _ _ _=>E ([],λi=>V i id)
  |_=>I)
theorem zhz{D:Nat->Type}:∀{cs:List (AV D)}{k:Nat},cs[k]?=E (.row id)->id∈AV.rowss cs
 |A::cs,0,h=>by
  simp at h;subst h;simp[AV.rowss,AV.rows]
 |A::cs,k+1,h=>by
  have:=zhz (cs:=cs) (k:=k) (by simpa using h);simp only[AV.rowss,Ux];grind
 |[],k,h=>by simp at h
theorem zfa{s:Sl (C.D T0)}{g:Own}{i:Int}{cells:List (AV C.D)}{S':St C}(h:wC S id T0 s g i off cells E=E (.go S'))(b:zE (xo id) l=G)(hp:p id=G)(e:∀a,a∈AV.rowss cells->zE a l=G/\p a=G){d:Uv Nat}:Keeps S S' d l p:=by
 unfold wC at h;simp only[vl] at h;split at h
 ·rename_i a j;split at h
  ·let⟨_,h⟩:=zb h;let⟨q,_,h⟩:=gd h;let⟨g',_,h⟩:=gd h;let⟨q',_,h⟩:=gd h;cases h;let⟨c,f⟩:=e a (zhz j);exact Keeps.trans (.sub c f) (.owk b hp)
  ·cases h
 ·let⟨q,_,h⟩:=gd h;split at h
  ·let⟨g',_,h⟩:=gd h;let⟨q',_,h⟩:=gd h;cases h;exact .owk b hp
  ·cases h
 ·cases h
theorem zdy{gid d:Nat}{t:TypeId}{x y:Operand}{S':St C}(h:Ya P S d t x y=E (.go S'))(a:S.op x = .row gid)(b:zE gid l=G)(hp:p gid=G)(hd:p (nid d 0)=G):Keeps S S' (E d) l p:=by
 unfold Ya at h;split at h
 ·split at h
  ·split at h
   ·let⟨_,h⟩:=zb h;rw[a] at h;simp only at h;split at h
    ·let⟨_,h⟩:=zb h;let⟨_,_,h⟩:=gd h;let⟨_,_,h⟩:=gd h;cases h;exact Keeps.trans (.sub b hp) (.new hd)
    ·cases h
   ·cases h
  ·cases h
 ·cases h
theorem zx1(d:Nat):V (nid d 1 / 64) (d+1)=true:=by rw[zbl d 1 Zd];simp
theorem zoq{k:KN}{S':St C}(h:W3 P S k=E (.go S'))(a:zdx S k=E (l,p)):Keeps S S' (zx0 k) l p:=by
 cases k with
 |st t x y=>
  simp only[W3] at h;simp only[zdx] at a;unfold xR XD at h;split at h
  ·rename_i ti id T i off hi b;rw[b] at a;cases a;split at h
   ·rename_i T' s g hs;let⟨c,h⟩:=zb h;simp only[gf] at c;obtain rfl:=ge c.1;cases r:Xb off (zt (S.op y)).length (C.nst T) with
    |true=>
     rw[r] at h;simp only[Dq] at h |-
     exact zfa h (by simp[zE]) je λn h2=>⟨by simp[zE,ZW h2],by simp[ZW h2]⟩
    |false=>
     rw[r] at h;simp only[U0] at h |-
     let⟨q,_,h⟩:=gd h;let⟨q',_,h⟩:=gd h;cases h;exact .ent je
   ·rename_i T' s hs;let⟨c,h⟩:=zb h;simp only[gf] at c;obtain rfl:=ge c.1;rw[c.2.2];simp only[Dq];exact zfa h (by simp[zE]) je λn h2=>⟨by simp[zE,ZW h2],by simp[ZW h2]⟩
   ·cases h
  ·rename_i ti id T i U k off hi b;rw[b] at a;cases a;split at h
   ·let⟨_,h⟩:=zb h;let⟨q,_,h⟩:=gd h;split at h
    ·let⟨_,h⟩:=zb h;let⟨_,_,h⟩:=gd h;let⟨_,_,h⟩:=gd h;let⟨_,_,h⟩:=gd h;cases h;exact .ent je
    ·cases h
   ·cases h
  ·cases h
 |cy d ts x y=>
  simp only[W3] at h;simp only[zdx] at a;unfold Wo W1 at h;split at h
  ·split at h
   ·split at h
    ·rename_i ti id T i n D i2 hi b A;rw[b] at a;cases a;split at h
     ·let⟨_,h⟩:=zb h;let⟨_,_,h⟩:=gd h;let⟨_,_,h⟩:=gd h;split at h
      ·let⟨_,h⟩:=zb h;let⟨_,_,h⟩:=gd h;let⟨_,_,h⟩:=gd h;cases h;exact Keeps.trans (.ent je) .put
      ·cases h
     ·cases h
    ·cases h
   ·cases h
  ·cases h
 |apn d t t' x y=>
  simp only[W3] at h;simp only[zdx] at a;have h:=(zb h).2;unfold Wl at h;cases x with
  |const v=>cases h
  |global g=>cases h
  |func f=>cases h
  |tmp o=>
   simp only at h;split at h
   ·rename_i id T i b;have a:(match S.env o with | .nx id _ _ _=>E ([xo id,nid d 1],λi=>V i id || V (i / 64) (d+1)) | _=>I)=E (l,p):=a;rw[b] at a;cases a;unfold Wk at h;split at h
    ·let⟨c,h⟩:=zb h;simp only[gf] at c;let⟨_,_,h⟩:=gd h;split at h
     ·have B:=zdy (gid:=nid d 1) (l:=[xo id,nid d 1]) (p:=λi=>V i id || V (i / 64) (d+1)) h (by show upd S.env o _ o=_;rw[zp]) (by simp[zE]) (by simp[zx1]) (by simp[Wh]);refine Keeps.trans ⟨λt a hd w=>?_,λj u _=>?_⟩ B
      ·show upd S.env o _ t=S.env t;by_cases e:t=o
       ·subst e;rw[b] at w;simp[AV.avoid,zE] at w
       ·rw[zq e]
      ·show upd (upd S.heap id _) (nid d 1) _ j=S.heap j;rw[zq λe=>by subst e;simp[zx1] at u,zq λe=>by subst e;simp at u]
     ·cases h
    ·cases h
   ·cases h
 |apo d t t' x y=>
  simp only[W3] at h;simp only[zdx] at a;let⟨_,h⟩:=zb h;unfold Wn W0 at h;split at h
  ·split at h
   ·split at h
    ·let⟨_,h⟩:=zb h;split at h
     ·rename_i n A;rw[A] at a;split at h
      ·split at h
       ·rename_i id b;rw[b] at a;cases a;split at h
        ·let⟨_,h⟩:=zb h;let⟨_,_,h⟩:=gd h;let⟨_,_,h⟩:=gd h;cases h;exact Keeps.trans (.sub (by simp[zE]) (by simp[zE])) (Keeps.trans (.sub (by simp[zE]) (by simp[zE])) (.new (by simp[Wh])))
        ·cases h
       ·rename_i b;rw[b] at a;cases a;let⟨_,_,h⟩:=gd h;let⟨_,_,h⟩:=gd h;cases h;exact Keeps.trans (.sub (by simp[zE]) (by simp[zE])) (.new (by simp[Wh]))
       ·cases h
      ·cases h
     ·cases h
    ·cases h
   ·cases h
  ·cases h
 |bl d t i m y=>
  simp only[W3] at h;simp only[zdx] at a;cases a;let⟨_,h⟩:=zb h;unfold xT XF at h;split at h
  ·split at h
   ·split at h
    ·let⟨_,h⟩:=zb h;split at h
     ·rename_i n c;split at h
      ·let⟨_,_,h⟩:=gd h;cases h;have z:=ZW (zhz c);exact Keeps.trans (.sub z (by simp[z])) (.new (by simp[Wh]))
      ·cases h
     ·cases h
    ·cases h
   ·cases h
  ·cases h
 |mk d t x y=>
  simp only[W3] at h;simp only[zdx] at a;cases a;unfold XW wK at h;split at h
  ·split at h
   ·split at h
    ·let⟨_,h⟩:=zb h;split at h
     ·let⟨_,_,h⟩:=gd h;split at h
      ·let⟨_,h⟩:=zb h;let⟨_,_,h⟩:=gd h;cases h;exact .new (by simp[Wh])
      ·cases h
     ·cases h
    ·cases h
   ·cases h
  ·cases h
def tch(Γ:List (Spec C))(P:Program)(o:Oper)(S:St C):Uv Tch:=match xd P S o.dst o.op with
 |some k=>zdx S k
 |none=>zsM Γ P o S
theorem zrf{q:Opts}{Γ:List (Spec C)}{n:Nat}{o:Oper}{S':St C}(h:stp q Γ P n o S=E (.go S'))(a:tch Γ P o S=E (l,p)):Keeps S S' o.dst l p:=by
 unfold stp at h;unfold tch at a;cases b:xd P S o.dst o.op with
 |some k=>
  rw[b] at h a;let⟨_,h⟩:=zb h;rw[<- zre b];exact zoq h a
 |none=>rw[b] at h a;exact zwH h a
end
variable [Dfr]
def zbn:List Operand->List Nat
 |[]=>[]
 | .tmp t::r=>t::zbn r
 |_::r=>zbn r
theorem zb6{t:Nat}:∀{l:List Operand},Operand.tmp t∈l->t∈zbn l
 |x::r,h=>by
  rcases UU.1 h with h | h
  ·subst h;simp[zbn]
  ·have:=zb6 h;cases x<;>simp[zbn,this]
def ww(ops:Array Oper)(o:Oper):List Nat:=match o.guard with
 |none=>[]
 |some (j,_)=>match(ops[j]?).bind (·.dst) with
  |some d=>[d]
  |none=>[]
def looks(ops:Array Oper)(o:Oper):List Nat:=zbn o.op.operands.toList++ww ops o
def zG(o:Oper):List Nat:=(o.after.toList.filter (qN .any)).map (·.on)
theorem zor{o:Oper}{e:Edge}(h:e∈o.after)(hb:qN .any e=G):e.on∈zG o:=Dw.2 ⟨e,Dz.2 ⟨by simpa using h,hb⟩,rfl⟩
def zb7(l cl:List Nat):Bool:=l.all λj=>zE j cl
def zej:List (Nat×Nat)->Nat->Nat
 |[],_=>0
 |(i,m)::r,j=>bif V i j then m else zej r j
def Yd(al:List (Nat×Nat)):List Nat->Nat
 |[]=>0
 |j::ds=>qT (qT (qH 1 j) (zej al j)) (Yd al ds)
section
variable {C:Cod}{ρ:Type}
def zgl(S:St C)(l:List Nat)(dst:Uv Nat)(t:Nat):Bool:=(S.env t).avoid l && (qb t vB && (match dst with | some d=> !V t d | none=>G))
def zgm(ops:Array Oper)(S:St C)(l:List Nat)(p:Nat->Bool)(dst:Uv Nat)(r:Nat):Bool:=match ops[r]? with
 |some q=>(looks ops q).all (zgl S l dst) && ((match q.dst with | some d=>zgl S l dst d | none=>G) && (zft S q.op).all λid=> !p id && zkI l (S.heap id))
 |none=>G
def zdz(S:St C)(l:List Nat):St C:={S with env:=λt=>bif zE t l then .und else S.env t}
def zx2(ops:Array Oper):List Nat:=ops.toList.filterMap (·.dst)
def WS(ops:Array Oper)(n:Nat)(cl:List Nat)(taken:List Nat)(i:Nat)(o:Oper):Bool:=match o.dst with
 |none=>G
 |some d=>qb d n && (qb d vB && (!zE d (looks ops o) &&
     ((qy ops.size).all λj=>V j i || (match ops[j]? with
       |none=>G
       |some q=>(bif zE j cl then(!zE j taken || !zE d (looks ops q)) else(!zE d (looks ops q) || zE i (zG q))) && (match q.dst with
           |some a=> !V d a
           |none=>G)))))
def flB(C:Cod)(P:Program)(ops:Array Oper)(n j:Nat):Bool:=match ops[j]? with
 |none=>O
 |some o=>(match o.dst,o.op,o.guard with
  |some d,.alloc t,I=>(match P.info? t with
   |some ti=>(match ti.zero with
    |some c=>(match C.oal t c.cells.toList with
     |none=>qb d n && (qb d vB && (qy ops.size).all λa=>V a j || (match ops[a]? with
         |none=>G
         |some q=>(!zE d (looks ops q) || zE j (zG q)) && (match q.dst with
          |some b=> !V d b
          |none=>G)))
     |some _=>O)
    |none=>O)
   |none=>O)
  |_,_,_=>O)
def WT(C:Cod)(P:Program)(ops:Array Oper)(n:Nat):List Nat:=(qy ops.size).filter (flB C P ops n)
def rmL(i:Nat)(l:List Nat):List Nat:=l.filter λj=> !V j i
def zos(ops:Array Oper)(fl cl:List Nat)(i:Nat):Bool:=(qy ops.size).all λj=>V j i || (zE j fl || (zE j cl || (match ops[j]? with
 |none=>G
 |some q=> !zb7 (zG q) (rmL i fl++cl))))
def zrg(ops:Array Oper)(fl cl:List Nat)(i i2:Nat):Bool:=(qy ops.size).all λj=>(V j i || V j i2) || (zE j fl || (zE j cl || (match ops[j]? with
 |none=>G
 |some q=> !zb7 (zG q) (rmL i (rmL i2 fl)++cl))))
open Classical in
noncomputable def Yf(a b:Uv α):Uv α:=if a=b then a else I
theorem ZJ(a:Uv α):Yf a a=a:=by unfold Yf;grind
theorem za5{a b:Uv α}{r:α}(h:Yf a b=E r):a=E r/\b=E r:=by
 unfold Yf at h;grind
def yH(stp:yQ C)(a:Oper->St C->Uv Tch)(P:Program)(n:Nat)(ops:Array Oper)(okB:Bool)(cl taken:List Nat)(m:Nat)(K:XE C->St C->Uv ρ)(i:Nat)(early:Bool)(o:Oper)(run:Bool)(S:St C)(next:St C->List Nat->Uv ρ):Uv ρ:=
 bif early then chk (WS ops n cl taken i o) (bif run then(match o.dst with
     |some d=>chk (rdQ o.op) (zsE P S o.type o.op λA=>next (S.put d A) (i::taken))
     |none=>I)
  else(match o.dst with
   |some d=>next (S.put d (.tup [])) (i::taken)
   |none=>next S (i::taken)))
 else chk okB (bif run then(match a o S with
     |none=>I
     |some (l,p)=>chk (taken.all λr=>qc m r || zgm ops S l p o.dst r) (stp o S _ λout=>match out with
      | .go S'=>next S' taken
      | .pan v S'=>K (.pan v) (zdz S' (zx2 ops))))
  else chk (taken.all λr=>qc m r || zgm ops S [] (λ_=>O) o.dst r) (match o.dst with
   |some d=>chk (qb d n) (next (S.put d (.tup [])) taken)
   |none=>next S taken))
def xB(stp:yQ C)(b:Oper->St C->Uv Tch)(P:Program)(n:Nat)(ops:Array Oper)(okB:Bool)(i:Nat)(early:Bool)(cl taken:List Nat)(al:List (Nat×Nat))(S:St C)(K:XE C->St C->Uv ρ)(next:List Nat->List Nat->List (Nat×Nat)->St C->Uv ρ):Uv ρ:=match ops[i]? with
    |none=>I
    |some o=>chk (!zE i cl && zb7 (zG o) cl) (match o.guard with
     |none=>yH stp b P n ops okB cl taken (Yd al (zG o)) K i early o G S λS tk=>next (i::cl) tk ((i,Yd al (zG o))::al) S
     |some (j,a)=>chk (zE j (zG o)) (match(ops[j]?).bind (·.dst) with
      |none=>I
      |some c=>match S.env c with
       | .bool q=>if q=G then yH stp b P n ops okB cl taken (Yd al (zG o)) K i early o a (S.put c (.bool G)) (λS tk=>next (i::cl) tk ((i,Yd al (zG o))::al) S)
           else yH stp b P n ops okB cl taken (Yd al (zG o)) K i early o (!a) (S.put c (.bool O)) (λS tk=>next (i::cl) tk ((i,Yd al (zG o))::al) S)
       | .tup []=>yH stp b P n ops okB cl taken (Yd al (zG o)) K i early o O S λS tk=>next (i::cl) tk ((i,Yd al (zG o))::al) S
       |_=>I))
def wd(ops:Array Oper)(cl:List Nat)(i:Nat):Bool:=match ops[i]? with
 |some o=> !zE i cl && zb7 (zG o) cl
 |none=>O
noncomputable def ZN(stp:yQ C)(a:Oper->St C->Uv Tch)(P:Program)(n:Nat)(ops:Array Oper):List (Nat×Bool)->List Nat->List Nat->List (Nat×Nat)->St C->(XE C->St C->Uv ρ)->Uv ρ
 |[],cl,taken,al,S,K=>chk (zb7 (qy ops.size) cl) (K .normal S)
 |(i,early)::ord,cl,taken,al,S,K=>bif qb i 4096 then
     (bif wd ops cl i then xB stp a P n ops (zos ops (WT C P ops n) cl i) i early cl taken al S K λcl tk al S=>ZN stp a P n ops ord cl tk al S K
     else ZN stp a P n ops ord cl taken al S K)
   else bif wd ops cl ((i - 4096) / 64) && wd ops cl ((i - 4096) % 64) then chk (zrg ops (WT C P ops n) cl ((i - 4096) / 64) ((i - 4096) % 64)) (Yf
    (xB stp a P n ops G ((i - 4096) / 64) O cl taken al S K λcl tk al S=>ZN stp a P n ops ord cl tk al S K)
    (xB stp a P n ops G ((i - 4096) % 64) O cl taken al S K λcl tk al S=>ZN stp a P n ops ord cl tk al S K))
   else ZN stp a P n ops ord cl taken al S K
end
variable [Dfr]
section
variable {κ:Kp}{C:Cod}{S S1:St C}{n:Nat}{w0:Start}{σ0:FS}{P:Program}{ρ:Type}{ops:Array Oper}{D:Nat->Prop}{Γ:List (Spec C)}{qo:Opts}
def Xl(ops:Array Oper)(S:St C)(q:Oper)(run:Bool):Prop:=match q.guard with
 |none=>run=G
 |some (j,a)=>∃c,(ops[j]?).bind (·.dst)=E c/\((∃b,S.env c = .bool b/\run=(b == a))\/(S.env c = .tup []/\run=O))
def QV(P:Program)(ops:Array Oper)(S:St C)(q:Oper):Prop:=∃run,Xl ops S q run/\match run with
 |true=>rdQ q.op=G/\∃d,q.dst=E d/\evQ P S q.type q.op=E (S.env d)
 |false=>∀d,q.dst=E d->S.env d = .tup []
theorem Xl.congr(h:Xl ops S q run)(a:∀t∈ww ops q,S1.env t=S.env t):Xl ops S1 q run:=by
 unfold Xl ww at *
 cases c:q.guard with
 |none=>grind
 |some d=>
  let⟨j,b⟩:=d;rw[c] at h a;simp only at h a |-
  grind
theorem vj{t:Nat}(h:t∈ww ops q):t∈looks ops q:=qF _ h
theorem zdA{ty:TypeId}(h:∀t∈looks ops q,S1.env t=S.env t)(d:∀id∈zft S q.op,S1.heap id=S.heap id):evQ P S1 ty q.op=evQ P S ty q.op:=by
 have b:∀x∈q.op.operands.toList,S.op x=S1.op x:=λx c=>by
  cases x with
  |tmp t=>exact(h t (D3 _ (zb6 c))).symm
  |const v=>rfl
  |global g=>rfl
  |func f=>rfl
 unfold evQ;split
 ·rename_i t m a e;rw[e] at b;have:∀e,Yz S1 e (a.toList.map (·.2))=Yz S e (a.toList.map (·.2)):=λe=>zgf (S:=S1) (T:=S) λx c=>(b x (by simpa[W] using c)).symm
  unfold zds;grind
 ·exact(zm4 (S:=S) (T:=S1) b λid hid=>(d id hid).symm).symm
theorem QV.congr(h:QV P ops S q)(a:∀t∈looks ops q,S1.env t=S.env t)(hd:∀d,q.dst=E d->S1.env d=S.env d)(e:∀id∈zft S q.op,S1.heap id=S.heap id):QV P ops S1 q:=by
 let⟨run,c,h⟩:=h;refine⟨run,c.congr λt b=>a t (vj b),?_⟩;cases run with
 |true=>
  let⟨h1,d,h2,f⟩:=h;exact⟨h1,d,h2,by rw[zdA a e,f,hd d h2]⟩
 |false=>grind
theorem zdB{t:Nat}(b:Keeps S S1 dst l p)(h:zgl S l dst t=G):S1.env t=S.env t:=by
 simp only[zgl,gf] at h;let⟨h1,h2,a⟩:=h;refine b.env t (by rwa [UT] at h2) (λe=>?_) h1;rw[e] at a;simp at a
omit [Dfr] in
theorem QV.keep{r:Nat}(h:QV P ops S q)(b:Keeps S S1 dst l p)(c:ops[r]?=E q)(a:zgm ops S l p dst r=G):QV P ops S1 q:=by
 unfold zgm at a;rw[c] at a;simp only[gf] at a;let⟨h1,h2,g⟩:=a;refine h.congr (λt f=>zdB b (Dp.1 h1 t f)) (λd e=>?_) λid hid=>?_
 ·rw[e] at h2;exact zdB b h2
 ·have:=Dp.1 g id hid;simp only[gf,Do] at this;exact b.heap id this.1 this.2
theorem Xl.wanted(h:Xl ops S q run)(hA:At n w0 σ0 κ S a w):qB q (yielded ops a.tmps)=run:=by
 unfold Xl at h;unfold qB;cases d:q.guard with
 |none=>grind
 |some g=>
  let⟨j,c⟩:=g;rw[d] at h;simp only at h |-
  let⟨i,e,h⟩:=h;have f:=hA.yield e;rcases h with⟨b,h1,h2⟩ | ⟨h1,h2⟩
  ·rw[f.1 b h1,h2];simp
  grind
theorem At.eqx(h:At n w0 σ0 κ S a w)(e:EqX (λ_=>False) S S1):At n w0 σ0 κ S1 a w:=by
 have:S=S1:=by
  let⟨b,h1⟩:=S;let⟨d,h2⟩:=S1;have c:h1=h2:=e.heap;have a2:b=d:=funext λt=>e.env t λh=>h
  rw[c,a2]
 grind
theorem zsN (N:C.gl w0.w σ0) (X:∀s∈Γ,s.OK P) {r:Nat}{So:St C}(T:ops[r]?=E q) (hA:At n w0 σ0 κ So a w) (j:EqX D So S) (l:QV P ops S q) (B:∀t∈looks ops q,¬ D t) (F:∀d,q.dst=E d->qb d n=G) 
    (y:∀S1 a' w',At n w0 σ0 κ S1 a' w'->EqX (λt=>D t/\q.dst≠E t) S1 S->K a' w'):wpOp P ops Q r K a w:=by
 let⟨run,Y,l⟩:=l;have m:Xl ops So q run:=Y.congr λt f=>j.env t (B t (vj f))
 have c:∀d A,q.dst=E d->S.env d=A->EqX (λt=>D t/\q.dst≠E t) (So.put d A) S:=λd A e U=>⟨j.heap,λt f=>by
  show upd So.env d A t=S.env t;by_cases h:t=d
  ·subst h;rw[zp,U]
  · rw[zq h]
    exact j.env t λhd=>f ⟨hd,λe'=>h jE⟩⟩
 unfold wpOp;rw[T];simp only[m.wanted hA];cases run with
 |true=>
  simp only[jq];left;let⟨R,d,hd,H⟩:=l;let⟨L,b,Z,PV,i,hi,hf⟩:=hA;have x:evQ P So q.type q.op=E (S.env d):=by
   rw[<- H];exact zdA (ops:=ops) (λt f=>j.env t (B t f)) λid _=>by rw[j.heap]
  let⟨ν,vs,ids,i⟩:=i;have k:=zxU (P:=P) (n:=n) (w0:=w0) (σ0:=σ0) (q:=⟨O⟩) (Γ:=Γ) (ps:=q.pos) (af:=q.after) (g:=q.guard) i (F d hd) R x;have u:q=⟨E d,q.op,q.type,q.pos,q.after,q.guard⟩:=by
   cases q;grind
  rw[<- u] at k;refine k _ rfl a w hi hf K Q ?_ ?_
  ·intro S' e L' M o a' w' p z v;cases e;exact y _ _ _ ⟨L',b,M,o,v,p,z⟩ (c d _ hd rfl)
  grind
 |false=>
  simp only[jk,jp];cases hd:q.dst with
  |none=>
   refine y So _ _ hA ⟨j.heap,λt f=>j.env t λh=>f ⟨h,by rw[hd];simp⟩⟩
  |some d=>exact y _ _ _ (hA.skip (F d hd)) (c d _ hd (l d hd))
def WfL(ops:Array Oper):List Nat->Prop
 |[]=>True
 |i::cl=>(∀o,ops[i]?=E o->∀j∈zG o,j∈cl)/\WfL ops cl
def zgn(ops:Array Oper)(al:List (Nat×Nat)):Prop:=∀i m,(i,m)∈al->∀o,ops[i]?=E o->∀X:Nat->Prop,(∀k q,ops[k]?=E q->X k->∀j∈zG q,X j)->(∀j,X j->j < ops.size)->X i->∀a,qc m a=G->X a
theorem ziw:∀{al:List (Nat×Nat)}{j a:Nat},qc (zej al j) a=G->∃m,(j,m)∈al/\qc m a=G
 |[],j,a,h=>by simp[zej] at h
 |(i,m)::r,j,a,h=>by
  unfold zej at h;cases e:V i j with
  |true=>rw[e] at h;have:=ge e;grind
  |false=>
   rw[e] at h;let⟨b,h1,h2⟩:=ziw h;grind
theorem zkJ{a:Nat}(h:qc (qH 1 j) a=G):a=j:=by
 have h:qc (1 <<< j) a=true:=h;rw[Nat.one_shiftLeft,Nat.testBit_two_pow] at h;grind
theorem zek{al:List (Nat×Nat)}(c:zgn ops al)(X:Nat->Prop)(e:∀k q,ops[k]?=E q->X k->∀j∈zG q,X j)(b:∀j,X j->j < ops.size):∀{ds:List Nat},(∀j∈ds,X j)->∀a,qc (Yd al ds) a=G->X a
 |[],_,a,h=>by simp[Yd] at h
 |j::ds,hd,a,h=>by
  have h:qc (((qH 1 j) ||| (zej al j)) ||| (Yd al ds)) a=true:=h;rw[qS,qS,UH,UH] at h;rcases h with(h | h) | h
  ·rw[zkJ h];grind
  ·let⟨m,h1,h2⟩:=ziw h;have d:=hd j je;obtain⟨o,g⟩:∃o,ops[j]?=E o:=⟨ops[j]'(b j d),qM _⟩
   exact c j m h1 o g X e b d a h2
  ·exact zek c X e b (λk f=>hd k (Du _ f)) a h
end
variable [Dfr]
abbrev onX(X:Array Bool)(k:Nat):Bool:=X.getD k O
theorem zfx{X:Array Bool}(h:i < X.size):onX (X.setIfInBounds i G) i=true:=by
 unfold onX;rw[Uz];simp[h]
theorem Wi{X:Array Bool}(h:i≠k):onX (X.setIfInBounds i G) k=onX X k:=by
 unfold onX;rw[Uz,qX h,<- Uz]
theorem Y8{X:Array Bool}(h:onX X k=G):onX (X.setIfInBounds i G) k=true:=by
 by_cases e:i=k
 ·subst e;rcases Nat.lt_or_ge i X.size with z | z
  ·exact zfx z
  grind
 ·rw[Wi e];exact h
theorem YN{X:Array Bool}(h:onX (X.setIfInBounds i G) k=O):onX X k=false:=by
 cases e:onX X k with
 |false=>rfl
 |true=>rw[Y8 e] at h;cases h
theorem zhA{X:Array Bool}(hi:i < X.size)(h:onX X i=O){a:Nat}(b:X.toList.count O<=a+1):(X.setIfInBounds i G).toList.count O<=a:=by
 rw[Array.toList_setIfInBounds,List.count_set (by simpa using hi)];have h0:X.toList[i]'(by simpa using hi)=false:=by
  unfold onX at h;rw[Uz] at h;grind
 grind
theorem zna{X:Array Bool}(hi:i < X.size)(h:onX X i=O):0 < X.toList.count false:=by
 rw[List.count_pos_iff];have h0:X.toList[i]'(by simpa using hi)=false:=by
  unfold onX at h;rw[Uz] at h;grind
 grind
section
variable {Fx:List Nat}{κ:Kp}{C:Cod}{S S':St C}{n:Nat}{w0:Start}{σ0:FS}{P:Program}{ρ:Type}{ops:Array Oper}{Γ:List (Spec C)}{qo:Opts}{cl taken:List Nat}{al:List (Nat×Nat)}{X:Array Bool}
structure Cfg(P:Program)(ops:Array Oper)(n:Nat)(cl taken:List Nat)(al:List (Nat×Nat))(S:St C)(X:Array Bool)(Fx:List Nat):Prop where
 size:X.size=ops.size
 sub:∀i,onX X i=G->i∈cl\/i∈Fx
 fon:∀i∈Fx,onX X i=G/\i ∉ cl
 wf:WfL ops cl
 tk:∀i∈cl,onX X i=O->i∈taken
 inc:∀i∈cl,i < ops.size
 tcl:∀i∈taken,i∈cl
 closed:∀k q,ops[k]?=E q->onX X k=G->∀j∈zG q,onX X j=G
 qv:∀r q,r∈taken->onX X r=O->ops[r]?=E q->QV P ops S q
 ds:∀r q d,r∈taken->onX X r=O->ops[r]?=E q->q.dst=E d->qb d n=G/\d < vB/\d ∉ looks ops q/\∀j o,ops[j]?=E o->j≠r->(onX X j=O->d∈looks ops o->r∈zG o)/\o.dst≠E d
 anc:zgn ops al
def zot(ops:Array Oper)(taken:List Nat)(X:Array Bool)(t:Nat):Prop:=∃r q,r∈taken/\onX X r=O/\ops[r]?=E q/\q.dst=E t
theorem Cfg.hit(h:Cfg P ops n cl taken al S X Fx)(hi:i∈cl)(hd:∀q,ops[i]?=E q->∀j∈zG q,onX X j=G):Cfg P ops n cl taken al S (X.setIfInBounds i G) Fx where
 size:=by simp[h.size]
 sub k hk:=by
  by_cases e:i=k
  ·grind
  ·rw[Wi e] at hk;exact h.sub k hk
 fon k hk:=⟨Y8 (h.fon k hk).1,(h.fon k hk).2⟩
 wf:=h.wf
 tk k hk f:=h.tk k hk (YN f)
 inc:=h.inc
 tcl:=h.tcl
 closed k q a hk j b:=by
  by_cases e:i=k
  ·subst e;exact Y8 (hd q a j b)
  ·rw[Wi e] at hk;exact Y8 (h.closed k q a hk j b)
 qv r q g f a:=h.qv r q g (YN f) a
 ds r q d g f a m:=by
  let⟨h1,h2,p,l⟩:=h.ds r q d g (YN f) a m;exact⟨h1,h2,p,λj o b c=>⟨λk=>(l j o b c).1 (YN k),(l j o b c).2⟩⟩
 anc:=h.anc
omit [Dfr] in
theorem zgn.add(h:zgn ops al){o:Oper}(g:ops[i]?=E o):zgn ops ((i,Yd al (zG o))::al):=by
 intro j m l q c Y d b f a k;rcases UU.1 l with e | e
 ·cases e;rw[g] at c;cases c;exact zek h Y d b (d i o g f) a k
 ·exact h j m e q c Y d b f a k
theorem Cfg.sync(h:Cfg P ops n cl taken al S X Fx){o:Oper}(p:ops[i]?=E o)(hi:i ∉ cl)(x:i ∉ Fx)(hd:∀j∈zG o,j∈cl)(s:∀j∈zG o,onX X j=G)(c:∀r q,r∈taken->onX X r=O->ops[r]?=E q->QV P ops S' q):Cfg P ops n (i::cl) taken ((i,Yd al (zG o))::al) S' (X.setIfInBounds i G) Fx where
 size:=by simp[h.size]
 sub k b:=by
  by_cases e:i=k
  ·subst e;simp
  ·rw[Wi e] at b;exact(h.sub k b).imp_left (Du _)
 fon k b:=⟨Y8 (h.fon k b).1,λu=>by
  rcases UU.1 u with e | e
  ·grind
  ·exact(h.fon k b).2 e⟩
 wf:=⟨λo' t j f=>jE,h.wf⟩
 tk k b a:=by
  rcases UU.1 b with e | e
  ·subst e;rw[zfx (by rw[h.size];grind)] at a;cases a
  ·exact h.tk k e (YN a)
 inc k b:=by
  rcases UU.1 b with e | e
  ·grind
  ·exact h.inc k e
 tcl k b:=Du _ (h.tcl k b)
 closed k q c b j f:=by
  by_cases e:i=k
  ·subst e;rw[p] at c;cases c;exact Y8 (s j f)
  ·rw[Wi e] at b;exact Y8 (h.closed k q c b j f)
 qv r q l a hq':=c r q l (YN a) hq'
 ds r q d l a c v:=by
  let⟨h1,h2,w,m⟩:=h.ds r q d l (YN a) c v;exact⟨h1,h2,w,λj o f g=>⟨λk=>(m j o f g).1 (YN k),(m j o f g).2⟩⟩
 anc:=h.anc.add p
omit [Dfr] in
theorem Cfg.early (h:Cfg P ops n cl taken al S X Fx) {o:Oper}(A:ops[i]?=E o) (hi:i ∉ cl) (C:i ∉ Fx) (hd:∀j∈zG o,j∈cl) (u:WS ops n cl taken i o=G) (K:QV P ops S' o) (B:∀t,o.dst≠E t->S'.env t=S.env t) (F:S'.heap=S.heap) :
    Cfg P ops n (i::cl) (i::taken) ((i,Yd al (zG o))::al) S' X Fx:=by
 have s:∀d,o.dst=E d->qb d n=G/\d < vB/\d ∉ looks ops o/\∀j q,ops[j]?=E q->j≠i->(j∈cl->j∈taken->d ∉ looks ops q)/\(j ∉ cl->d∈looks ops q->i∈zG q)/\q.dst≠E d:=λd e=>by
  unfold WS at u;rw[e] at u;simp only[gf,Do] at u;let⟨h1,h2,w,v⟩:=u;refine⟨h1,by rwa [UT] at h2,λf=>(by rw[zR.2 f] at w;cases w),λj q l b=>?_⟩;have:=Dp.1 v j (D0.2 (U1.1 l).1);rw[l] at this;simp only[UH,gf] at this;rcases this with z | ⟨z1,z2⟩
  ·exact absurd (ge z) b
  · refine⟨λp x f=>?_,λp f=>?_,λe'=>?_⟩
    ·rw[zR.2 p,Dq,zR.2 x,zR.2 f] at z1;cases z1
    · have:zE j cl=false:=by
        cases e:zE j cl with
        |false=>rfl
        |true=>exact absurd (zR.1 e) p
      rw[this,U0,zR.2 f] at z1;exact zR.1 (by simpa using z1)
    ·rw[e'] at z2;simp at z2
 refine⟨h.size,λk c=>(h.sub k c).imp_left (Du _),λk c=>⟨(h.fon k c).1,λf=>(by
  rcases UU.1 f with e | e
  ·grind
  ·exact(h.fon k c).2 e)⟩,⟨λo' D j l=>jE,h.wf⟩,λk c a=>?_,λk c=>?_,λk c=>?_,h.closed,λr q y a m=>?_,λr q d y a m e=>?_,h.anc.add A⟩
 · rcases UU.1 c with e | e
   ·subst e;simp
   ·exact Du _ (h.tk k e a)
 · rcases UU.1 c with e | e
   ·grind
   ·exact h.inc k e
 · rcases UU.1 c with e | e
   ·subst e;simp
   ·exact Du _ (h.tcl k e)
 · rcases UU.1 y with e | e
   ·grind
   · have b:r≠i:=λe'=>hi (e' ▸ h.tcl r e)
     refine(h.qv r q e a m).congr (λt x=>?_) (λd H=>?_) λid _=>by rw[F]
     ·exact B t λe'=>((s t e').2.2.2 r q m b).1 (h.tcl r e) e x
     grind
 · rcases UU.1 y with e' | e'
   · subst e';rw[A] at m;cases m;let⟨h1,h2,w,v⟩:=s d e;refine⟨h1,h2,w,λj o' l b=>⟨λg f=>?_,(v j o' l b).2.2⟩⟩;by_cases p:j∈cl
     ·exact absurd f ((v j o' l b).1 p (h.tk j p g))
     grind
   ·exact h.ds r q d e' a m e
theorem zsO:∀{cl:List Nat},WfL ops cl->(∀i∈cl,i < ops.size)->(∃i∈cl,onX X i=O)->∃i q,i∈cl/\onX X i=O/\ops[i]?=E q/\∀j∈zG q,onX X j=G
 |[],_,_,⟨i,h,_⟩=>by cases h
 |i::cl,⟨h1,h2⟩,d,g=>by
  by_cases l:∃i∈cl,onX X i=O
  ·let⟨j,q,o,p,n,r⟩:=zsO h2 (λj f=>d j (Du _ f)) l;grind
  ·have c:∀j∈cl,onX X j=true:=λj f=>by
    grind
   let⟨j,f,a⟩:=g;rcases UU.1 f with e | e
   ·subst e;have b:=d j je;exact⟨j,ops[j],je,a,qM b,λk m=>c k (h1 _ (qM b) k m)⟩
   grind
theorem YW(hs:X.size=ops.size) :i∈qx .any ops X↔onX X i=O/\∃o,ops[i]?=E o/\∀j∈zG o,onX X j=true:=by
 rw[mem_ready];constructor
 ·rintro⟨h1,o,h2,c⟩;have a:i < X.size:=jE
  refine⟨jE,o,h2,λj d=>?_⟩;obtain⟨e,b,rfl⟩:=Dw.1 d;grind
 ·rintro⟨h1,o,h2,c⟩;have a:i < X.size:=jE
  exact⟨jE,o,h2,λe b hb=>c e.on (zor b hb)⟩
theorem zix(a:∀i∈taken,onX X i=G):∀t,¬ zot ops taken X t:=λt ⟨r,q,h1,h2,_⟩=>jE
theorem EqX.weaken{D D':Nat->Prop}{So:St C}(h:EqX D So S)(b:∀t,D t->D' t):EqX D' So S:=⟨h.heap,λt a=>h.env t λhd=>a (b t hd)⟩
theorem AbsL.mask{L:List (Nat×Value)}{b:Nat->Value}{Z:FS}{PV:List Priv}{ν:Val}{vs:Nat->List Value}{ids:List Nat}{So:St C}(h:AbsL κ So ν vs ids L b Z PV)(e:EqX (λt=>t∈l) So S):AbsL κ (zdz S l) ν vs ids L b Z PV:=by
 have c:(zdz S l).heap=So.heap:=e.heap.symm;have a:∀t,(zdz S l).env t = .und\/(zdz S l).env t=So.env t:=λt=>by
  show(bif zE t l then AV.und else S.env t)=_\/(bif zE t l then AV.und else S.env t)=_;cases f:zE t l with
  |true=>exact .inl rfl
  |false=>
   refine .inr (e.env t λhd=>?_).symm;rw[zR.2 hd] at f;cases f
 refine⟨⟨h.nd,λid=>by rw[c];exact h.dom id,by rw[h.pv,c],λid cs d=>h.cell id cs jE,λt=>?_,h.one⟩,λt=>?_,λid cs d=>?_,λk g hs=>have q:=h.keep k g jE;⟨q.1,q.2.1,λi=>q.2.2 jE⟩⟩
 ·rcases a t with z | z
  ·rw[z];trivial
  ·rw[z];exact h.env t
 ·rcases a t with z | z
  ·rw[z];trivial
  ·rw[z,c];exact h.live t
 ·rw[c] at d |-;exact h.livec id cs d
theorem znb{d:Nat}{A:AV C.D}(h:S.env d=A):S.put d A=S:=by
 unfold St.put;have:upd S.env d A=S.env:=by
  funext t;by_cases e:t=d
  ·subst e;rw[zp,h]
  ·rw[zq e]
 rw[this]
theorem zS.inv {D:Nat->Prop}{x:Uv (Out C)}{out:Out C}(h:zS D x (E out)):∃a,x=E a/\match a,out with
    | .go S,.go T=>EqX D S T
    | .pan u S,.pan v T=>u=v/\EqX D S T
    |_,_=>False:=by
 match x,out,h with
 |some (.go S),.go T,h=>exact⟨_,rfl,h⟩
 |some (.pan u S),.pan v T,h=>exact⟨_,rfl,h⟩
 |some (.go S),.pan v T,h=>exact h.elim
 |some (.pan u S),.go T,h=>exact h.elim
theorem Y9 {early:Bool}{next:List Nat->List Nat->List (Nat×Nat)->St C->Uv ρ}{K:XE C->St C->Uv ρ}{r:ρ}{stp:yQ C}{p:Oper->St C->Uv Tch}(h:xB stp p P n ops okB i early cl taken al S K next=E r) :
    ∃o run,ops[i]?=E o/\i ∉ cl/\(∀j∈zG o,j∈cl)/\(∀t∈ww ops o,∃j,j∈zG o/\(ops[j]?).bind (·.dst)=E t)/\Xl ops S o run/\yH stp p P n ops okB cl taken (Yd al (zG o)) K i early o run S (λS tk=>next (i::cl) tk ((i,Yd al (zG o))::al) S)=E r:=by
 unfold xB at h;split at h
 ·cases h
 · rename_i o s;let⟨f,h⟩:=zb h;simp only[gf,Do] at f;have h1:i ∉ cl:=λw=>by rw[zR.2 w] at f;cases f.1
   have h2:∀j∈zG o,j∈cl:=λj d=>zR.1 (Dp.1 f.2 j d)
   split at h
   ·rename_i l;exact⟨o,G,s,h1,h2,λt c=>(by unfold ww at c;grind),(by unfold Xl;rw[l]),h⟩
   · rename_i j a l;let⟨d,h⟩:=zb h;have d:=zR.1 d;split at h
     ·cases h
     · rename_i u v;have m:∀t∈ww ops o,∃j,j∈zG o/\(ops[j]?).bind (·.dst)=E t:=λt c=>by
         unfold ww at c;rw[l] at c;grind
       have g:∀{run:Bool},((∃b,S.env u = .bool b/\run=(b == a))\/(S.env u = .tup []/\run=O))->Xl ops S o run:=λ{run} k=>by
        unfold Xl;grind
       split at h
       · rename_i q e;cases q with
         |true=>
          rw[jv rfl,znb e] at h;exact⟨o,a,s,h1,h2,m,g (.inl ⟨G,e,je⟩),h⟩
         |false=>
          rw[jx je,znb e] at h;grind
       all_goals grind
theorem zdC{early:Bool}{K:XE C->St C->Uv ρ}{stp:yQ C}{a:Oper->St C->Uv Tch}(hi:qb i 4096=G)(b:wd ops cl i=G):ZN stp a P n ops ((i,early)::ord) cl taken al S K=xB stp a P n ops (zos ops (WT C P ops n) cl i) i early cl taken al S K λcl tk al S=>ZN stp a P n ops ord cl tk al S K:=by
 show(bif qb i 4096 then(bif wd ops cl i then _ else _) else _)=_;rw[hi,b,Dq,Dq]
theorem zc1{early:Bool}{K:XE C->St C->Uv ρ}{stp:yQ C}{a:Oper->St C->Uv Tch}(hi:qb i 4096=G)(b:wd ops cl i=O):ZN stp a P n ops ((i,early)::ord) cl taken al S K=ZN stp a P n ops ord cl taken al S K:=by
 show(bif qb i 4096 then(bif wd ops cl i then _ else _) else _)=_;rw[hi,b,Dq,U0]
theorem zdD {early:Bool}{K:XE C->St C->Uv ρ}{stp:yQ C}{a:Oper->St C->Uv Tch}(hi:qb i 4096=O):ZN stp a P n ops ((i,early)::ord) cl taken al S K=(bif wd ops cl ((i - 4096) / 64) && wd ops cl ((i - 4096) % 64) then chk (zrg ops (WT C P ops n) cl ((i - 4096) / 64) ((i - 4096) % 64)) (Yf
      (xB stp a P n ops G ((i - 4096) / 64) O cl taken al S K λcl tk al S=>ZN stp a P n ops ord cl tk al S K)
      (xB stp a P n ops G ((i - 4096) % 64) O cl taken al S K λcl tk al S=>ZN stp a P n ops ord cl tk al S K))
    else ZN stp a P n ops ord cl taken al S K):=by
 show(bif qb i 4096 then(bif wd ops cl i then _ else _) else _)=_;rw[hi,U0]
theorem zou {o:Oper}{K:XE C->St C->Uv ρ}{r:ρ}{stp:yQ C}{l:Oper->St C->Uv Tch}{next:St C->List Nat->Uv ρ}(g:Xl ops S o run) (c:∀t∈ww ops o,o.dst≠E t)
    {okB:Bool} (h:yH stp l P n ops okB cl taken m K i G o run S next=E r):WS ops n cl taken i o=G/\∃S',next S' (i::taken)=E r/\QV P ops S' o/\(∀t,o.dst≠E t->S'.env t=S.env t)/\S'.heap=S.heap:=by
 unfold yH at h;rw[Dq] at h;let⟨b,h⟩:=zb h;refine⟨b,?_⟩;have j:∀d,o.dst=E d->d ∉ looks ops o:=λd e s=>by
  unfold WS at b;rw[e] at b;simp only[gf,Do] at b;rw[zR.2 s] at b;cases b.2.2.1
 have a:∀d A t,o.dst=E d->o.dst≠E t->(S.put d A).env t=S.env t:=λd A t e k=>zq λe'=>k (by rw[e,e'])
 cases run with
 |true=>
  rw[Dq] at h;split at h
  · rename_i d hd;let⟨q,h⟩:=zb h;rw[zwy] at h;let⟨A,hA,h⟩:=gd h;refine⟨_,h,⟨G,g.congr λt f=>a d A t hd (c t f),q,d,hd,?_⟩,λt k=>a d A t hd k,rfl⟩;rw[zdA (ops:=ops) (S:=S) (λt f=>a d A t hd λe=>?_) λid _=>rfl,hA]
    ·show E A=E (upd S.env d A d);rw[zp]
    grind
  ·cases h
 |false=>
  rw[U0] at h;split at h
  ·rename_i d hd;refine⟨_,h,⟨O,g.congr λt f=>a d _ t hd (c t f),λp e=>?_⟩,λt k=>a d _ t hd k,rfl⟩;rw[hd] at e;cases e;exact zp
  ·rename_i hd;exact⟨_,h,⟨O,g,λp e=>jE⟩,λt _=>rfl,rfl⟩
theorem Sep.perm{Z:FS}{A B:List Priv}(p:A.Perm B):∀{h:zc},Sep Z A h->Sep Z B h:=by
 induction p with
 |nil=>grind
 |cons x _ m=>
  intro h k;let⟨h1,h2,a,c,b,l2,d⟩:=k.uncons;exact .cons a (m c) b l2 d
 |swap x y l=>
  intro h k;let⟨h1,h2,a,c,b,l2,d⟩:=k.uncons;let⟨q,g2,j,n,f,g,e⟩:=c.uncons;have i:h1.disj g2:=d.mono (.refl _) g;exact .cons (h2:=h1.or g2) j (.cons a n (zc.le_or _ _) (zc.le_or_right i) i) (f.trans l2) (zc.or_le b (g.trans l2)) ((zc.or_disj (d.mono (.refl _) f) e.symm).symm)
 |trans _ _ o i2=>grind
omit [Dfr] in
structure Home(C:Cod)(w0:Start)(σ0:FS)(st:Start)(σs:FS)(FR:List Priv):Prop where
 home:∀{Z PV w},Inv st σs Z PV w->Inv w0 σ0 Z (PV++FR) w
 gl:C.gl st.w σs
theorem Home.make(a:C.gl w0.w σ0){A B:List Priv}{Z:FS}(hi:Inv w0 σ0 Z (A++B) w):∃st,Home C w0 σ0 st Z B/\Inv st Z Z A w:=by
 let⟨h,hs,b⟩:=hi.own;let⟨e,g,s1,d,c,l2,f⟩:=hs.split;exact⟨⟨w,e⟩,⟨λ{τ PV w'} k=>hi.call b d c l2 f k,C.glm hi.le hi.ext a⟩,.start hi.sub s1 (b.sub.mono c) (b.mono c).apart⟩
structure Fl where
 i:Nat
 d:Nat
 ad:Addr
 zs:List Value
def frF(F:List Fl):List Priv:=F.map λf =>.cell f.ad f.zs
def zx3(C:Cod)(P:Program)(ops:Array Oper)(n i d:Nat)(a:List Value):Prop:=
 ∃o t ti b,ops[i]?=E o/\o.dst=E d/\o.op = .alloc t/\o.guard=I/\P.info? t=E ti/\ti.zero=E b/\b.cells.toList=a/\C.oal t a=I/\qb d n=G/\d < vB/\∀j q,ops[j]?=E q->j≠i->(d∈looks ops q->i∈zG q)/\q.dst≠E d
theorem zx4(h:i∈WT C P ops n):∃d l,zx3 C P ops n i d l:=by
 have h:=(Dz.1 h).2;unfold flB at h;split at h
 ·cases h
 ·rename_i o v;split at h
  ·rename_i d t r m u;split at h
   ·rename_i ti c;split at h
    ·rename_i k g;split at h
     ·rename_i a;simp only[gf] at h;let⟨h1,h2,s⟩:=h;refine⟨d,_,o,t,ti,k,v,r,m,u,c,g,rfl,a,h1,by rwa [UT] at h2,λj q f b=>?_⟩;have:=Dp.1 s j (D0.2 (U1.1 f).1);rw[f] at this;simp only[UH,gf,Do] at this;rcases this with z | ⟨z1,z2⟩
      ·exact absurd (ge z) b
      ·refine⟨λp=>?_,λe=>?_⟩
       ·rcases z1 with z | z
        ·rw[zR.2 p] at z;cases z
        ·exact zR.1 z
       ·rw[e] at z2;simp at z2
     ·cases h
    ·cases h
   ·cases h
  ·cases h
structure FOK(C:Cod)(P:Program)(ops:Array Oper)(n:Nat)(a:Act)(F:List Fl):Prop where
 op:∀f∈F,zx3 C P ops n f.i f.d f.zs
 fl:∀f∈F,f.i∈WT C P ops n
 val:∀f∈F,a.tmps.getD f.d undef = .pointer (E f.ad)
 nd:(F.map Fl.i).Nodup
def flD(ops:Array Oper)(taken:List Nat)(X:Array Bool)(F:List Fl)(t:Nat):Prop:=zot ops taken X t\/∃f∈F,f.d=t
structure Rl(P:Program)(ops:Array Oper)(n:Nat)(w0:Start)(σ0:FS)(κ:Kp)(taken:List Nat)(X:Array Bool)(F:List Fl)(So S:St C)(a:Act)(w:World):Prop where
 at_:∃st σs,Home C w0 σ0 st σs (frF F)/\At n st σs κ So a w
 eqx:EqX (flD ops taken X F) So S
 fok:FOK C P ops n a F
def zel(ops:Array Oper)(j:Nat)(a a':Act):Prop:=∀t,(∀o,ops[j]?=E o->o.dst≠E t)->a'.tmps.getD t undef=a.tmps.getD t undef
theorem VM{v:Value}{t:Nat}(h:dst≠E t):(a.put dst v).tmps.getD t undef=a.tmps.getD t undef:=by
 cases dst with
 |none=>rfl
 |some d=>
  show(a.tmps.setIfInBounds d v).getD t undef=_;rw[Uz,qX (λe=>h (by rw[e])),<- Uz]
theorem znc{o:Oper}(h:o.wp P a w K Q):o.wp P a w (λa' w'=>K a' w'/\∀t,o.dst≠E t->a'.tmps.getD t undef=a.tmps.getD t undef) Q:=by
 unfold qD at *
 generalize (execOp a.eval o).run P w=r at *
 cases r with
 |ok n w'=>
  cases n<;>simp only[qQ] at h |-<;>
   first
    |exact⟨h,λt b=>VM b⟩
    |exact Calls.mono h (λe d c=>by cases e<;>first | exact⟨c,λt b=>VM b⟩ | exact c)
    |exact Rows.mono h (λ_ _ c=>⟨c,λt b=>VM b⟩)
    |exact h
 |halt x w'=>cases x<;>simp only[qQ] at h |-<;>exact h
theorem ziy(h:wpOp P ops Q j K a w):wpOp P ops Q j (λa' w'=>K a' w'/\zel ops j a a') a w:=by
 unfold wpOp zel at *
 cases e:ops[j]? with
 |none=>grind
 |some o=>
  rw[e] at h;simp only at h |-
  split
  ·rename_i c;rw[jv c] at h;refine h.imp (λh=>qO (λa' w' d=>⟨d.1,λt b=>d.2 t (b o rfl)⟩) (znc h)) id
  ·rename_i c;rw[jx c] at h;exact⟨h,λt b=>VM (b o rfl)⟩
omit [Dfr] in
theorem FOK.next{a':Act}{F:List Fl}(h:FOK C P ops n a F)(e:zel ops j a a')(g:∀f∈F,f.i≠j):FOK C P ops n a' F:=
 ⟨h.op,h.fl,λf b=>by
  let⟨o,t,ti,k,_,_,_,_,_,_,_,_,_,_,p⟩:=h.op f b
  rw[e f.d λq c=>(p j q c (g f b).symm).2];exact h.val f b,h.nd⟩
theorem WfL.deps(b:ops[j]?=E q)(c:k∈zG q):∀{cl:List Nat},WfL ops cl->j∈cl->k∈cl:=by
 intro cl
 induction cl with
 |nil=>grind
 |cons i cl d=>
  intro h a;let⟨h1,h2⟩:=(show(∀o,ops[i]?=E o->∀j∈zG o,j∈cl)/\WfL ops cl from h);rcases UU.1 a with e | e
  all_goals grind
omit [Dfr] in
theorem Cfg.flt(h:Cfg P ops n cl taken al S X Fx){o:Oper}(g:ops[i]?=E o)(hi:i ∉ cl)(p:∀j∈zG o,onX X j=G):Cfg P ops n cl taken al S (X.setIfInBounds i G) (i::Fx) where
 size:=by simp[h.size]
 sub k a:=by
  by_cases e:i=k
  ·grind
  ·rw[Wi e] at a;exact(h.sub k a).imp_right (Du _)
 fon k a:=by
  rcases UU.1 a with e | e
  ·subst e;exact⟨zfx (by rw[h.size];grind),hi⟩
  ·exact⟨Y8 (h.fon k e).1,(h.fon k e).2⟩
 wf:=h.wf
 tk k a hoff:=h.tk k a (YN hoff)
 inc:=h.inc
 tcl:=h.tcl
 closed k q b a j c:=by
  by_cases e:i=k
  ·subst e;rw[g] at b;cases b;exact Y8 (p j c)
  ·rw[Wi e] at a;exact Y8 (h.closed k q b a j c)
 qv r q l g b:=h.qv r q l (YN g) b
 ds r q d l g b s:=by
  let⟨h1,h2,t,m⟩:=h.ds r q d l (YN g) b s;exact⟨h1,h2,t,λj o c f=>⟨λk=>(m j o c f).1 (YN k),(m j o c f).2⟩⟩
 anc:=h.anc
theorem Cfg.absorb(h:Cfg P ops n cl taken al S X Fx){b:List Nat}{o:Oper}(l:ops[i]?=E o)(hi:i∈Fx)(hd:∀j∈zG o,j∈cl)(d:∀k,k∈b↔k∈Fx/\k≠i)(c:∀r q,r∈taken->onX X r=O->ops[r]?=E q->QV P ops S' q):Cfg P ops n (i::cl) taken ((i,Yd al (zG o))::al) S' X b where
 size:=h.size
 sub k a:=by
  rcases h.sub k a with z | z
  ·grind
  grind
 fon k a:=by
  let⟨h1,h2⟩:=(d k).1 a;refine⟨(h.fon k h1).1,λg=>?_⟩;rcases UU.1 g with e | e
  ·exact h2 e
  ·exact(h.fon k h1).2 e
 wf:=⟨λo' f j m=>jE,h.wf⟩
 tk k a hoff:=by
  rcases UU.1 a with e | e
  ·subst e;rw[(h.fon k hi).1] at hoff;cases hoff
  ·exact h.tk k e hoff
 inc k a:=by
  rcases UU.1 a with e | e
  ·grind
  ·exact h.inc k e
 tcl k a:=Du _ (h.tcl k a)
 closed:=h.closed
 qv:=c
 ds:=h.ds
 anc:=h.anc.add l
theorem zmI{d:Nat}{t:TypeId}:xd P S (E d) (.alloc t)=none:=by unfold xd;rfl
theorem zov{d:Nat}{t ty:TypeId}:xA qo Γ P d ty S (.alloc t)=Xf P S d t:=by unfold xA;rfl
theorem zow{d:Nat}{t ty:TypeId}{ps:String}{af:Array Edge}{g:Uv (Nat×Bool)}:stp qo Γ P n ⟨E d,.alloc t,ty,ps,af,g⟩ S=chk (qb d n) (Xf P S d t):=by
 unfold stp;simp only[zmI];unfold VH;simp only[zov]
theorem zrh {o:Oper}{d:Nat}{t:TypeId}{b:Value}{a:List Value}{out:Out C}(c:o.dst=E d) (e:o.op = .alloc t) (j:P.info? t=E ti) (h:ti.zero=E b) (f:b.cells.toList=a) (i:C.oal t a=I) (hs:stp qo Γ P n o S=E out) :
    S.heap (nid d 0)=I/\out = .go {env:=upd S.env d (.pc (nid d 0) 0),heap:=upd S.heap (nid d 0) (E (.cell (a.map ZZ)))}:=by
 let⟨dst,op,ty,ps,af,g⟩:=o;simp only at c e;subst c e f;rw[zow] at hs;let⟨_,hs⟩:=zb hs;unfold Xf at hs;rw[j] at hs;simp only[h,i] at hs;let⟨h0,hs⟩:=zb hs;cases hs;exact⟨Zf h0,rfl⟩
theorem absorb (hgl:C.gl w0.w σ0) {next:List Nat->List Nat->List (Nat×Nat)->St C->Uv ρ}{K:XE C->St C->Uv ρ}{r:ρ}(hdr:xB (Y7 qo Γ P n) (tch Γ P) P n ops okB i O cl taken al S K next=E r) {F:List Fl}(hi:i∈F.map Fl.i) {So:St C}
    (D:Cfg P ops n cl taken al S X (F.map Fl.i)) (j:Rl P ops n w0 σ0 κ taken X F So S a w):∃S' So' F' T,next (i::cl) taken T S'=E r/\Cfg P ops n (i::cl) taken T S' X (F'.map Fl.i)/\Rl P ops n w0 σ0 κ taken X F' So' S' a w:=by
 let⟨o,run,ho,hicl,hd,hgt,s,h⟩:=Y9 hdr;obtain⟨f,hf,rfl⟩:=Dw.1 hi;obtain⟨F1,F2,rfl⟩:=List.append_of_mem hf;let⟨o',t,ti,zv,p1,p2,p3,p4,p5,p6,p7,p8,p9,p10,p11⟩:=j.fok.op f hf;rw[ho] at p1;cases p1;have M:run=true:=by unfold Xl at s;grind
 subst M;unfold yH at h;rw[U0] at h;let⟨_,h⟩:=zb h;rw[Dq] at h;have y:∀k∈zG o,onX X k=true:=D.closed f.i o ho (D.fon f.i hi).1
 have U:∀m,onX X m=O->qc (Yd al (zG o)) m=false:=λm hr'=>by
  cases e:qc (Yd al (zG o)) m with
  |false=>rfl
  |true=>
   have this:onX X m=true:=zek D.anc (λk=>onX X k=G) (λk q hk hon=>D.closed k q hk hon) (λk hk=>by rw[<- D.size];grind) y m e;grind
 split at h
 ·cases h
 · rename_i l p htc;let⟨H,h⟩:=zb h;rw[Vp] at h;let⟨out,hs,h⟩:=gd h;obtain⟨h0,rfl⟩:=zrh p2 p3 p5 p6 p7 p8 hs;have x:=zrf hs htc;have Y:=j.fok.nd;rw[D2,U8] at Y;let⟨R,hnd2⟩:=U7.1 ((List.Perm.nodup_iff qJ).1 Y);refine⟨_,{env:=upd So.env f.d (.pc (nid f.d 0) 0),heap:=upd So.heap (nid f.d 0) (E (.cell (f.zs.map ZZ)))},F1++F2,_,h,D.absorb ho hi hd (λk=>?_) (λm q' h1 h2 h3=>?_),?_,?_,?_⟩
   · simp only[D2,U8,Ux,UU] at R |-
     constructor
     ·grind
     grind
   ·have:=Dp.1 H m h1;rw[U m h2,D4] at this;exact(D.qv m q' h1 h2 h3).keep x h3 this
   · let⟨st,σs,hh,L,b,Z,PV,⟨ν,vs,ids,hA⟩,N,Q⟩:=j.at_
     have hi2:Inv w0 σ0 Z ((.cell f.ad f.zs::PV)++frF (F1++F2)) w:=(hh.home N).sub_own λg k=>Sep.perm (by
      simp only[frF,D2,U8,List.cons_append];rw[<- UV,<- UV]
      exact qJ) k
     let⟨st',hh',B⟩:=Home.make hgl hi2;refine⟨st',Z,hh',L,b,Z,_,?_,B,Q⟩;have hv:look L b f.d = .pointer (E (f.ad.add 0)):=by rw[<- Q.get,j.fok.val f hf];simp[Addr.add]
     refine zD.unput (hA.new (d:=f.d) (by rw[j.eqx.heap];exact h0) (yP κ f.d 0) (e :=.cell _) (v :=.slice I 0 0) (a:=⟨f.ad,λ_ =>.slice I 0 0⟩) (us:=f.zs) (A :=.pc (nid f.d 0) 0) (u :=.pointer (E (f.ad.add 0))) (λν' h1 h2=>⟨?_,by show nid f.d 0=nid f.d 0;rfl⟩) rfl rfl (λcs hcs=>?_) (by simp[Ent.at,Addr.add])) hv
     ·show Value.pointer (E f.ad) = .pointer (E ((ν'.adr _).a.add 0));rw[h2];simp[Addr.add]
     ·cases hcs;exact⟨xK _,YT _⟩
   · refine⟨?_,λt' ht'=>?_⟩
     ·show upd So.heap _ _=upd S.heap _ _;rw[j.eqx.heap]
     · show upd So.env _ _ t'=upd S.env _ _ t';by_cases e:t'=f.d
       ·subst e;rw[zp,zp]
       · rw[zq e,zq e];refine j.eqx.env t' λhD=>ht' ?_
         rcases hD with z | ⟨g,hg1,hg2⟩
         ·exact .inl z
         · refine .inr ⟨g,?_,hg2⟩;rcases Ux.1 hg1 with z | z
           ·grind
           · rcases UU.1 z with z | z
             all_goals grind
   · have c:∀g,g∈F1++F2->g∈F1++f::F2:=λg s=>by
       rcases Ux.1 s with z | z
       all_goals grind
     exact⟨λg s=>j.fok.op g (c g s),λg s=>j.fok.fl g (c g s),λg s=>j.fok.val g (c g s),jE⟩
theorem zfb{next:List Nat->List Nat->List (Nat×Nat)->St C->Uv ρ}{K:XE C->St C->Uv ρ}{r:ρ}(hdr:xB (Y7 qo Γ P n) (tch Γ P) P n ops okB i G cl taken al S K next=E r){F:List Fl}(hi:i∈F.map Fl.i)(k:FOK C P ops n a F):False:=by
 let⟨o,run,m,c,hd,j,g,h⟩:=Y9 hdr;obtain⟨f,e,rfl⟩:=Dw.1 hi;let⟨o',t,ti,q,d,l,p,s,_⟩:=k.op f e;rw[m] at d;cases d;have b:run=true:=by unfold Xl at g;grind
 subst b;unfold yH at h;rw[Dq] at h;let⟨_,h⟩:=zb h;rw[Dq,l] at h;let⟨h,_⟩:=zb h;rw[p] at h;cases h
theorem Rl.done{F:List Fl}{So:St C}(e:Rl P ops n w0 σ0 κ taken X F So S a w)(i:F=[])(hp:∀t,¬ zot ops taken X t):At n w0 σ0 κ S a w:=by
 subst i;let⟨st,h,j,L,b,Z,PV,hA,c,d⟩:=e.at_;have:At n w0 σ0 κ So a w:=⟨L,b,Z,PV,hA,by have:=j.home c;simpa[frF] using this,d⟩
 exact this.eqx (e.eqx.weaken λt g=>by
  rcases g with z | ⟨f,k,_⟩
  all_goals grind)
theorem zsP(h:k≠i):(!V k i)=true:=by
 cases e:V k i with
 |true=>exact absurd (ge e) h
 |false=>rfl
theorem zwI (hgl:C.gl w0.w σ0) (hΓ:∀s∈Γ,s.OK P):∀(y:Nat) (ord:List (Nat×Bool)) {cl taken:List Nat}{al:List (Nat×Nat)}{S:St C}{K:XE C->St C->Uv ρ}{r:ρ},ZN (Y7 qo Γ P n) (tch Γ P) P n ops ord cl taken al S K=E r->
    ∀{X:Array Bool} {a:Act} {w:World} {So:St C} {F:List Fl},Cfg P ops n cl taken al S X (F.map Fl.i)->X.toList.count O<=y->Rl P ops n w0 σ0 κ taken X F So S a w->wpAny P .any ops (Zj n w0 σ0 κ K r) y X a w:=by
 intro y;have noF:∀{cl:List Nat} {F:List Fl} {taken al} {S:St C} {X:Array Bool} {a:Act},Cfg P ops n cl taken al S X (F.map Fl.i)->FOK C P ops n a F->(∀i,i < ops.size->i∈cl)->F=[]:=by
  intro cl F taken al S X a m hF B;cases F with
  |nil=>rfl
  |cons f F=>
   let⟨o,_,_,_,p1,_⟩:=hF.op f je;exact absurd (B f.i (U1.1 p1).1) (m.fon f.i je).2
 induction y with
 |zero=>
  intro ord
  induction ord with
  |nil=>
   intro cl taken al S K r h X a w So F m hn D;let⟨B,h⟩:=zb h;have hcl:∀i,i < ops.size->i∈cl:=λi hi=>zR.1 (Dp.1 B i (D0.2 hi))
   have hon:∀i,i < ops.size->onX X i=true:=λi hi=>by
    cases e:onX X i with
    |true=>rfl
    |false=>have:=zna (by rw[m.size];exact hi) e;omega
   refine⟨?_,S,h,D.done (noF m D.fok hcl) λt M=>zix (λi hi=>hon i (m.inc i (m.tcl i hi))) t M⟩;refine List.eq_nil_iff_forall_not_mem.2 λi hi=>?_
   let⟨h1,o,h2,_⟩:=(YW m.size).1 hi;grind
  |cons io ord ih=>
   intro cl taken al S K r h X a w So F m hn D;let⟨i,early⟩:=io;have zero:∀{okB:Bool} {i:Nat} {early:Bool} {next},xB (Y7 qo Γ P n) (tch Γ P) P n ops okB i early cl taken al S K next=E r->i∈F.map Fl.i:=by
    intro okB i early next h
    let⟨o,run,ho,hi,hd,hgt,hg,h⟩:=Y9 h;by_cases hm:i∈F.map Fl.i
    ·exact hm
    exfalso;have x:onX X i=false:=by
     cases e:onX X i with
     |false=>rfl
     |true=>exact((m.sub i e).elim hi hm).elim
    have:=zna (by rw[m.size];grind) x;omega
   cases hb:qb i 4096 with
   |true=>
    cases hrd:wd ops cl i with
    |true=>
     rw[zdC hb hrd] at h;cases early with
     |true=>exact(zfb h (zero h) D.fok).elim
     |false=>
      let⟨S',So',F',al',h',hc',hR'⟩:=absorb hgl h (zero h) m D;grind
    |false=>rw[zc1 hb hrd] at h;grind
   |false=>
    rw[zdD hb] at h;cases hrd:wd ops cl ((i - 4096) / 64) && wd ops cl ((i - 4096) % 64) with
    |true=>
     rw[hrd,Dq] at h;have h:=(za5 (zb h).2).1;let⟨S',So',F',al',h',hc',hR'⟩:=absorb hgl h (zero h) m D;grind
    |false=>rw[hrd,U0] at h;grind
 |succ y ihf=>
  intro ord;have setX:∀{taken:List Nat} {X:Array Bool} {F:List Fl} {j:Nat} {t:Nat},j ∉ taken->flD ops taken X F t->flD ops taken (X.setIfInBounds j G) F t:=by
   intro taken X F j t hj M;rcases M with⟨N,q',h1,h2,h3,h4⟩ | z
   ·refine .inl ⟨N,q',h1,?_,h3,h4⟩;rw[Wi jE];exact h2
   ·exact .inr z
  have quiet:∀(ord:List (Nat×Bool)) {cl taken:List Nat} {al:List (Nat×Nat)} {S:St C} {K:XE C->St C->Uv ρ} {r:ρ},ZN (Y7 qo Γ P n) (tch Γ P) P n ops ord cl taken al S K=E r->
      ∀{X:Array Bool} {a:Act} {w:World} {So:St C} {F:List Fl},Cfg P ops n cl taken al S X (F.map Fl.i)->X.toList.count O<=y+1->Rl P ops n w0 σ0 κ taken X F So S a w->∀{j:Nat},j∈qx .any ops X->j∈cl->
       wpOp P ops (Zj n w0 σ0 κ K r) j (wpAny P .any ops (Zj n w0 σ0 κ K r) y (X.setIfInBounds j G)) a w:=by
   intro ord cl taken al S K r h X a w So F m hn D j hj R;let⟨x,q,hq,A⟩:=(YW m.size).1 hj;have hjt:=m.tk j R x;have hlt:j < X.size:=by rw[m.size];grind
   let⟨st,σs,hh,hA⟩:=D.at_;have hjF:∀f∈F,f.i≠j:=λf U e=>(m.fon f.i (Dw.2 ⟨f,U,rfl⟩)).2 (e ▸ R)
   have base:=zsN (w0:=st) (σ0:=σs) (Q:=Zj n w0 σ0 κ K r) (K:=λa' w'=>∃S1,At n st σs κ S1 a' w'/\EqX (λt=>flD ops taken X F t/\q.dst≠E t) S1 S) hh.gl hΓ hq hA D.eqx (m.qv j q hjt x hq) (λt M hp=>?_) (λd e=>(m.ds j q d hjt x hq e).1) λS1 a' w' Y hX'=>⟨S1,Y,hX'⟩
   · refine wpOp_mono ?_ (ziy base);rintro a' w' ⟨⟨S1,Y,hX'⟩,M⟩;refine ihf ord h (m.hit R λq' hq' k hk=>?_) (zhA hlt x hn) ⟨⟨st,σs,hh,Y⟩,hX'.weaken λt M=>?_,D.fok.next M hjF⟩
     ·grind
     · let⟨M,hne⟩:=M;rcases M with⟨N,q',h1,h2,h3,h4⟩ | z
       · refine .inl ⟨N,q',h1,?_,h3,h4⟩;rw[Wi]
         all_goals grind
       ·exact .inr z
   · rcases hp with⟨N,q',h1,h2,h3,h4⟩ | ⟨f,U,rfl⟩
     · let⟨_,_,k3,k4⟩:=m.ds N q' t h1 h2 h3 h4;by_cases e:j=N
       ·grind
       grind
     ·let⟨o,_,_,_,_,_,_,_,_,_,_,_,_,_,p⟩:=D.fok.op f U;exact(m.fon f.i (Dw.2 ⟨f,U,rfl⟩)).2 (WfL.deps hq ((p j q hq (hjF f U).symm).1 M) m.wf R)
  have float:∀(ord:List (Nat×Bool)) {cl taken:List Nat} {al:List (Nat×Nat)} {S:St C} {K:XE C->St C->Uv ρ} {r:ρ},ZN (Y7 qo Γ P n) (tch Γ P) P n ops ord cl taken al S K=E r->
      ∀{X:Array Bool} {a:Act} {w:World} {So:St C} {F:List Fl},Cfg P ops n cl taken al S X (F.map Fl.i)->X.toList.count O<=y+1->Rl P ops n w0 σ0 κ taken X F So S a w->∀{j:Nat},j∈qx .any ops X->j ∉ cl->j∈WT C P ops n->
       wpOp P ops (Zj n w0 σ0 κ K r) j (wpAny P .any ops (Zj n w0 σ0 κ K r) y (X.setIfInBounds j G)) a w:=by
   intro ord cl taken al S K r h X a w So F m hn D j hj R hjf;let⟨x,q,hq,A⟩:=(YW m.size).1 hj;have hlt:j < X.size:=by rw[m.size];grind
   let⟨d,zs,hfo⟩:=zx4 hjf;let⟨o,t,ti,zv,p1,p2,p3,p4,p5,p6,p7,p8,p9,p10,p11⟩:=id hfo;rw[hq] at p1;cases p1;have hjF:∀f∈F,f.i≠j:=λf U e=>by
    have:=(m.fon f.i (Dw.2 ⟨f,U,rfl⟩)).1;grind
   have hjt:j ∉ taken:=λhm=>R (m.tcl j hm)
   let⟨st,σs,hh,L,b,Z,PV,⟨ν,vs,ids,hA⟩,hinv,hfi⟩:=D.at_;have base:wpOp P ops (Zj n w0 σ0 κ K r) j (λa' w'=>∃c:Addr,Inv st σs Z (.cell c zs::PV) w'/\Fits n ((d,.pointer (E (c.add 0)))::L) b a') a w:=by
    unfold wpOp;rw[hq];have hw:qB q (yielded ops a.tmps)=true:=by unfold qB;rw[p4]
    simp only[hw,jq];left;let⟨dst,op,ty,ps,af,g⟩:=q;simp only at p2 p3 p4;subst p2 p3 p4;refine zj9 (w0:=st) (σ0:=σs) (Z:=Z) (PV:=PV) (L:=L) (b:=b) (p:=E ()) (H:=λ_ L' Z' PV'=>∃c:Addr,L'=(d,.pointer (E (c.add 0)))::L/\Z'=Z/\PV' = .cell c zs::PV) p9 p5 p6 p7 (λc=>⟨c,rfl,rfl,rfl⟩) () rfl a w hinv hfi _ _ ?_;grind
   refine wpOp_mono ?_ (ziy base);rintro a' w' ⟨⟨c,hi',hf'⟩,M⟩
   have hi2:Inv w0 σ0 Z (PV++frF (⟨j,d,c,zs⟩::F)) w':=(hh.home hi').sub_own λg k=>Sep.perm (by
    show(Priv.cell c zs::(PV++frF F)).Perm (PV++(Priv.cell c zs::frF F))
    exact qJ.symm) k
   let⟨st',hh',hinv'⟩:=Home.make hgl hi2;refine ihf ord h (F:=⟨j,d,c,zs⟩::F) (So:=So.put d .und) (m.flt hq R A) (zhA hlt x hn) ⟨⟨st',Z,hh',_,b,Z,PV,⟨ν,vs,ids,hA.put (v :=.pointer (E (c.add 0))) trivial trivial⟩,hinv',hf'⟩,⟨D.eqx.heap,λt' ht'=>?_⟩,?_⟩
   · show upd So.env d _ t'=S.env t';by_cases e:t'=d
     ·exact absurd (.inr ⟨_,qE ..,e.symm⟩) ht'
     · rw[zq e];refine D.eqx.env t' λhD=>ht' ?_
       rcases setX hjt hD with z | ⟨f,U,hz⟩
       ·exact .inl z
       ·exact .inr ⟨f,Du _ U,hz⟩
   · have hn:=D.fok.next M hjF;refine⟨λf U=>?_,λf U=>?_,λf U=>?_,?_⟩
     · rcases UU.1 U with z | z
       ·grind
       ·exact hn.op f z
     · rcases UU.1 U with z | z
       ·grind
       ·exact hn.fl f z
     · rcases UU.1 U with z | z
       ·subst z;show a'.tmps.getD d undef=_;rw[hf'.get];show(bif V d d then _ else _)=_;simp[Addr.add]
       ·exact hn.val f z
     ·rw[U8];exact U7.2 ⟨λhm=>jE,hn.nd⟩
  have real:∀{cl taken:List Nat} {al:List (Nat×Nat)} {S:St C} {K:XE C->St C->Uv ρ} {r:ρ} {okB:Bool} {j:Nat} {o:Oper} {run:Bool} {next:St C->List Nat->Uv ρ},ops[j]?=E o->j ∉ cl->(∀k∈zG o,k∈cl)->Xl ops S o run->yH (Y7 qo Γ P n) (tch Γ P) P n ops okB cl taken (Yd al (zG o)) K j O o run S next=E r->
      ∀{X:Array Bool} {a:Act} {w:World} {So:St C} {F:List Fl},Cfg P ops n cl taken al S X (F.map Fl.i)->X.toList.count O<=y+1->Rl P ops n w0 σ0 κ taken X F So S a w->onX X j=O->(∀k∈zG o,onX X k=G)->
      (∀S',next S' taken=E r->∀{X':Array Bool} {a':Act} {w':World} {So':St C} {F':List Fl},Cfg P ops n (j::cl) taken ((j,Yd al (zG o))::al) S' X' (F'.map Fl.i)->X'.toList.count O<=y->Rl P ops n w0 σ0 κ taken X' F' So' S' a' w'->wpAny P .any ops (Zj n w0 σ0 κ K r) y X' a' w')->
        wpOp P ops (Zj n w0 σ0 κ K r) j (wpAny P .any ops (Zj n w0 σ0 κ K r) y (X.setIfInBounds j G)) a w:=by
   intro cl taken al S K r okB j o run next ho R hd hg h X a w So F m hn D x A hnext
   have hlt:j < X.size:=by rw[m.size];grind
   have hjFm:j ∉ F.map Fl.i:=λhm=>by have:=(m.fon j hm).1;grind
   have hjF:∀f∈F,f.i≠j:=λf U e=>hjFm (Dw.2 ⟨f,U,e⟩)
   have hjt:j ∉ taken:=λhm=>R (m.tcl j hm)
   let⟨st,σs,hh,hA⟩:=D.at_;have hX:=D.eqx;unfold yH at h;rw[U0] at h;let⟨_,h⟩:=zb h;have hanc:∀N,onX X N=O->qc (Yd al (zG o)) N=false:=λN hr'=>by
    cases e:qc (Yd al (zG o)) N with
    |false=>rfl
    |true=>
     have:=zek m.anc (λk=>onX X k=G) (λk q hk hon=>m.closed k q hk hon) (λk hk=>by rw[<- m.size];grind) A N e;grind
   have hfree:∀t∈looks ops o,¬ flD ops taken X F t:=λt M hD=>by
    rcases hD with⟨N,q',h1,h2,h3,h4⟩ | ⟨f,U,rfl⟩
    · let⟨_,_,k3,k4⟩:=m.ds N q' t h1 h2 h3 h4;have hne:j≠N:=λe=>R (e ▸ m.tcl N h1)
      grind
    ·let⟨_,_,_,_,_,_,_,_,_,_,_,_,_,_,p⟩:=D.fok.op f U;exact(m.fon f.i (Dw.2 ⟨f,U,rfl⟩)).2 (hd _ ((p j o ho (hjF f U).symm).1 M))
   have hvB:∀t,flD ops taken X F t->t < vB:=λt hD=>by
    rcases hD with⟨N,q',h1,h2,h3,h4⟩ | ⟨f,U,rfl⟩
    ·exact(m.ds N q' t h1 h2 h3 h4).2.1
    ·let⟨_,_,_,_,_,_,_,_,_,_,_,_,_,p,_⟩:=D.fok.op f U;exact p
   have hgo:Xl ops So o run:=hg.congr λt M=>hX.env t (hfree t (vj M))
   have keep:∀{l p S'},Keeps S S' o.dst l p->(taken.all λr=>qc (Yd al (zG o)) r || zgm ops S l p o.dst r)=G->∀N q',N∈taken->onX X N=O->ops[N]?=E q'->QV P ops S' q':=λhk B N q' h1 h2 h3=>by
    have:=Dp.1 B N h1;rw[hanc N h2,D4] at this;exact(m.qv N q' h1 h2 h3).keep hk h3 this
   have fin:∀{S' S1 a' w'},next S' taken=E r->(∀N q',N∈taken->onX X N=O->ops[N]?=E q'->QV P ops S' q')->At n st σs κ S1 a' w'->EqX (flD ops taken X F) S1 S'->zel ops j a a'->wpAny P .any ops (Zj n w0 σ0 κ K r) y (X.setIfInBounds j G) a' w':=λh' hq' Y hX' M=>
    hnext _ h' (m.sync ho R hjFm hd A hq') (zhA hlt x hn) ⟨⟨st,σs,hh,Y⟩,hX'.weaken λt M=>setX hjt M,D.fok.next M hjF⟩
   have tk0:∀{v:Value},zel ops j a (a.put o.dst v):=λ{v} t M=>VM (M o ho)
   unfold wpOp;rw[ho];simp only[hgo.wanted hA];cases run with
   |false=>
    simp only[jk,jp];rw[U0] at h;let⟨B,h⟩:=zb h;split at h
    · rename_i d hdst;let⟨hdn,h⟩:=zb h;have tk1:zel ops j a (a.put (E d) undef):=jE
      rw[hdst];refine fin h (keep (l:=[]) (p:=λ_=>O) ?_ B) (hA.skip hdn) ⟨hX.heap,λt M=>?_⟩ tk1
      ·rw[hdst];exact .put
      · show upd So.env d _ t=upd S.env d _ t;by_cases e:t=d
        ·subst e;rw[zp,zp]
        ·rw[zq e,zq e];exact hX.env t M
    ·rename_i hdst;rw[hdst];exact fin h (keep (l:=[]) (p:=λ_=>O) (.refl S) B) hA hX λ_ _=>rfl
   |true=>
    simp only[jq];left;rw[Dq] at h;split at h
    ·cases h
    · rename_i l p htc;let⟨B,h⟩:=zb h;rw[Vp] at h;let⟨out,hs,h⟩:=gd h;have hsx:=zz4 (q:=qo) (Γ:=Γ) (P:=P) (n:=n) (o:=o) hX hvB (λt M=>hfree t (D3 _ (zb6 M)));rw[hs] at hsx;let⟨out',hs',hrel⟩:=hsx.inv;let⟨L,b,Z,PV,hAb,hinv,U⟩:=hA;have base:o.wp P a w (λa' w'=>∃S' S1,out = .go S'/\EqX (flD ops taken X F) S1 S'/\At n st σs κ S1 a' w') (Zj n w0 σ0 κ K r):=by
        refine zkA hΓ n κ st σs hh.gl o So L b Z PV hAb _ hs' a w hinv U _ _ ?_ ?_
        · intro S1 e L' Z' PV' a' w' hi' hf' Y;subst e;cases out with
          |pan v T=>grind
          |go S'=>exact⟨S',S1,rfl,hrel,L',b,Z',PV',Y,hi',hf'⟩
        · intro v S1 e u Z' PV' w' hi' Y hp;subst e;cases out with
          |go S'=>grind
          |pan v' S'=>
           obtain⟨rfl,hrel⟩:=hrel;let⟨ν,vs,ids,Y⟩:=Y;have hi3:Inv w0 σ0 Z' PV' w':=(hh.home hi').sub_own λg k=>by
            let⟨f1,f2,s1,s2,l1,l2,dd⟩:=k.split;exact s1.mono (.refl _) l1
           refine⟨v,_,h,u,L,b,Z',PV',rfl,hp,⟨ν,vs,ids,Y.mask (hrel.weaken λt hD=>?_)⟩,hi3,U⟩;rcases hD with⟨N,q',h1,h2,h3,h4⟩ | ⟨f,U,rfl⟩
           ·exact qU.2 ⟨q',UM (by rw[qW];exact h3),h4⟩
           ·let⟨q',_,_,_,p1,p2,_⟩:=D.fok.op f U;exact qU.2 ⟨q',UM (by rw[qW];exact p1),p2⟩
      refine qO ?_ (znc base);rintro a' w' ⟨⟨S',S1,rfl,hrel',Y⟩,M⟩;exact fin h (keep (zrf hs htc) B) Y hrel' λt ht'=>M t (ht' o ho)
  induction ord with
  |nil=>
   intro cl taken al S K r h X a w So F m hn D;have h0:=h;let⟨B,h⟩:=zb h;have hcl:∀i,i < ops.size->i∈cl:=λi hi=>zR.1 (Dp.1 B i (D0.2 hi))
   refine⟨λhr=>?_,λj hj=>quiet [] h0 m hn D hj (hcl j ?_)⟩
   · have hon:∀i∈taken,onX X i=true:=λi hi=>by
       cases e:onX X i with
       |true=>rfl
       |false=>
        let⟨k,q,k1,k2,k3,k4⟩:=zsO m.wf m.inc ⟨i,m.tcl i hi,e⟩;have:k∈qx .any ops X:=(YW m.size).2 ⟨k2,q,k3,k4⟩;grind
     exact⟨S,h,D.done (noF m D.fok hcl) λt M=>zix hon t M⟩
   ·let⟨_,q,hq,_⟩:=(YW m.size).1 hj;grind
  |cons io ord ih=>
   intro cl taken al S K r h X a w So F m hn D;let⟨i,early⟩:=io;have h0:=h;have some_ready:∀{i:Nat} {o:Oper},ops[i]?=E o->i ∉ cl->i ∉ F.map Fl.i->(∀k∈zG o,k∈cl)->qx .any ops X=[]->False:=by
    intro i o ho hi hiF hd hr;have x:onX X i=false:=by
     cases e:onX X i with
     |false=>rfl
     |true=>exact((m.sub i e).elim hi hiF).elim
    by_cases hx:∃k∈cl,onX X k=O
    ·let⟨k,q,k1,k2,k3,k4⟩:=zsO m.wf m.inc hx;have:k∈qx .any ops X:=(YW m.size).2 ⟨k2,q,k3,k4⟩;grind
    · have:i∈qx .any ops X:=(YW m.size).2 ⟨x,o,ho,λk hk=>by
        grind⟩
      grind
   have dn:∀{i k:Nat},i ∉ F.map Fl.i->onX X k=G->k∈cl\/(k∈WT C P ops n/\k≠i):=λ{i k} hiF hk=>by
    rcases m.sub k hk with z | z
    ·exact .inl z
    ·let⟨f,U,e⟩:=Dw.1 z;exact .inr ⟨e ▸ D.fok.fl f U,λe'=>hiF (e' ▸ z)⟩
   cases hb:qb i 4096 with
   |false=>
    rw[zdD hb] at h;cases hrd:wd ops cl ((i - 4096) / 64) && wd ops cl ((i - 4096) % 64) with
    |false=>rw[hrd,U0] at h;grind
    |true=>
    rw[hrd,Dq] at h;let⟨hchk,h⟩:=zb h;generalize (i - 4096) / 64=i1 at h hchk;generalize (i - 4096) % 64=i2 at h hchk;let⟨g1,g2⟩:=za5 h;by_cases hF1:i1∈F.map Fl.i
    ·let⟨S',So',F',al',h',hc',hR'⟩:=absorb hgl g1 hF1 m D;grind
    by_cases hF2:i2∈F.map Fl.i
    ·let⟨S',So',F',al',h',hc',hR'⟩:=absorb hgl g2 hF2 m D;grind
    let⟨o1,run1,ho1,hi1,hd1,_,hg1,s1⟩:=Y9 g1;let⟨o2,run2,ho2,hi2,hd2,_,hg2,s2⟩:=Y9 g2;refine⟨λhr=>(some_ready ho1 hi1 hF1 hd1 hr).elim,λj hj=>?_⟩;by_cases R:j∈cl
    ·grind
    · obtain ⟨hjoff,q,hq,A⟩:=(YW m.size).1 hj;have hji:(j=i1\/j=i2)\/j∈WT C P ops n:=by
        have:=Dp.1 hchk j (D0.2 (U1.1 hq).1);rw[hq] at this;simp only[UH,Do] at this;rcases this with(z | z) | z | z | z
        ·exact .inl (.inl (ge z))
        ·exact .inl (.inr (ge z))
        ·exact .inr (zR.1 z)
        ·exact absurd (zR.1 z) R
        · exfalso
          have:zb7 (zG q) (rmL i1 (rmL i2 (WT C P ops n))++cl)=true:=Dp.2 λk hk=>zR.2 (by
           rcases dn hF1 (A k hk) with z | ⟨z1,z2⟩
           ·grind
           · rcases dn hF2 (A k hk) with z | ⟨z3,z4⟩
             ·grind
             ·exact D3 _ (Dz.2 ⟨Dz.2 ⟨z1,zsP z4⟩,zsP z2⟩))
          grind
      rcases hji with(e | e) | e
      ·subst e;grind
      ·subst e;grind
      grind
   |true=>
   cases hrd:wd ops cl i with
   |false=>rw[zc1 hb hrd] at h;grind
   |true=>
   rw[zdC hb hrd] at h;cases early with
   |true=>
    have hiF:i ∉ F.map Fl.i:=λhm=>zfb h hm D.fok
    let⟨o,run,ho,hi,hd,hgt,hg,h⟩:=Y9 h;have x:onX X i=false:=by
     grind
    have hearly:WS ops n cl taken i o=true:=by
     unfold yH at h;rw[Dq] at h;exact(zb h).1
    have hgl:∀t∈ww ops o,o.dst≠E t:=λt M e=>by
     unfold WS at hearly;rw[e] at hearly;simp only[gf,Do] at hearly;rw[zR.2 (vj M)] at hearly;grind
    let⟨he,S',h,hv,hS,hh⟩:=zou hg hgl h;refine ih h (m.early ho hi hiF hd he hv hS hh) hn ⟨D.at_,⟨D.eqx.heap.trans hh.symm,λt M=>?_⟩,D.fok⟩;have hne:o.dst≠E t:=λe=>M (.inl ⟨i,o,je,x,ho,e⟩)
    rw[hS t hne];refine D.eqx.env t λhD=>M ?_
    rcases hD with⟨N,q',h1,h2⟩ | z
    ·exact .inl ⟨N,q',Du _ h1,h2⟩
    ·exact .inr z
   |false=>
    by_cases hiF:i∈F.map Fl.i
    ·let⟨S',So',F',al',h',hc',hR'⟩:=absorb hgl h hiF m D;grind
    let⟨o,run,ho,hi,hd,hgt,hg,h⟩:=Y9 h;have honly:zos ops (WT C P ops n) cl i=true:=by
     unfold yH at h;rw[U0] at h;exact(zb h).1
    refine⟨λhr=>(some_ready ho hi hiF hd hr).elim,λj hj=>?_⟩;by_cases R:j∈cl
    ·grind
    · obtain ⟨hjoff,q,hq,A⟩:=(YW m.size).1 hj;have hji:j=i\/j∈WT C P ops n:=by
        have:=Dp.1 honly j (D0.2 (U1.1 hq).1);rw[hq] at this;simp only[UH,Do] at this;rcases this with z | z | z | z
        ·exact .inl (ge z)
        ·exact .inr (zR.1 z)
        ·exact absurd (zR.1 z) R
        · exfalso
          have:zb7 (zG q) (rmL i (WT C P ops n)++cl)=true:=Dp.2 λk hk=>zR.2 (by
           rcases dn hiF (A k hk) with z | ⟨z1,z2⟩
           ·grind
           ·exact D3 _ (Dz.2 ⟨z1,zsP z2⟩))
          grind
      rcases hji with e | e
      ·grind
      grind
theorem zmJ(g:C.gl w0.w σ0)(j:∀s∈Γ,s.OK P){K:XE C->St C->Uv ρ}{r:ρ}(h:ZN (Y7 qo Γ P n) (tch Γ P) P n ops ord [] [] [] S K=E r)(o:P.follows .mixedOrders=G)(hA:At n w0 σ0 κ S a w):(Code.region id ops G).wp P (Zj n w0 σ0 κ K r) a w:=by
 refine wp_region_any o ?_;let⟨L,b,Z,PV,p,hi,c⟩:=hA;have h0:∀i,onX (qL ops.size O) i=false:=λi=>by
  unfold onX;rw[Uz];cases e:(qL ops.size O)[i]? with
  |none=>rfl
  |some v=>grind
 refine zwI g j _ _ h (X:=qL ops.size O) (F:=[]) ⟨je,λi hi=>jE,λi hi=>(by cases hi),trivial,λi hi=>(by cases hi),λi hi=>(by cases hi),λi hi=>(by cases hi),λk q _ t=>jE,λr q l=>(by cases l),λr q d l=>(by cases l),λi m o=>(by cases o)⟩ ?_ ⟨⟨w0,σ0,⟨λk=>by simpa[frF] using k,g⟩,L,b,Z,PV,p,hi.drew,c⟩,⟨rfl,λ_ _=>rfl⟩,⟨λf c=>(by cases c),λf c=>(by cases c),λf c=>(by cases c),List.nodup_nil⟩⟩;grind
end
end
end Go.Px
