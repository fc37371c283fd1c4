/- Part A5: PxM21 PxMK2 PxMQ PxM22 PxMO5 PxM23 PxM24 PxM2 -/
import Derived.Test.YtpcipfnohfefhaaGreatDoorA4
set_option linter.unusedSectionVars false
set_option linter.unusedVariables false
set_option linter.unusedSimpArgs false
namespace Go.Px
open _root_.Array renaming replicate->qM,mem_toList_iff->qN,getElem?_eq_getElem->qO,getElem?_toList->qX,getElem?_setIfInBounds_ne->qY
open Bool renaming true->G,false->I,or_true->qL,true_or->qV,cond_eq_ite->qW
open Go.Call renaming operands->qD
open Go.Op renaming operands->V,slice->qQ
open Go.Region renaming ready->qB,wanted->qE,binds->qP
open List renaming range->qC,mem_cons_self->qG,mem_append_right->qH,perm_middle->qK,nodup_cons->qT,mem_filterMap->qU
open Nat renaming beq->M,blt->W,testBit->qs,ble->qA,shiftLeft->qI,beq_refl->qJ,testBit_or->qR,lor->qS
open _root_.Option renaming some->E,none->O,map->qF
variable{K:Act->World->Prop}{Q:Exit->Act->World->Prop}{T0 e f i id j k m off:Nat}{a:Act}{bl:Bl}{dst:Us Nat}{es:List ESh}{hi lo:Us Operand}{ins:Sig}{l:List Nat}{okB run:Bool}{ord:List (Nat×Bool)}{p:Nat->Bool}{q:Oper}{s:Sh}{ti:TypeInfo}{w:World}{α:Type}
section
theorem Dx:∀(b:Bool),(I || b)=b:=@Bool.false_or
theorem Dw:∀{α:Type _}{a:α}{«as»:List α}(bs:List α),a∈«as»->a∈«as»++bs:=@List.mem_append_left
variable [Dfr]
section
variable {κ:Kp}{C:Cod}{S:St C}{ν:Val}{vs:Nat->List Value}{ids:List Nat}{L:List (Nat×Value)}{b:Nat->Value}{Z:FS}{PV:List Priv}{P:Program}
variable {n:Nat}{w0:Start}{σ0:FS}
def lent:Op->Us (Operand×List Operand)
 | .call ⟨.value c,args,_⟩=>E (c,args.toList)
 |_=>O
def x6(S:St C)(x:Operand):Us (Out C):=match S.op x with
 | .ifc t A=>chk (A.base || A.flat) (E (.pan (.ifc t A) S))
 |_=>O
structure Opts where
 fs:Bool
def wn(q:Opts)(P:Program)(S:St C)(d:Nat)(ty t:TypeId)(x:Operand)(lo hi mx:Us Operand):Us (Out C):=match mx with
 |none=>Ys P S d ty t x lo hi
 |_=>O
def x7{D:Nat->Type}(args:List (AV D)):List (AV D)->List (AV D)
 |[.tup ws]=>ws++args
 |caps=>args++caps
def wB(args:List Value):List Value->List Value
 |[.tuple a]=>a.toList++args
 |vs=>args++vs
theorem znx {Z:FS}{ν:Val}{p:Nat->Prop}(hone:∀i,(ν.hdr i).oneCell'=G) {args vals:List Value}{As caps:List (AV C.D)}(hc:zcM caps=G) (ha:VRs C Z ν args As) (hr:VRs C Z ν vals caps) (hoa:AV.oks p As) (hoc:AV.oks p caps) :
    VRs C Z ν (wB args vals) (x7 As caps)/\AV.oks p (x7 As caps)/\∃fi ca:Array Value,zaA f vals = .func (.func f) fi ca/\(fi++args.toArray)++ca=(wB args vals).toArray:=by
  have plain:(∀v∈vals,v.oneCell'=G)\/vals.length≠1->x7 As caps=As++caps->VRs C Z ν (wB args vals) (x7 As caps)/\AV.oks p (x7 As caps)/\∃fi ca:Array Value,zaA f vals = .func (.func f) fi ca/\(fi++args.toArray)++ca=(wB args vals).toArray:=by
    intro h1 h2;have e1:wB args vals=args++vals:=by
      unfold wB;split
      · rename_i a;rcases h1 with h1 | h1
        ·have:=h1 (.tuple a) (by simp);cases this
        grind
      ·rfl
    have e2:zaA f vals = .func (.func f) #[] vals.toArray:=by
      unfold zaA;split
      · rename_i a;rcases h1 with h1 | h1
        ·have:=h1 (.tuple a) (by simp);cases this
        grind
      ·rfl
    rw[e1,h2];exact⟨ha.append hr,AV.oks_append hoa hoc, #[],vals.toArray,e2,by simp⟩
  match vals,caps,hr with
  |[],[],hr=>exact plain (.inl λv hv=>by cases hv) rfl
  |[v],[A],hr=>
    by_cases ht:∃ws,A = .tup ws
    ·obtain⟨ws,rfl⟩:=ht;let⟨us,e,h2⟩:=hr.1;subst e;exact⟨h2.append ha,AV.oks_append hoc.1 hoa,us.toArray, #[],rfl,by simp[wB]⟩
    · have hl:A.leaf=true:=by
        unfold zcM at hc;split at hc
        ·grind
        all_goals grind
      refine plain (.inl λu hu=>by rw[Dl.1 hu];exact hr.1.one hl hone) ?_;unfold x7;grind
  |u::v::l,A::B::cs,hr=>exact plain (.inr (by simp)) (by cases A<;>rfl)
  |[v],A::B::cs,hr=>exact hr.2.elim
  |u::v::l,[A],hr=>exact hr.2.elim
def wo(q:Opts)(Γ:List (Spec C))(P:Program)(d:Nat)(ty:TypeId)(S:St C):Op->Us (Out C)
 | .alloc t=>x5 P S d t
 | .box t x=>chk (YI (S.op x)) (bif C.bz t then zqC S d t (zu (S.op x)) else zbn S d (zu (S.op x)))
 | .buildSlice t m parts=>YX P S d t m parts.toList
 | .slice t x lo hi mx=>match yT P S ty (.slice t x lo hi mx) with
  |some A=>E (.go (S.put d A))
  |none=>wn q P S d ty t x lo hi mx
 | .convert t t' x=>match yT P S ty (.convert t t' x) with
  |some A=>E (.go (S.put d A))
  |none=>O
 | .call ⟨.value c,args,_⟩=>match S.op c with
  | .clo f caps=>chk (zcM caps) (Vf Γ S d f (x7 (args.toList.map S.op) caps))
  |_=>O
 | .call ⟨.builtin .append,args,ts⟩=>match args.toList,ts.toList with
  |[x,y],[t,t']=>chk (M t t') (yU P S d t x y)
  |_,_=>O
 | .makeMap t O=>Xo S d t
 | .lookup t x y I=>Vb P S d t x y
 | .panic x=>x6 S x
 |op=>(yT P S ty op).map λA =>.go (S.put d A)
def Vg(q:Opts)(Γ:List (Spec C))(P:Program)(n:Nat)(o:Oper)(S:St C):Us (Out C):=match o.dst with
 |some d=>chk (W d n) (wo q Γ P d o.type S o.op)
 |none=>match o.op with
  | .store t x y=>yv P S t x y
  | .mapUpdate t x y z=>wm P S t x y z
  | .panic x=>x6 S x
  |_=>O
theorem zko (h:AbsL κ S ν vs ids L b Z PV) {x:Operand}{ty:TypeId}{ps:String}{af:Array Edge}{g:Us (Nat×Bool)} :
    OpA κ P n w0 σ0 ⟨dst,.panic x,ty,ps,af,g⟩ (x6 S x) L b Z PV:=by
  intro out hX a w hi hf K Q hK hP;have hx:=h.op x;unfold x6 at hX;split at hX
  · rename_i t A e;let⟨hb,hX⟩:=zc hX;cases hX;rw[e] at hx;have hk:∀p:Nat->Prop,(AV.ifc t A).ok p:=λp=>by
      rcases(UB _ _).mp hb with hb | hb
      ·exact vM (A :=.ifc t A) hb
      ·exact Wq (A :=.ifc t A) hb
    let⟨u,e2,e3⟩:=hx;have hrun:(execOp a.eval ⟨dst,.panic x,ty,ps,af,g⟩).run P w = .halt (.panic (.iface t u)) w:=by
      rw[hf.eval];show(execOp (opv L b) ⟨dst,.panic x,ty,ps,af,g⟩).run P w=_;simp only[execOp,e2];rfl
    unfold Oper.wp;rw[hrun];refine hP _ _ rfl (.iface t u) Z PV w hi ⟨ν,vs,ids,h⟩ ⟨hk _,λν' _=>VR.congr (ν:=ν) (p:=λ_=>False) (λ_ h=>h.elim) (hk _) ⟨u,rfl,e3⟩⟩
  ·cases hX
theorem zwp (hgl:C.gl w0.w σ0) {Γ:List (Spec C)}(hΓ:∀s∈Γ,s.OK P) (h:AbsL κ S ν vs ids L b Z PV) {c:Operand}{args:Array Operand}{ts:Array TypeId}{d:Nat}(hn:W d n=G) {ty:TypeId}{ps:String}{af:Array Edge}{g:Us (Nat×Bool)}{f:FuncId}{caps:List (AV C.D)}(hc:S.op c = .clo f caps) :
    OpA κ P n w0 σ0 ⟨E d,.call ⟨.value c,args,ts⟩,ty,ps,af,g⟩ (chk (zcM caps) (Vf Γ S d f (x7 (args.toList.map S.op) caps))) L b Z PV:=by
  intro out hX a w hi hf K Q hK hP;let⟨hcaps,hX⟩:=zc hX;have hcv:=h.op c;have hco:=h.oks_op c;rw[hc] at hcv hco;let⟨cvs,e1,e2⟩:=hcv;have hla:AV.oks (λid=>(S.heap id).isSome=G) (args.toList.map S.op):=AV.oks_iff.2 λA hA=>by
    obtain⟨x,_,rfl⟩:=Dp.1 hA;exact h.oks_op x
  let⟨hr,hl,fi,ca,e3,e4⟩:=znx (f:=f) h.one hcaps (zdE h.toAbs args.toList) e2 hla hco;let⟨fn,hfn,hnm,hb,hcalls⟩:=zqK hgl h hr hl hi hΓ hX;have hrun:(execOp a.eval ⟨E d,.call ⟨.value c,args,ts⟩,ty,ps,af,g⟩).run P w = .ok (.enter f (wB (args.toList.map (opv L b)) cvs).toArray) w:=by
    have ha':args.map (opv L b)=(args.toList.map (opv L b)).toArray:=by grind
    rw[hf.eval,<- e4];simp only[execOp,resolve,e1,e3,ha',Deferred.ofValue,UJ,UH,UK,invoke];unfold callFunc;simp only[UJ,UL,UK,hfn,hnm,hb,jj,jo,UH]
  unfold Oper.wp;rw[hrun,Oper.upon_enter];refine Calls.mono hcalls ?_;intro e w' hq;cases e with
  |returned v=>
    obtain⟨S',Z',PV',rfl,hi',hA⟩:=hq;exact hK _ rfl _ Z' PV' _ w' hi' (hf.put (by simpa[UN] using hn) v) hA
  |panicked chain=>
    grind
  |outgrown=>exact hq.elim
theorem zmv (h:AbsL κ S ν vs ids L b Z PV) {op:Op}{d:Nat}(hn:W d n=G) {ty:TypeId}{ps:String}{af:Array Edge}{g:Us (Nat×Bool)} :
    OpA κ P n w0 σ0 ⟨E d,op,ty,ps,af,g⟩ ((yT P S ty op).map λA =>.go (S.put d A)) L b Z PV:=by
  intro out hX;obtain⟨A,he,rfl⟩:=Du.1 hX;exact VV h hn he (VW h he) _ rfl
theorem zwq{q:Opts}{Γ:List (Spec C)}(hΓ:∀s∈Γ,s.OK P)(n:Nat)(κ:Kp):zkj P n κ (Vg q Γ P n):=by
 intro w0 σ0 hgl o S L b Z PV hA out hX;let⟨ν,vs,ids,h⟩:=hA;let⟨dst,op,ty,ps,af,g⟩:=o;cases dst with
 |none=>
  unfold Vg at hX;simp only at hX;split at hX
  ·exact znr h _ hX
  ·exact zl2 h _ hX
  ·exact zko h _ hX
  ·cases hX
 |some d=>
  let⟨hn,hX⟩:=zc hX;have hX:wo q Γ P d ty S op=E out:=hX;unfold wo at hX;split at hX
  ·exact znq h hn _ hX
  ·let⟨hs,hX⟩:=zc hX;rw[qW] at hX;split at hX
   ·exact zqD h hn hs _ hX
   ·exact zqx h hn hs _ hX
  ·exact zl1 h hn _ hX
  ·split at hX
   ·rename_i A he;exact VV h hn he (VW h he) _ hX
   ·unfold wn at hX;split at hX
    ·exact zl3 h hn _ hX
    ·cases hX
  ·split at hX
   ·rename_i A he;exact VV h hn he (VW h he) _ hX
   ·cases hX
  ·split at hX
   ·rename_i f caps hc;exact zwp hgl hΓ h hn hc _ hX
   ·cases hX
  ·split at hX
   ·rename_i args ts x y t t' e1 e2;let⟨ht,hX2⟩:=zc hX;have:=ge ht;subst this;rw[zcN e1,zcN e2];exact zex h hn _ hX2
   ·cases hX
  ·exact zkf h hn _ hX
  ·exact zqB h hn _ hX
  ·exact zko h _ hX
  ·exact zmv h hn _ hX
def zuF(n:Nat):Us Nat->Bool
 |some d=>W d n
 |none=>G
def stp(q:Opts)(Γ:List (Spec C))(P:Program)(n:Nat)(o:Oper)(S:St C):Us (Out C):=match Y4 P S o.dst o.op with
 |some k=>chk (zuF n o.dst) (Vq P S k)
 |none=>Vg q Γ P n o S
theorem zkp{q:Opts}{Γ:List (Spec C)}(hΓ:∀s∈Γ,s.OK P)(n:Nat)(κ:Kp):zkj P n κ (stp q Γ P n):=by
 intro w0 σ0 hgl o S L b Z PV hA out hX;unfold stp at hX;split at hX
 ·rename_i X hN;let⟨hd,hX2⟩:=zc hX;let⟨ν,vs,ids,h⟩:=hA;let⟨dst,op,ty,ps,af,g⟩:=o;exact zx0 h (λd e=>by subst e;exact hd) hN out hX2
 ·exact zwq hΓ n κ w0 σ0 hgl o S L b Z PV hA out hX
end
omit [Dfr] in
theorem xm.loopO:xm (λ{s β} f x=>loopO f x):=λf x y h=>W0.1 h
theorem xm.iter(k:Nat):xm (λ{s β} f x=>Z8 f k x):=λf x y h=>⟨k,h⟩
end
section
variable [Dfr]
section
variable {C:Cod}{S:St C}{P:Program}{ρ:Type}{Γ:List (Spec C)}
theorem zfH{f:XE C->St C->Us (Out C)}{K:Out C->Us ρ}{k:XK}{g:Sig}{y:XK.ty C k g}:(Ya k g y f).bind K=Ya k g y λe Sr=>(f e Sr).bind K:=by
 cases k<;>rfl
theorem Xr{f:XE C->St C->Us (Out C)}{K:Out C->Us ρ}:∀{outs:List (XK×Sig)}{r:zi C outs},(zT outs r f).bind K=zT outs r λe Sr=>(f e Sr).bind K
 |[],r=>r.elim
 |[o],r=>zfH
 |o::o2::l,r=>by
  cases r with
  |inl a=>exact zfH (k:=o.1) (g:=o.2) (y:=a)
  |inr y=>exact Xr (outs:=o2::l) (r:=y)
def Vh(s:Spec C)(d:Nat)(S:St C)(x:s.ins.ty C)(K:Out C->Us ρ):Us ρ:=
 chk s.ins.es.isEmpty ((s.F x).bind λr=>zT s.outs r λe Sr=>(zaU S d s.nr e Sr).bind K)
def zbz:(outs:List (XK×Sig))->zi C outs->(XE C->St C->List ESh->α)->α
 |[],y,_=>y.elim
 |[o],y,K=>Ya o.1 o.2 y λe S=>K e S o.2.es
 |o::o2::r,y,K=>match(y:XK.ty C o.1 o.2⊕zi C (o2::r)) with
  | .inl a=>Ya o.1 o.2 a λe S=>K e S o.2.es
  | .inr y=>zbz (o2::r) y K
theorem zaD{K:XE C->St C->List ESh->α}:∀{outs:List (XK×Sig)}{r:zi C outs},zbz outs r K=zT outs r λe S=>K e S (yi outs r)
 |[],r=>r.elim
 |[o],r=>rfl
 |o::o2::l,r=>by
  cases r with
  |inl a=>rfl
  |inr y=>exact zaD (outs:=o2::l) (r:=y)
theorem zfI{k:XK}{g:Sig}{y:XK.ty C k g}:Ya k g y (λ_ _=>(none:Us α))=none:=by cases k<;>rfl
theorem zcU:∀{outs:List (XK×Sig)}{r:zi C outs},zT outs r (λ_ _=>(none:Us α))=O
 |[],r=>r.elim
 |[o],r=>zfI (k:=o.1) (g:=o.2) (y:=r)
 |o::o2::l,r=>by
  cases r with
  |inl a=>exact zfI (k:=o.1) (g:=o.2) (y:=a)
  |inr y=>exact zcU (outs:=o2::l) (r:=y)
def zbA(s:Spec C)(d:Nat)(S2:St C)(bl:Bl)(x:s.ins.ty C)(K:Out C->Us ρ):Us ρ:=
 (s.F x).bind λr=>zbz s.outs r λe Sr es=>chk (qA s.ins.es.length es.length) ((wR S2 d s.nr bl es e Sr).bind K)
theorem zeC{s:Spec C}{d:Nat}{S2:St C}{x:s.ins.ty C}{K:Out C->Us ρ}:zbA s d S2 bl x K=(xq s d S2 bl x).bind K:=by
 unfold zbA xq;rw[gh];congr 1;funext r;rw[zaD,zy,Xr];cases qA s.ins.es.length (yi s.outs r).length with
 |true=>rfl
 |false=>exact zcU
def zbB(s:Spec C)(d:Nat)(S:St C)(x:s.ins.ty C)(K:Out C->Us ρ):Us ρ:=
 (s.F x).bind λr=>zbz s.outs r λe Sr es=>chk (zuE e) ((wR S d s.nr [] es e Sr).bind K)
theorem zeD{s:Spec C}{d:Nat}{x:s.ins.ty C}{K:Out C->Us ρ}:zbB s d S x K=(yC s d S x).bind K:=by
 unfold zbB yC;rw[gh];congr 1;funext r;rw[zaD,Xr];simp only[zy]
def zbC(Γ:List (Spec C))(S:St C)(d f:Nat)(As:List (AV C.D))(K:Out C->Us ρ):Us ρ:=match Γ with
  |[]=>O
  |s :: Γ=>bif M s.f f && (s.view || s.viewO) then wS S As λBs=>chk (okX As Bs) (X8 s.ins.ts (zfF S As Bs) λT=>match YC s.ins T As.length with
     |some (_,_,x)=>bif s.view then Vh s d S x K else zbB s d S x K
     |none=>O) else zbC Γ S d f As K
theorem zl7{s:Spec C}{d:Nat}{x:s.ins.ty C}{K:Out C->Us ρ}:Vh s d S x K=(yO s d S x).bind K:=by
 simp only[Vh,yO,zy,gh,Xr]
theorem zeE{d:Nat}{As:List (AV C.D)}{K:Out C->Us ρ}:∀{Γ:List (Spec C)},zbC Γ S d f As K=(xr Γ S d f As).bind K
 |[]=>rfl
 |s::Γ=>by
  unfold zbC xr;cases(M s.f f && (s.view || s.viewO)) with
  |false=>exact zeE
  |true=>
   simp only[Dk];rw[zbw];congr 1;funext Bs;rw[zy,zbx];congr 1;congr 1;funext T;cases YC s.ins T As.length with
   |none=>rfl
   |some q=>
    let⟨S2,bl,x⟩:=q;simp only;cases s.view with
    |true=>exact zl7
    |false=>exact zeD
def Vi(Γ0 Γ:List (Spec C))(S:St C)(d f:Nat)(As:List (AV C.D))(K:Out C->Us ρ):Us ρ:=match Γ with
 |[]=>zbC Γ0 S d f As K
 |s::Γ=>bif M s.f f then(match YM s.ins S As with
  |some (S2,bl,x)=>bif s.view then Vh s d S x K else bif s.viewO then zbB s d S x K else zbA s d S2 bl x K
  |none=>Vi Γ0 Γ S d f As K) else Vi Γ0 Γ S d f As K
theorem zaE{Γ0:List (Spec C)}{d:Nat}{As:List (AV C.D)}{K:Out C->Us ρ}:∀{Γ:List (Spec C)},Vi Γ0 Γ S d f As K=(YD Γ0 Γ S d f As).bind K
 |[]=>zeE
 |s::Γ=>by
  unfold Vi YD;cases M s.f f with
  |false=>exact zaE
  |true=>
   simp only[Dk];cases YM s.ins S As with
   |none=>exact zaE
   |some q=>
    let⟨S2,bl,x⟩:=q;simp only;cases s.view with
    |true=>
     simp only[Dk,Vh,yO,zy,gh,Xr]
    |false=>
     rw[Ux,Ux];cases s.viewO with
     |true=>simp only[Dk,zeD]
     |false=>simp only[Ux,zeC]
def zmw(Γ:List (Spec C))(S:St C)(d f:Nat)(As:List (AV C.D))(K:Out C->Us ρ):Us ρ:=Vi Γ Γ S d f As K
theorem zny{d:Nat}{As:List (AV C.D)}{K:Out C->Us ρ}:zmw Γ S d f As K=(Vf Γ S d f As).bind K:=zaE
def eff:Op->Bool
 | .slice _ _ _ _ _=>G
 | .convert _ _ _=>G
 |op=> !rdE op
where
 rdE:Op->Bool
  | .alloc _=>I
  | .box _ _=>I
  | .makeSlice _ _ _=>I
  | .buildSlice _ _ _=>I
  | .call ⟨.value _,_,_⟩=>I
  | .call ⟨.builtin .append,_,_⟩=>I
  | .makeMap _ _=>I
  | .lookup _ _ _ _=>I
  | .panic _=>I
  |_=>G
def VY(P:Program)(S:St C)(d:Nat)(t:TypeId)(x y:Operand)(K:Out C->Us ρ):Us ρ:=
  match P.underlying t with
  |some (.slice e)=>(match P.info? e with
    |some ti=>(match ti.zero with
      |some zv=>chk (M ti.size (C.size e) && (W 0 (C.size e) && (M zv.cells.size (C.size e) && isNone (S.heap (nid d 0)))))
          (match S.op x with
          | .row id=>(match S.heap id with
            |some (.row T s)=>chk (M T e) ((zbr S T (S.op y)).bind λts=>(zp ti.bytes s ts).bind λs'=>
                K (.go {env:=upd (S.sub id .und).env d (.row (nid d 0)),heap:=upd (S.sub id .und).heap (nid d 0) (E (.row T s'))}))
            |_=>O)
          | .nils=>(zbr S e (S.op y)).bind λts=>(zp ti.bytes ⟨[],I⟩ ts).bind λs'=>
                K (.go {env:=upd S.env d (.row (nid d 0)),heap:=upd S.heap (nid d 0) (E (.row e s'))})
          |_=>O)
      |none=>O)
    |none=>O)
  |_=>O
theorem zcV{d:Nat}{t:TypeId}{x y:Operand}{K:Out C->Us ρ}:VY P S d t x y K=(yU P S d t x y).bind K:=by
 unfold VY yU;cases P.underlying t with
 |none=>rfl
 |some td=>
  cases td<;>first | rfl | skip
  rename_i e;simp only;cases P.info? e with
  |none=>rfl
  |some ti=>
   simp only;cases ti.zero with
   |none=>rfl
   |some zv=>
    simp only[zy];congr 1;cases S.op x<;>first | rfl | skip
    ·rename_i id;simp only;cases S.heap id with
     |none=>rfl
     |some en=>
      cases en with
      |cell cs=>rfl
      |row T s=>simp only[zy,gh,ji]
      |obj q T b s=>rfl
      |orow T s g=>rfl
    grind
def zuG{D:Nat->Type}:AV D->Bool
 | .str _=>G
 | .sl _ _ _=>G
 | .nx _ _ _ _=>G
 |_=>I
def zhV(P:Program)(S:St C)(d:Nat)(ty t:TypeId)(A:AV C.D)(x:Operand)(lo hi:Us Operand)(K:Out C->Us ρ):Us ρ:=match A with
 | .row id=>zdH P (S.frz1 id) ty (.slice t x lo hi O) λA=>K (.go ((S.frz1 id).put d A))
 |_=>O
def Vj(P:Program)(S:St C)(t:TypeId)(x y:Operand)(K:Out C->Us ρ):Us ρ:=match P.info? t,S.op x with
 |some ti,.pr _ _ _ _=>go ti (S.frz (AV.rows (S.op y)))
 |_,_=>(yv P S t x y).bind K
where
  go (ti:TypeInfo) (S:St C):Us ρ:=match S.op x with
    | .pr id T i off=>(match S.heap id with
      |some (.row T' s)=>chk (M T T' && (YI (S.op y) && (M ti.size (zu (S.op y)).length && (qA (off+(zu (S.op y)).length) (C.size T') && W 0 (zu (S.op y)).length))))
          ((zb s i).bind λq=>(C.imp T' ((C.emb T' q).take off++zu (S.op y)++(C.emb T' q).drop (off+(zu (S.op y)).length))).bind λq'=>
            K (.go {S with heap:=upd S.heap id (E (.row T' (s.set i q')))}))
      |_=>O)
    |_=>O
theorem zl8{x y:Operand}{K:Out C->Us ρ}:Vj.go x y K ti S=(yv.go x y ti S).bind K:=by
 unfold Vj.go yv.go;cases S.op x<;>first | rfl | skip
 rename_i id T i off;simp only;cases S.heap id with
 |none=>rfl
 |some e=>
  cases e with
  |cell cs=>rfl
  |row T' s=>simp only[zy,gh,ji]
  |obj q T b s=>rfl
  |orow T s g=>rfl
theorem zl9{t:TypeId}{x y:Operand}{K:Out C->Us ρ}:Vj P S t x y K=(yv P S t x y).bind K:=by
 unfold Vj;split
 ·rename_i ti id T i off h1 h2;rw[zl8];unfold yv;rw[h1,h2]
 ·rfl
def zuH(q:Opts)(Γ:List (Spec C))(P:Program)(n:Nat):yL C:=λo S _ K=>match o.dst with
 |some d=>chk (W d n) (match o.op with
  | .call ⟨.value c,args,_⟩=>(match S.op c with
   | .clo f caps=>chk (zcM caps) (zmw Γ S d f (x7 (args.toList.map S.op) caps) K)
   |_=>O)
  | .call ⟨.builtin .append,args,ts⟩=>(match args.toList,ts.toList with
   |[x,y],[t,t']=>chk (M t t') (VY P S d t x y K)
   |_,_=>O)
  | .slice t x lo hi O=>bif zuG (S.op x) then zdH P S o.type (.slice t x lo hi O) λA=>K (.go (S.put d A)) else zhV P S d o.type t (S.op x) x lo hi K
  | .convert t t' x=>(match yT P S o.type (.convert t t' x) with
   |some A=>K (.go (S.put d A))
   |none=>O)
  |op=>bif eff op then(wo q Γ P d o.type S op).bind K else zdH P S o.type op λA=>K (.go (S.put d A)))
 |none=>(match o.op with
  | .store t x y=>Vj P S t x y K
  |_=>(Vg q Γ P n o S).bind K)
theorem zwr{q:Opts}{d:Nat}{ty:TypeId}{op:Op}(h:eff op=I):wo q Γ P d ty S op=(yT P S ty op).map λA =>.go (S.put d A):=by
 unfold wo;split<;>first | (cases h;done) | rfl
theorem zse{q:Opts}{n:Nat}{o:Oper}{K:Out C->Us ρ}:zuH q Γ P n o S ρ K=(Vg q Γ P n o S).bind K:=by
 let⟨dst,op,ty,ps,af,g⟩:=o;cases dst with
 |none=>cases op<;>first | rfl | exact zl9
 |some d=>
  show chk (W d n) _=(chk (W d n) (wo q Γ P d ty S op)).bind K;rw[zy];congr 1;simp only;split
  ·rename_i c args ts;unfold wo;simp only;cases S.op c<;>first | rfl | (simp only[zy];rw[zny])
  ·rename_i args ts;unfold wo;simp only;generalize args.toList=l;generalize ts.toList=m
   match l,m with
   |[],_=>rfl
   |[_],_=>rfl
   |[x,y],[]=>rfl
   |[x,y],[_]=>rfl
   |[x,y],[t,t']=>simp only[zy,zcV]
   |[x,y],_::_::_::_=>rfl
   |_::_::_::_,_=>rfl
  ·rename_i t x lo hi;unfold wo;simp only[wn];cases hf:zuG (S.op x) with
   |false=>
    have he:yT P S ty (.slice t x lo hi O)=none:=by
     show xl P S t (S.op x) lo hi=O;revert hf;unfold xl;cases S.op x<;>intro hf<;>first | (cases hf;done) | skip
     all_goals (split<;>first | rfl | simp_all)
    rw[Ux,he];simp only;unfold zhV Ys;cases S.op x<;>first | rfl | skip
    simp only;rw[zbs,gh];rfl
   |true=>
    rw[Dk,zbs];have hn:Ys P S d ty t x lo hi=none:=by
     unfold Ys;cases hx:S.op x<;>rw[hx] at hf<;>first | (cases hf;done) | rfl
    grind
  ·rename_i t t' x;unfold wo;grind
  ·cases he:eff op with
   |true=>rfl
   |false=>
    rw[Ux,zbs,zwr he];cases yT P S ty op<;>rfl
def zgY(P:Program)(S:St C)(d:Nat)(t:TypeId)(x y:Operand)(K:Out C->Us ρ):Us ρ:=match x with
 | .tmp tx=>(match S.env tx with
  | .nx id T i .whole=>wX S tx id T i (nid d 1) λS1=>VY P S1 d t x y K
  |_=>O)
 |_=>O
theorem znz{d:Nat}{t:TypeId}{x y:Operand}{K:Out C->Us ρ}:zgY P S d t x y K=(wY P S d t x y).bind K:=by
 unfold zgY wY;cases x<;>first | rfl | skip
 rename_i tx;simp only;cases S.env tx<;>first | rfl | skip
 rename_i id T i nx;cases nx<;>first | rfl | skip
 simp only[zn2];congr 1;funext S1;exact zcV
def znA(P:Program)(S:St C)(K:Out C->Us ρ):KN->Us ρ
 | .st t x y=>Xt P S t x y K
 | .apn d t t' x y=>chk (M t t') (zgY P S d t x y K)
 | .apo d t t' x y=>chk (M t t') (Wy P S d t x y K)
 | .bl d t i m y=>chk (M i 0 && M m 1) (Xu P S d t y K)
theorem zsf{k:KN}{K:Out C->Us ρ}:znA P S K k=(Vq P S k).bind K:=by
 cases k<;>simp only[znA,Vq,zy]
 ·exact zkH
 ·rw[znz]
 ·rw[zn3]
 ·rw[zkO]
def YY(q:Opts)(Γ:List (Spec C))(P:Program)(n:Nat):yL C:=λo S _ K=>match Y4 P S o.dst o.op with
 |some k=>chk (zuF n o.dst) (znA P S K k)
 |none=>zuH q Γ P n o S _ K
theorem vN{q:Opts}{n:Nat}{o:Oper}{K:Out C->Us ρ}:YY q Γ P n o S ρ K=(stp q Γ P n o S).bind K:=by
 unfold YY stp;cases Y4 P S o.dst o.op with
 |some k=>simp only[zy,zsf]
 |none=>exact zse
theorem zkq{q:Opts}{n:Nat}{o:Oper}{K:Out C->Us ρ}:YY q Γ P n o S ρ K=(YY q Γ P n o S _ E).bind K:=by
 rw[vN,vN,gh];rfl
end
end
section
variable [Dfr]
section
variable {κ:Kp}{C:Cod}{S T:St C}{ν:Val}{vs:Nat->List Value}{ids:List Nat}{L:List (Nat×Value)}{b:Nat->Value}{Z:FS}{PV:List Priv}{P:Program}{ρ:Type}
variable {t t' ty:TypeId}{x y z:Operand}{d:Nat}{ps:String}{af:Array Edge}{g:Us (Nat×Bool)}{A:AV C.D}{n:Nat}{w0:Start}{σ0:FS}{o:Oper}{D:Nat->Prop}
def zcW(P:Program)(S:St C)(t:TypeId)(m:Nat)(parts:List (Nat×Operand)):Us (AV C.D):=match P.underlying t with
  |some (.slice e)=>(match P.info? e with
    |some ti=>(match ti.zero with
      |some zv=>chk (M ti.size (C.size e) && (W 0 (C.size e) && (qA (m * C.size e) 16777216 && (M parts.length m && zdG parts 0))))
          ((Yq S e (parts.map (·.2))).bind λxs=>E (.sl e ⟨xs,G⟩ I))
      |none=>O)
    |none=>O)
  |_=>O
theorem zqL(h:AbsL κ S ν vs ids L b Z PV)(hn:W d n=G){parts:Array (Nat×Operand)}(hX:zcW P S t m parts.toList=E A):OpA κ P n w0 σ0 ⟨E d,.buildSlice t m parts,ty,ps,af,g⟩ (E (.go (S.put d A))) L b Z PV:=by
 unfold zcW at hX;split at hX
 ·rename_i e hu;split at hX
  ·rename_i ti hi;split at hX
   ·rename_i zv hz;let⟨hc,hX2⟩:=zc hX;simp only[gf] at hc;let⟨c1,c2,c3,c4,c5⟩:=hc;let⟨xs,hxs,hX3⟩:=gc hX2;cases hX3;let⟨r1,r2,r3⟩:=zcO h hxs;have hlen:((parts.toList.map (·.2)).map (opv L b)).length=m:=by
     have:=ge c4;simpa using this
    intro out ho a w hinv hf K Q hK hP;cases ho;refine vd (ρ:=Unit) (p:=E ()) (H:=λp' L' Z' PV'=>∃v,L'=(d,v)::L/\Z'=Z/\PV'=Priv.row (zG C e).o e v ⟨xs,G⟩::PV) (T:=(zG C e).o) (vs:=(parts.toList.map (·.2)).map (opv L b)) (xs:=xs) [] PV hn hu hi hz (ge c1) c3 c2 (zbq c5) hlen (λhh _=>⟨zd.none,zd.none_le _,Ty.rels_o.2 r1,by rw[Dn];exact r2,r3⟩) (λv=>⟨v,rfl,rfl,rfl⟩) () rfl a w hinv hf K Q ?_;rintro p' L' Z' PV' a' w' hp' hi' hf' ⟨v,rfl,rfl,rfl⟩;let⟨h1,hh,hsub,hle,hi2⟩:=hi'.freeze (m:=0) rfl;have hh:zt (zG C e).o e v ⟨xs,G⟩ Z' h1:=hh;refine hK _ rfl _ _ _ _ _ hi2 hf' ⟨ν,vs,ids,(h.le hle).put (A :=.sl e ⟨xs,G⟩ I) (Rv.of_vrel (hh.fast hle λb o v e=>Xm b o v e)).vr trivial⟩
   ·cases hX
  ·cases hX
 ·cases hX
def rdQ:Op->Bool
 | .alloc _=>I
 | .box _ _=>I
 | .makeSlice _ _ _=>I
 | .call ⟨.value _,_,_⟩=>I
 | .call ⟨.builtin .append,_,_⟩=>I
 | .panic _=>I
 |_=>G
def evQ(P:Program)(S:St C)(ty:TypeId):Op->Us (AV C.D)
 | .buildSlice t m parts=>zcW P S t m parts.toList
 |op=>yT P S ty op
def zsg(P:Program)(S:St C)(ty:TypeId)(op:Op)(K:AV C.D->Us ρ):Us ρ:=match op with
  | .buildSlice t m parts=>(match P.underlying t with
    |some (.slice e)=>(match P.info? e with
      |some ti=>(match ti.zero with
        |some zv=>chk (M ti.size (C.size e) && (W 0 (C.size e) && (qA (m * C.size e) 16777216 && (M parts.toList.length m && zdG parts.toList 0))))
            ((Yq S e (parts.toList.map (·.2))).bind λxs=>K (.sl e ⟨xs,G⟩ I))
        |none=>O)
      |none=>O)
    |_=>O)
  |op=>zdH P S ty op K
theorem zws{op:Op}{K:AV C.D->Us ρ}:zsg P S ty op K=(evQ P S ty op).bind K:=by
 unfold zsg evQ;split
 ·unfold zcW;cases P.underlying _ with
  |none=>rfl
  |some td=>
   cases td<;>first | rfl | skip
   simp only;cases P.info? _ with
   |none=>rfl
   |some ti=>
    simp only;cases ti.zero with
    |none=>rfl
    |some zv=>simp only[zy,gh,ji]
 ·exact zbs
theorem zxN{q:Opts}{Γ:List (Spec C)}(h:AbsL κ S ν vs ids L b Z PV)(hn:W d n=G){op:Op}(hr:rdQ op=G)(he:evQ P S ty op=E A):OpA κ P n w0 σ0 ⟨E d,op,ty,ps,af,g⟩ (E (.go (S.put d A))) L b Z PV:=by
 unfold evQ at he;split at he
 ·exact zqL h hn he
 ·have:=zmv (P:=P) (n:=n) (w0:=w0) (σ0:=σ0) (ps:=ps) (af:=af) (g:=g) h (op:=op) hn (ty:=ty);rw[he] at this;exact this
theorem zfJ:∀{l:List Operand},(∀x∈l,S.op x=T.op x)->Yq S e l=Yq T e l
 |[],_=>rfl
 |x::r,h=>by
  unfold Yq;rw[h x (by simp),zfJ λy hy=>h y (by simp[hy])]
end
end
section
variable [Dfr]
section
variable {C:Cod}{S T:St C}{P:Program}
def AV.hid{D:Nat->Type}:AV D->List Nat
 | .row id=>[id]
 | .pc id _=>[id]
 | .pr id _ _ _=>[id]
 | .nx id _ _ _=>[id]
 |_=>[]
def ze0(S:St C):Op->List Nat
 | .load _ x=>(S.op x).hid
 | .indexAddr _ x _=>(S.op x).hid
 | .binOp _ _ x _ _=>match S.op x with
  | .row id=>[id]
  | .nx id _ _ _=>[id]
  |_=>[]
 | .call ⟨.builtin .len,args,_⟩=>match args.toList with
  |[x]=>(S.op x).hid
  |_=>[]
 | .slice _ x _ _ _=>match S.op x with
  | .nx id _ _ _=>[id]
  |_=>[]
 |_=>[]
theorem wT{U:Nat}{i:Int}{K:(U:Nat)->Sl (C.D U)->Us α}(h:S.heap id=T.heap id):zJ S id U i K=zJ T id U i K:=by
 unfold zJ;rw[h]
theorem zqM{t:TypeId}{A:AV C.D}(h:∀id∈A.hid,S.heap id=T.heap id):xT P S t A=xT P T t A:=by
 cases A<;>first | rfl | (simp only[xT];rw[h _ (by simp[AV.hid])]) | skip
 rename_i id U i x;cases x<;>first | rfl | (simp only[xT];rw[wT (h _ (by simp[AV.hid]))])
theorem znB{t:TypeId}{A B:AV C.D}(h:∀id∈A.hid,S.heap id=T.heap id):XF P S t A B=XF P T t A B:=by
 unfold XF;split
 ·split
  ·cases A<;>first | rfl | (cases B<;>first | rfl | (simp only;rw[h _ (by simp[AV.hid])])) | skip
   rename_i id U i x;cases x<;>cases B<;>first | rfl | (simp only;rw[wT (h _ (by simp[AV.hid]))])
  ·rfl
 ·rfl
 ·rfl
theorem zsh{t:TypeId}{A:AV C.D}(h:∀id∈A.hid,S.heap id=T.heap id):wN P S t A=wN P T t A:=by
 unfold wN;cases P.underlying t with
 |none=>rfl
 |some td=>
  cases A<;>first | rfl | (cases td<;>first | rfl | (simp only;rw[h _ (by simp[AV.hid])])) | skip
  rename_i id U i x;cases x<;>cases td<;>first | rfl | (simp only;rw[wT (h _ (by simp[AV.hid]))])
theorem zfK{dflt:Int}{o:Us Operand}(h:∀x,o=E x->S.op x=T.op x):ZC S dflt o=ZC T dflt o:=by
 cases o with
 |none=>rfl
 |some x=>simp only[ZC];rw[h x rfl]
theorem znC{t:TypeId}{A:AV C.D}(h1:∀x,lo=E x->S.op x=T.op x)(h2:∀x,hi=E x->S.op x=T.op x)(h3:∀id U i x,A = .nx id U i x->S.heap id=T.heap id):xl P S t A lo hi=xl P T t A lo hi:=by
 unfold xl;have e1:=λdflt=>zfK (S:=S) (T:=T) (dflt:=dflt) h1
 have e2:=λdflt=>zfK (S:=S) (T:=T) (dflt:=dflt) h2
 simp only[e1,e2];split
 ·rfl
 ·rfl
 ·split
  ·exact wT (h3 _ _ _ _ rfl)
  ·rfl
 ·rfl
theorem zqN{l:List Operand}(h:∀x∈l,S.op x=T.op x):l.map S.op=l.map T.op:=Dm h
theorem znD{t:TypeId}{parts:List (Nat×Operand)}(h:∀q∈parts,S.op q.2=T.op q.2):Wo P S t parts=Wo P T t parts:=by
 unfold Wo;have:parts.map (λq=>(q.1,S.op q.2))=parts.map λq=>(q.1,T.op q.2):=Dm λq hq=>by rw[h q hq]
 rw[this]
theorem zmx{ty:TypeId}{op:Op}(hop:∀x∈op.operands.toList,S.op x=T.op x)(hh:∀id∈ze0 S op,S.heap id=T.heap id):yT P S ty op=yT P T ty op:=by
 unfold yT;cases op
 case move x=>simp only;rw[hop x (by simp[V])]
 case assign x=>simp only;rw[hop x (by simp[V])]
 case pick c a e=>simp only;rw[hop c (by simp[V]),hop a (by simp[V]),hop e (by simp[V])]
 case nilCheck x=>simp only;rw[hop x (by simp[V])]
 case binOp bo t x y t'=>
  simp only;unfold xU;rw[<- hop x (by simp[V]),<- hop y (by simp[V])];cases yW y with
  |true=>rfl
  |false=>
  simp only[Ux];unfold X0;simp only[ze0] at hh;split
  ·grind
  ·rename_i id U i e;rw[e] at hh;split
   ·exact wT (hh id (by simp))
   ·rfl
  ·rfl
 case unOp u t x=>cases u<;>first | rfl | (simp only;rw[hop x (by simp[V])])
 case convert t t' x=>simp only;rw[hop x (by simp[V])]
 case makeFunc f fs caps=>
  cases f<;>first | rfl | skip
  simp only;have hfs:=zqN (l:=fs.toList) λx hx=>hop x (by simp[V];grind)
  unfold zaP;generalize fs.toList=fl at hfs;rw[zqN (l:=caps.toList) λx hx=>hop x (by simp[V];grind)];grind
 case makeInterface t x=>simp only;rw[hop x (by simp[V])]
 case extract x i=>simp only;rw[hop x (by simp[V])]
 case typeAssert x xt t ok=>simp only;rw[hop x (by simp[V])]
 case build t parts=>exact znD λq hq=>hop q.2 (by simp[V];grind)
 case field t x m=>simp only;rw[hop x (by simp[V])]
 case fieldAddr t x m=>simp only;rw[hop x (by simp[V])]
 case indexAddr t x y=>
  simp only;rw[<- hop x (by simp[V]),<- hop y (by simp[V])];exact znB hh
 case load t x=>
  simp only;rw[<- hop x (by simp[V])];exact zqM hh
 case index t x y=>simp only;rw[hop x (by simp[V]),hop y (by simp[V])]
 case slice t x lo hi mx=>
  cases mx with
  |some m=>rfl
  |none=>
   simp only;rw[<- hop x (by simp[V])];simp only[ze0] at hh;exact znC (λy e=>hop y (by subst e;simp[V])) (λy e=>hop y (by subst e;simp[V])) λid U i x e=>by
    grind
 case call c=>
  let⟨cal,args,ts⟩:=c;cases cal
  case value c=>rfl
  case invoke r m=>rfl
  case builtin bi=>
   have ha:∀x∈args.toList,S.op x=T.op x:=λx hx=>hop x (by simp[V,qD];simpa using hx)
   cases bi<;>first | rfl | skip
   case len=>
    simp only;split
    ·rename_i x t e1 e2;rw[e1] at ha;rw[<- ha x (by simp)];refine zsh λid hid=>hh id ?_
     simp only[ze0,e1];exact hid
    ·rfl
   all_goals grind
 all_goals rfl
structure EqX(D:Nat->Prop)(S T:St C):Prop where
 heap:S.heap=T.heap
 env:∀t,¬ D t->S.env t=T.env t
variable {D:Nat->Prop}
def z7(D:Nat->Prop):Us (Out C)->Us (Out C)->Prop
 |some (.go S),E (.go T)=>EqX D S T
 |some (.pan u S),E (.pan v T)=>u=v/\EqX D S T
 |none,O=>True
 |_,_=>False
omit [Dfr] in
theorem z7.go{S' T':St C}(h:EqX D S' T'):z7 D (E (.go S')) (E (.go T')):=h
omit [Dfr] in
theorem z7.none:z7 (C:=C) D O none:=trivial
omit [Dfr] in
theorem z7.chk{c:Bool}{x y:Us (Out C)}(h:z7 D x y):z7 D (chk c x) (chk c y):=by
 cases c with
 |true=>exact h
 |false=>trivial
omit [Dfr] in
theorem z7.bind{x:Us α}{f g:α->Us (Out C)}(h:∀a,z7 D (f a) (g a)):z7 D (x.bind f) (x.bind g):=by
 cases x with
 |none=>trivial
 |some a=>exact h a
omit [Dfr] in
theorem EqX.refl(S:St C):EqX D S S:=⟨rfl,λ_ _=>rfl⟩
omit [Dfr] in
theorem EqX.put(h:EqX D S T)(d:Nat)(A:AV C.D){hp:Nat->Us (Ent C)}:EqX D {env:=upd S.env d A,heap:=hp} {env:=upd T.env d A,heap:=hp}:=⟨rfl,λt ht=>by
 show upd S.env d A t=upd T.env d A t;unfold upd;cases M t d with
 |true=>rfl
 |false=>exact h.env t ht⟩
omit [Dfr] in
theorem EqX.sub(h:EqX D S T)(id:Nat)(R:AV C.D):EqX D (S.sub id R) (T.sub id R):=by
 refine⟨?_,λt ht=>?_⟩
 ·unfold St.sub;simp only;rw[h.heap]
 ·show AV.sub id R (S.env t)=AV.sub id R (T.env t);rw[h.env t ht]
omit [Dfr] in
theorem EqX.frz1(h:EqX D S T)(id:Nat):EqX D (S.frz1 id) (T.frz1 id):=by
 unfold St.frz1;rw[h.heap];split
 ·exact h.sub _ _
 ·rename_i T0 s g _;cases g.rd with
  |true=>exact h.sub _ _
  |false=>exact h
 ·exact h
omit [Dfr] in
theorem EqX.frz:∀(l:List Nat) {S T:St C},EqX D S T->EqX D (S.frz l) (T.frz l)
 |[],_,_,h=>h
 |id::r,_,_,h=>EqX.frz r (h.frz1 id)
omit [Dfr] in
theorem EqX.op(h:EqX D S T){x:Operand}(hx:∀t,x = .tmp t->¬ D t):S.op x=T.op x:=by
 cases x with
 |tmp t=>exact h.env t (hx t rfl)
 |const v=>rfl
 |global g=>rfl
 |func f=>rfl
def W4(D:Nat->Prop)(l:List Operand):Prop:=∀t,Operand.tmp t∈l->¬ D t
omit [Dfr] in
theorem EqX.ops(h:EqX D S T){l:List Operand}(hl:W4 D l):∀x∈l,S.op x=T.op x:=λx hx=>h.op λt e=>hl t (e ▸ hx)
theorem zmy(h:EqX D S T){d:Nat}{cs:List (AV C.D)}:z7 D (zbn S d cs) (zbn T d cs):=by
 unfold zbn;rw[h.heap];exact .chk (h.put d _)
theorem zqO(h:EqX D S T){d:Nat}{t:TypeId}:z7 D (x5 P S d t) (x5 P T d t):=by
 unfold x5;split
 ·split
  ·split
   ·unfold zqy;rw[h.heap];exact .chk (h.put d _)
   ·exact zmy h
  ·trivial
 ·trivial
theorem zhW:∀{l:List Operand},(∀x∈l,S.op x=T.op x)->Yq S e l=Yq T e l
 |[],_=>rfl
 |x::r,h=>by
  unfold Yq;rw[h x (by simp),zhW λy hy=>h y (Do _ hy)]
theorem znE(h:EqX D S T){d:Nat}{t:TypeId}{parts:List (Nat×Operand)}(hp:W4 D (parts.map (·.2))):z7 D (YX P S d t m parts) (YX P T d t m parts):=by
 unfold YX;have e:parts.map (λq=>S.op q.2)=parts.map λq=>T.op q.2:=Dm λq hq=>h.ops hp _ (Dp.2 ⟨q,hq,rfl⟩)
 rw[e];have h':=EqX.frz (AV.rowss (parts.map λq=>T.op q.2)) h;generalize S.frz _=S' at h' |-
 generalize T.frz _=T' at h' |-
 unfold YX.go;have e2:=λe=>zhW (e:=e) (h'.ops hp)
 simp only[h'.heap,e2];split
 ·split
  ·split
   ·exact .chk (.bind λxs=>h'.put d _)
   ·trivial
  ·trivial
 ·trivial
theorem EqX.heap'(h:EqX D S T){hp:Nat->Us (Ent C)}:EqX D {S with heap:=hp} {T with heap:=hp}:=⟨rfl,h.env⟩
theorem zqP(h:EqX D S T){t:TypeId}{x y:Operand}(hx:∀t,x = .tmp t->¬ D t)(hy:∀t,y = .tmp t->¬ D t):z7 D (yv P S t x y) (yv P T t x y):=by
 unfold yv;have ex:=h.op hx;have ey:=h.op hy;rw[ex,ey,h.heap];split
 ·split
  ·exact .chk h.heap'
  ·trivial
 ·rename_i ti _ _ _ _ _ _;have h':=EqX.frz (AV.rows (T.op y)) h;have ex':=h'.op hx;have ey':=h'.op hy;generalize S.frz _=S' at h' ex' ey' |-
  generalize T.frz _=T' at h' ex' ey' |-
  unfold yv.go;rw[ex',ey',h'.heap];split
  ·split
   ·exact .chk (.bind λq =>.bind λq'=>h'.heap')
   ·trivial
  ·trivial
 ·trivial
theorem zwt(h:S.heap=T.heap){A:AV C.D}:zbr S e A=zbr T e A:=by
 unfold zbr;rw[h]
theorem EqX.subRow(h:EqX D S T)(d id T':Nat)(s':Sl (C.D T')):EqX D {env:=upd (S.sub id .und).env d (.row (nid d 0)),heap:=upd (S.sub id .und).heap (nid d 0) (E (.row T' s'))} {env:=upd (T.sub id .und).env d (.row (nid d 0)),heap:=upd (T.sub id .und).heap (nid d 0) (E (.row T' s'))}:=by
 have:=h.sub id .und;exact⟨by show upd _ _ _=upd _ _ _;rw[this.heap],(this.put d _ (hp:=T.heap)).env⟩
theorem zfL(h:EqX D S T){d:Nat}{t:TypeId}{x y:Operand}(hx:S.op x=T.op x)(hy:S.op y=T.op y):z7 D (yU P S d t x y) (yU P T d t x y):=by
 unfold yU;have e:=λe A=>zwt (e:=e) (A:=A) h.heap
 simp only[hx,hy,h.heap,e];split
 ·split
  ·split
   ·refine .chk ?_;split
    ·split
     ·exact .chk (.bind λts =>.bind λs'=>EqX.subRow h _ _ _ _)
     ·trivial
    ·exact .bind λts =>.bind λs'=>h.put d _
    ·trivial
   ·trivial
  ·trivial
 ·trivial
end
end
section
variable [Dfr]
section
variable {C:Cod}{S T:St C}{P:Program}{D:Nat->Prop}
omit [Dfr] in
theorem EqX.owk(h:EqX D S T)(id:Nat)(e:Ent C):EqX D (S.owk id e) (T.owk id e):=by
 refine⟨?_,λt ht=>?_⟩
 ·unfold St.owk;simp only;rw[h.heap]
 ·show AV.knx _ (S.env t)=AV.knx _ (T.env t);rw[h.env t ht]
theorem EqX.newE(h:EqX D S T)(d i:Nat)(A:AV C.D)(e:Us (Ent C)):EqX D {env:=upd S.env d A,heap:=upd S.heap i e} {env:=upd T.env d A,heap:=upd T.heap i e}:=by
 rw[h.heap];exact h.put d A
theorem zmz(h:EqX D S T){s:Sl (C.D T0)}{g:Own}{i:Int}{cells:List (AV C.D)}:z7 D (X9 S id T0 s g i off cells E) (X9 T id T0 s g i off cells E):=by
 unfold X9;simp only[WS];split
 ·rw[h.heap];split
  ·exact .chk (.bind λq =>.bind λg' =>.bind λq'=>(h.sub _ _).owk _ _)
  ·trivial
 ·refine .bind λq=>?_
  split
  ·exact .bind λg' =>.bind λq'=>h.owk _ _
  ·trivial
 ·trivial
theorem zwu{y:Operand}{N:Nat}(hy:S.op y=T.op y):Vn S ti y off N=Vn T ti y off N:=by unfold Vn;rw[hy]
theorem znF(h:EqX D S T){t:TypeId}{x y:Operand}(hx:S.op x=T.op x)(hy:S.op y=T.op y):z7 D (xI P S t x y) (xI P T t x y):=by
 have e1:=λti off N=>zwu (S:=S) (T:=T) (ti:=ti) (y:=y) (off:=off) (N:=N) hy
 unfold xI Xt;rw[hx,hy,h.heap];simp only[e1];split
 ·split
  ·refine .chk ?_;cases xW _ _ _ with
   |true=>exact zmz h
   |false=>exact .bind λq =>.bind λq'=>⟨rfl,h.env⟩
  ·exact .chk (zmz h)
  ·trivial
 ·split
  ·refine .chk (.bind λq=>?_);split
   ·exact .chk (.bind λy0 =>.bind λy1 =>.bind λq'=>⟨rfl,h.env⟩)
   ·trivial
  ·trivial
 ·trivial
theorem zwv(h:EqX D S T){tx:Nat}{i:Int}{gid:Nat}{K K':St C->Us (Out C)}(hK:∀S1 T1,EqX D S1 T1->(∀z,(∀t,z = .tmp t->t=tx\/¬ D t)->S1.op z=T1.op z)->z7 D (K S1) (K' T1)):z7 D (wX S tx id T0 i gid K) (wX T tx id T0 i gid K'):=by
 unfold wX;rw[h.heap];split
 ·refine .chk (.bind λq=>?_);split
  ·refine hK _ _ (h.put tx _) λz hz=>?_
   cases z with
   |tmp t=>
    show upd S.env tx _ t=upd T.env tx _ t;unfold upd;cases e:M t tx with
    |true=>rfl
    |false=>
     simp only[Ux];rcases hz t rfl with z | z
     ·subst z;simp at e
     ·exact h.env t z
   |const v=>rfl
   |global g=>rfl
   |func f=>rfl
  ·trivial
 ·trivial
theorem zsi(h:EqX D S T){d:Nat}{t:TypeId}{x y:Operand}(hx:∀t,x = .tmp t->¬ D t)(hy:∀t,y = .tmp t->¬ D t):z7 D (wY P S d t x y) (wY P T d t x y):=by
 unfold wY;cases x with
 |tmp tx=>
  simp only;rw[h.env tx (hx tx rfl)];split
  ·exact zwv h λS1 T1 h1 hz=>zfL h1 (hz _ λt e =>.inr (hx t e)) (hz _ λt e =>.inr (hy t e))
  ·trivial
 |const v=>trivial
 |global g=>trivial
 |func f=>trivial
theorem zsj(h:EqX D S T){d:Nat}{t:TypeId}{x y:Operand}(hx:S.op x=T.op x)(hy:S.op y=T.op y):z7 D (wZ P S d t x y) (wZ P T d t x y):=by
 have hs:=λid id2 (e:Us (Ent C))=>((h.sub id .und).sub id2 .und).newE d (nid d 0) (.row (nid d 0)) e
 have hs2:=λid2 (e:Us (Ent C))=>(h.sub id2 .und).newE d (nid d 0) (.row (nid d 0)) e
 unfold wZ Wy;rw[hx,hy];rw[show isNone (S.heap (nid d 0))=isNone (T.heap (nid d 0)) by rw[h.heap]];split
 ·split
  ·split
   ·refine .chk ?_;split
    ·rw[h.heap];split
     ·split
      ·split
       ·exact .chk (.bind λts =>.bind λs'=>hs _ _ _)
       ·trivial
      ·exact .bind λts =>.bind λs'=>hs2 _ _
      ·trivial
     ·trivial
    ·trivial
   ·trivial
  ·trivial
 ·trivial
theorem znG(h:EqX D S T){d:Nat}{t:TypeId}{y:Operand}(hy:S.op y=T.op y):z7 D (xK P S d t y) (xK P T d t y):=by
 have hs2:=λid2 (e:Us (Ent C))=>(h.sub id2 .und).newE d (nid d 0) (.row (nid d 0)) e
 unfold xK Xu;rw[hy];rw[show isNone (S.heap (nid d 0))=isNone (T.heap (nid d 0)) by rw[h.heap]];split
 ·split
  ·split
   ·refine .chk ?_;split
    ·rw[show∀i,S.heap i=T.heap i from λi=>by rw[h.heap]];split
     ·exact .bind λq=>hs2 _ _
     ·trivial
    ·trivial
   ·trivial
  ·trivial
 ·trivial
theorem zww(h:S.heap=T.heap){x y:Operand}(hx:S.op x=T.op x)(hy:S.op y=T.op y):zfb S x y=zfb T x y:=by unfold zfb;rw[h,hx,hy]
theorem zwx{x:Operand}(hx:S.op x=T.op x):zfa S x=zfa T x:=by unfold zfa;rw[hx]
theorem zxO(h:S.heap=T.heap){x:Operand}(hx:S.op x=T.op x):isO S x=isO T x:=by unfold isO;rw[h,hx]
theorem zwy(h:EqX D S T){op:Op}(hf:W4 D op.operands.toList):Y4 P S dst op=Y4 P T dst op/\∀k,Y4 P T dst op=E k->z7 D (Vq P S k) (Vq P T k):=by
 have hop:=h.ops hf;unfold Y4;split
 ·rename_i t x y;have hx:=hop x (by simp[V]);have hy:=hop y (by simp[V]);rw[zww h.heap hx hy];refine⟨rfl,λk hk=>?_⟩;cases hc:zfb T x y with
  |false=>grind
  |true=>rw[hc] at hk;cases hk;exact znF h hx hy
 ·rename_i d args ts;split
  ·rename_i x y t t' e1 e2;have mx:x∈(V (.call ⟨.builtin .append,args,ts⟩)).toList:=by simp[V,qD];rw[<- qN,e1];simp
   have my:y∈(V (.call ⟨.builtin .append,args,ts⟩)).toList:=by simp[V,qD];rw[<- qN,e1];simp
   have hx:=hop x mx;have hy:=hop y my;rw[zwx hx,zxO h.heap hy];refine⟨rfl,λk hk=>?_⟩;cases hc:zfa T x with
   |true=>
    rw[hc] at hk;cases hk;exact .chk (zsi h (λt e=>hf t (e ▸ mx)) (λt e=>hf t (e ▸ my)))
   |false=>
    rw[hc,Ux] at hk;cases hc2:isO T y with
    |true=>rw[hc2] at hk;cases hk;exact .chk (zsj h hx hy)
    |false=>grind
  grind
 ·rename_i d t m parts;split
  ·rename_i i y e1;have hy:=hop y (by simp[V];exact⟨i,by rw[<- qN,e1];simp⟩);rw[hy];refine⟨rfl,λk hk=>?_⟩;cases hc:(C.own (wC P t) && zdb (zu (T.op y)) (C.nst (wC P t))) with
   |true=>rw[hc] at hk;cases hk;exact .chk (znG h hy)
   |false=>grind
  grind
 grind
end
end
section
variable [Dfr]
section
variable {C:Cod}{S T:St C}{P:Program}{D:Nat->Prop}
def W5(D:Nat->Prop)(ts:List (Nat×Sh)):Prop:=∀q∈ts,¬ D q.1
theorem zuI(h:EqX D S T):∀{ts:List (Nat×Sh)},W5 D ts->fzT S ts=fzT T ts
 |[],_=>rfl
 |(t,s)::ts,hf=>by
  unfold fzT;rw[h.env t (hf (t,s) (by simp)),zuI h λq hq=>hf q (Do _ hq)]
theorem zwz{t:Nat}{p:Nat}(h:EqX D S T)(ht:¬ D t):EqX D (nilA1 es t s p S) (nilA1 es t s p T):=by
 unfold nilA1;rw[h.env t ht,h.heap];split
 ·split
  ·cases isNone (T.heap _) with
   |true=>exact h.put t _
   |false=>exact h
  ·exact h
 ·exact h
theorem zqQ{t:Nat}(ht:¬ D t):∀(l:List Sh) (p:Nat) {S T:St C},EqX D S T->EqX D (nilA es t l p S) (nilA es t l p T)
 |[],_,S,T,h=>h
 |s::l,p,S,T,h=>zqQ ht l _ (zwz h ht)
theorem zaV:∀(ts:List (Nat×Sh)) {S T:St C},EqX D S T->W5 D ts->EqX D (nilT es ts S) (nilT es ts T)
 |[],S,T,h,_=>h
 |(t,s)::ts,S,T,h,hf=>by
  unfold nilT;rw[h.env t (hf (t,s) (by simp)),h.heap];have hf':W5 D ts:=λq hq=>hf q (Do _ hq)
  split
  ·split
   ·cases isNone (T.heap _) with
    |true=>exact zaV ts (h.put t _) hf'
    |false=>exact zaV ts h hf'
   ·exact zaV ts h hf'
  ·exact zaV ts (zqQ (hf _ (qG ..)) _ 0 h) hf'
  ·exact zaV ts h hf'
theorem ze1(h:S.heap=T.heap) :W6 S bl=W6 T bl:=by
 funext k;unfold W6;rw[h]
theorem zmA(h:EqX D S T):∀{ts:List (Nat×Sh)}{bl:Bl},W5 D ts->zfW S ts bl=zfW T ts bl
 |[],bl,_=>rfl
 |(t,s)::ts,bl,hf=>by
  unfold zfW;rw[h.env t (hf (t,s) (by simp)),zmA h λq hq=>hf q (Do _ hq)]
theorem zmB(h:S.heap=T.heap):∀{es:List ESh}{k:Nat}{bl:Bl},zfX S es k bl=zfX T es k bl
 |[],k,bl=>rfl
 |e::es,k,bl=>by
  unfold zfX;rw[ze1 h,zmB h]
theorem VZ(h:EqX D S T){g:Sig}(hf:W5 D g.ts):Zx g m S=Zx g m T:=by
 unfold Zx;rw[zmA h hf,zmB h.heap]
theorem zuJ(h:S.heap=T.heap) :∀{es:List ESh}{k:Nat},fzE S bl es k=fzE T bl es k
 |[],k=>rfl
 |e::es,k=>by
  unfold fzE;rw[ze1 h,zuJ h]
theorem zxP(h:EqX D S T){p:Nat}:EqX D (nil1 es id s p S) (nil1 es id s p T):=by
 unfold nil1;rw[h.heap];split
 ·split
  ·cases isNone (T.heap _) with
   |true=>exact h.heap'
   |false=>exact h
  ·exact h
 ·exact h
theorem zqR:∀(l:List Sh) (p:Nat) {S T:St C},EqX D S T->EqX D (nilC es id l p S) (nilC es id l p T)
 |[],p,S,T,h=>h
 |s::l,p,S,T,h=>zqR l _ (zxP h)
theorem zqS{all:List ESh}:∀(es:List ESh) (k:Nat) {S T:St C},EqX D S T->EqX D (nilE all bl es k S) (nilE all bl es k T)
 |[],k,S,T,h=>h
 |e::es,k,S,T,h=>by
  refine zqS es _ ?_;unfold zfZ;split
  ·exact zqR _ 0 h
  ·exact h
theorem zqT(h:EqX D S T){g:Sig}(hf:W5 D g.ts):EqX D (g.prep m S) (g.prep m T):=by
 unfold Sig.prep;rw[zuI h hf];have h':=zaV (es:=g.es) g.ts (EqX.frz (fzT T g.ts) h) hf;generalize nilT g.es g.ts (S.frz _)=S' at h' |-
 generalize nilT g.es g.ts (T.frz _)=T' at h' |-
 simp only;rw[VZ h' hf];have h2:=zqS (all:=g.es) (bl:=Zx g m T') g.es 0 h';generalize nilE g.es _ g.es 0 S'=S2 at h2 |-
 generalize nilE g.es _ g.es 0 T'=T2 at h2 |-
 rw[VZ h2 hf,zuJ h2.heap];exact EqX.frz _ h2
theorem zqU(h:S.heap=T.heap) :∀{es:List ESh}{k:Nat},ze8 S m es k=ze8 T m es k
 |[],_=>rfl
 |e::es,k=>by unfold ze8;rw[h,zqU h]
theorem zkr(h:EqX D S T){g:Sig}(hf:W5 D g.ts):YO g m S bl=YO g m T bl:=by
 unfold YO;rw[zqU h.heap,ze1 h.heap,show g.ts.map (λt=>S.env t.1)=g.ts.map λt=>T.env t.1 from Dm λq hq=>h.env _ (hf q hq)]
theorem zqV(h:EqX D S T)(As:List (AV C.D)):EqX D (virt S As) (virt T As):=⟨h.heap,λt ht=>by
 show(bif W t vB then S.env t else _)=(bif W t vB then T.env t else _)
 rw[h.env t ht]⟩
theorem zks(h:EqX D S T):EqX D (unvirt S) (unvirt T):=⟨h.heap,λt ht=>by
 show(bif W t vB then S.env t else _)=(bif W t vB then T.env t else _)
 rw[h.env t ht]⟩
theorem zmC(h:EqX D S T):EqX (λt=>D (vB+t)) (Y3 S) (Y3 T):=⟨h.heap,λt ht=>h.env _ ht⟩
theorem zfM(hD:∀t,D t->t < vB){g:Sig}:W5 D g.shift.ts:=λq hq=>by
 obtain⟨p,hp,rfl⟩:=Dp.1 hq;grind
def ziy(D:Nat->Prop) :Us (St C×Bl×ins.ty C)->Us (St C×Bl×ins.ty C)->Prop
 |some (S,bl,x),E (T,bl',x')=>EqX D S T/\bl=bl'/\x=x'
 |none,O=>True
 |_,_=>False
theorem zqW(hp0:EqX D S T)(hD:∀t,D t->t < vB){N:Nat}:ziy D (YC ins S N) (YC ins T N):=by
 unfold YC;have hf:=zfM hD (g:=ins);have hp:=zqT hp0 (g:=ins.shift) (m:=0) hf;have hb:=VZ hp (g:=ins.shift) (m:=0) hf;have hg:∀bl,YO ins 0 (Y3 (ins.shift.prep 0 S)) bl=YO ins 0 (Y3 (ins.shift.prep 0 T)) bl:=λbl=>zkr (zmC hp) λq hq hd=>by
  grind
 simp only[hb,hg];cases M N ins.ts.length && qA ins.es.length 64 with
 |false=>trivial
 |true=>
  show ziy D (qF _ _) (qF _ _);cases YO ins 0 (Y3 (ins.shift.prep 0 T)) (Zx ins.shift 0 (ins.shift.prep 0 T)) with
  |none=>trivial
  |some x=>exact⟨hp,rfl,rfl⟩
theorem zsk(h:EqX D S T)(hD:∀t,D t->t < vB){As:List (AV C.D)}:ziy D (YM ins S As) (YM ins T As):=by
 unfold YM;have hv:=zqV h As;have hf:=zfM hD (g:=ins);have hp:=zqT hv (g:=ins.shift) (m:=0) hf;have hb:=VZ hp (g:=ins.shift) (m:=0) hf;have hg:∀bl,YO ins 0 (Y3 (ins.shift.prep 0 (virt S As))) bl=YO ins 0 (Y3 (ins.shift.prep 0 (virt T As))) bl:=λbl=>zkr (zmC hp) λq hq hd=>by
  grind
 simp only[hb,hg];cases M As.length ins.ts.length && qA ins.es.length 64 with
 |false=>trivial
 |true=>
  show ziy D (qF _ _) (qF _ _);cases YO ins 0 (Y3 (ins.shift.prep 0 (virt T As))) (Zx ins.shift 0 (ins.shift.prep 0 (virt T As))) with
  |none=>trivial
  |some x=>exact⟨hp,rfl,rfl⟩
theorem zhX(h:EqX D S T){Sr:St C}{d:Nat}:EqX D (Zw S Sr d bl es) (Zw T Sr d bl es):=by
 refine⟨?_,λt ht=>?_⟩
 ·unfold Zw;simp only;rw[h.heap]
 ·show AV.kill _ (AV.knx _ (S.env t))=AV.kill _ (AV.knx _ (T.env t));rw[h.env t ht]
theorem ze2(h:S.heap=T.heap){Sr:St C}{d:Nat}:∀{k:Nat},Ve S Sr d bl k=Ve T Sr d bl k
 |0=>rfl
 |k+1=>by unfold Ve;rw[h,ze2 h]
theorem zcX{outs:List (XK×Sig)}{r:zi C outs}{f g:XE C->St C->Us (Out C)}(h:∀e Sr,z7 D (f e Sr) (g e Sr)):z7 D (zT outs r f) (zT outs r g):=by
 have hf:zT outs r (λ_ _=>True):=by
  revert r
  induction outs with
  |nil=>intro r;exact r.elim
  |cons o l ih=>
   have one:∀y:XK.ty C o.1 o.2,Ya o.1 o.2 y (λ_ _=>True):=λy=>by
    let⟨k,g⟩:=o;cases k<;>trivial
   cases l with
   |nil=>intro r;exact one r
   |cons o2 l=>
    intro r;cases r with
    |inl a=>exact one a
    |inr y=>exact ih (r:=y)
 revert r
 induction outs with
 |nil=>intro r;exact r.elim
 |cons o l ih=>
  have one:∀y:XK.ty C o.1 o.2,z7 D (Ya o.1 o.2 y f) (Ya o.1 o.2 y g):=λy=>by
   let⟨k,sg⟩:=o;cases k<;>exact h _ _
  cases l with
  |nil=>intro r _;exact one r
  |cons o2 l=>
   intro r hr;cases r with
   |inl a=>exact one a
   |inr y=>exact ih (r:=y) hr
theorem zqX(h:EqX D S T){s:Spec C}{d:Nat}{x:s.ins.ty C}:z7 D (xq s d S bl x) (xq s d T bl x):=by
 unfold xq;refine .bind λr =>.chk (zcX λe Sr=>?_)
 unfold wR;rw[ze2 h.heap];refine .chk ?_;have hm:=zks (zhX h (Sr:=Sr) (d:=d) (bl:=bl) (es:=yi s.outs r));cases e with
 |ret=>exact⟨hm.heap,(hm.put d _ (hp:=λ_=>O)).env⟩
 |pan A=>exact⟨rfl,hm⟩
 |normal=>trivial
 |exit i=>trivial
theorem zhY(h:EqX D S T){s:Spec C}{d:Nat}{x:s.ins.ty C}:z7 D (yC s d S x) (yC s d T x):=by
 unfold yC;refine .bind λr=>zcX λe Sr =>.chk ?_
 unfold wR;rw[ze2 h.heap];refine .chk ?_;have hm:=zks (zhX h (Sr:=Sr) (d:=d) (bl:=[]) (es:=yi s.outs r));cases e with
 |ret=>exact⟨hm.heap,(hm.put d _ (hp:=λ_=>O)).env⟩
 |pan A=>exact⟨rfl,hm⟩
 |normal=>trivial
 |exit i=>trivial
theorem zhZ(h:EqX D S T){s:Spec C}{d:Nat}{x:s.ins.ty C}:z7 D (yO s d S x) (yO s d T x):=by
 unfold yO;refine .chk (.bind λr=>zcX λe Sr=>?_);unfold zaU;cases e with
 |ret=>exact .chk ⟨h.heap,(h.put d _ (hp:=λ_=>O)).env⟩
 |pan A=>exact .chk ⟨rfl,h⟩
 |normal=>trivial
 |exit i=>trivial
theorem znH(h:S.heap=T.heap){i:Int}{K:(U:Nat)->Sl (C.D U)->Us α}:zJ S id T0 i K=zJ T id T0 i K:=by
 unfold zJ;rw[h]
omit [Dfr] in
mutual
theorem zxQ(h:S.heap=T.heap):∀{A:AV C.D}{K:AV C.D->Us α},vh S A K=vh T A K
 | .nx id T i .whole,K=>znH h
 | .agg cs,K=>zgZ h (As:=cs)
 | .nx _ _ _ (.part _ _ _),K=>rfl
 | .nx _ _ _ (.elem _ _ _),K=>rfl
 | .int _ _,K=>rfl
 | .bool _,K=>rfl
 | .str _,K=>rfl
 | .tup _,K=>rfl
 | .sl _ _ _,K=>rfl
 | .row _,K=>rfl
 | .pc _ _,K=>rfl
 | .pr _ _ _ _,K=>rfl
 | .pz _ _ _,K=>rfl
 | .pnil,K=>rfl
 | .nils,K=>rfl
 | .clo _ _,K=>rfl
 | .nilf,K=>rfl
 | .ifc _ _,K=>rfl
 | .nili,K=>rfl
 | .und,K=>rfl
theorem zgZ(h:S.heap=T.heap):∀{As:List (AV C.D)}{K:List (AV C.D)->Us α},wS S As K=wS T As K
 |[],K=>rfl
 |A::As,K=>by
  show vh S A _=vh T A _;rw[zxQ h (A:=A)];congr 1;funext B;exact zgZ h (As:=As)
end
omit [Dfr] in
mutual
theorem zxR:∀{A:AV C.D}{f g:AV C.D->Us (Out C)},(∀B,z7 D (f B) (g B))->z7 D (vh T A f) (vh T A g)
 | .nx id T0 i .whole,f,g,h=>by
  show z7 D (zJ T id T0 i _) (zJ T id T0 i _);unfold zJ;split
  ·refine .chk (.bind λq=>?_);split
   ·exact h _
   ·trivial
  ·trivial
 | .agg cs,f,g,h=>zg0 (As:=cs) λBs=>h _
 | .nx _ _ _ (.part _ _ _),f,g,h=>h _
 | .nx _ _ _ (.elem _ _ _),f,g,h=>h _
 | .int _ _,f,g,h=>h _
 | .bool _,f,g,h=>h _
 | .str _,f,g,h=>h _
 | .tup _,f,g,h=>h _
 | .sl _ _ _,f,g,h=>h _
 | .row _,f,g,h=>h _
 | .pc _ _,f,g,h=>h _
 | .pr _ _ _ _,f,g,h=>h _
 | .pz _ _ _,f,g,h=>h _
 | .pnil,f,g,h=>h _
 | .nils,f,g,h=>h _
 | .clo _ _,f,g,h=>h _
 | .nilf,f,g,h=>h _
 | .ifc _ _,f,g,h=>h _
 | .nili,f,g,h=>h _
 | .und,f,g,h=>h _
theorem zg0:∀{As:List (AV C.D)}{f g:List (AV C.D)->Us (Out C)},(∀Bs,z7 D (f Bs) (g Bs))->z7 D (wS T As f) (wS T As g)
 |[],f,g,h=>h _
 |A::As,f,g,h=>zxR (A:=A) λB=>zg0 (As:=As) λBs=>h _
end
theorem zwA(h:EqX D S T)(hD:∀t,D t->t < vB)(As Bs:List (AV C.D)):EqX D (zfF S As Bs) (zfF T As Bs):=by
 have h1:=EqX.frz (AV.nxss As) (zqV h As);refine⟨h1.heap,λt ht=>?_⟩;show(bif W t vB then _ else match zaC As Bs (t - vB) with | some B=>B | none=>_)=(bif W t vB then _ else match zaC As Bs (t - vB) with | some B=>B | none=>_);rw[h1.env t ht]
theorem zg1(hD:∀t,D t->t < vB):∀{ts:List (Nat×Sh)}{S T:St C}{f g:St C->Us (Out C)},EqX D S T->(∀S1 T1,EqX D S1 T1->z7 D (f S1) (g T1))->z7 D (X8 ts S f) (X8 ts T g)
 |[],S,T,f,g,h,k=>k _ _ h
 |(t,s)::ts,S,T,f,g,h,k=>by
  unfold X8;have hn:¬ D (vB+t):=λhd=>by grind
  have hc:∀id,Xq S id=Xq T id:=λid=>by unfold Xq;rw[h.heap]
  rw[h.env _ hn];split
  ·rename_i T0 o id off _;rw[hc];have h1:=EqX.frz (Xq T id) h;rw[h1.heap];split
   ·refine .bind λq=>zg1 hD ?_ k
    have h2:=h1.sub id .und;rw[h2.heap];exact h2.put (vB+t) _
   ·trivial
  ·exact zg1 hD h k
theorem zh0(h:EqX D S T)(hD:∀t,D t->t < vB){d:Nat}{As:List (AV C.D)}:∀{Γ:List (Spec C)},z7 D (xr Γ S d f As) (xr Γ T d f As)
 |[]=>trivial
 |s::Γ=>by
  unfold xr;cases(M s.f f && (s.view || s.viewO)) with
  |false=>exact zh0 h hD
  |true=>
   simp only[Dk];rw[zgZ h.heap];refine zg0 λBs =>.chk (zg1 hD (zwA h hD As Bs) λS1 T1 h1=>?_)
   have hl:=zqW h1 hD (ins:=s.ins) (N:=As.length);generalize YC s.ins S1 As.length=a at hl;generalize YC s.ins T1 As.length=b at hl
   match a,b,hl with
   |none,O,_=>trivial
   |some (S2,bl,x),E (T2,_,_),⟨h2,rfl,rfl⟩=>
    show z7 D (bif s.view then yO s d S x else yC s d S x) (bif s.view then yO s d T x else yC s d T x);cases s.view with
    |true=>exact zhZ h
    |false=>exact zhY h
theorem zcY(h:EqX D S T)(hD:∀t,D t->t < vB){Γ0:List (Spec C)}{d:Nat}{As:List (AV C.D)}:∀{Γ:List (Spec C)},z7 D (YD Γ0 Γ S d f As) (YD Γ0 Γ T d f As)
 |[]=>zh0 h hD
 |s::Γ=>by
  unfold YD;cases M s.f f with
  |false=>exact zcY h hD
  |true=>
   simp only[Dk];have hl:=zsk h hD (ins:=s.ins) (As:=As);generalize YM s.ins S As=a at hl;generalize YM s.ins T As=b at hl
   match a,b,hl with
   |none,O,_=>exact zcY h hD
   |some (S2,bl,x),E (T2,_,_),⟨h2,rfl,rfl⟩=>
    show z7 D (bif s.view then yO s d S x else bif s.viewO then yC s d S x else xq s d S2 bl x) (bif s.view then yO s d T x else bif s.viewO then yC s d T x else xq s d T2 bl x);cases s.view with
    |true=>exact zhZ h
    |false=>
     cases s.viewO with
     |true=>exact zhY h
     |false=>exact zqX h2
theorem zsl(h:EqX D S T)(hD:∀t,D t->t < vB){d:Nat}{As:List (AV C.D)}{Γ:List (Spec C)}:z7 D (Vf Γ S d f As) (Vf Γ T d f As):=zcY h hD
theorem zkt(h:EqX D S T){ty:TypeId}{op:Op}(hf:W4 D op.operands.toList):yT P S ty op=yT P T ty op:=zmx (h.ops hf) λid _=>by rw[h.heap]
omit [Dfr] in
theorem z7.map{x:Us (AV C.D)}{d:Nat}(h:EqX D S T):z7 D (x.map λA =>.go (S.put d A)) (x.map λA =>.go (T.put d A)):=by
 cases x with
 |none=>trivial
 |some A=>exact⟨h.heap,(h.put d A (hp:=λ_=>Option.none)).env⟩
theorem zh1(h:EqX D S T){x:Operand}(hx:S.op x=T.op x):z7 D (x6 S x) (x6 T x):=by
 unfold x6;rw[hx];split
 ·exact .chk ⟨rfl,h⟩
 ·trivial
theorem znI(h:EqX D S T){d:Nat}{ty t:TypeId}{x:Operand}(hx:S.op x=T.op x)(hf:W4 D (qQ t x lo hi O).operands.toList):z7 D (Ys P S d ty t x lo hi) (Ys P T d ty t x lo hi):=by
 unfold Ys;rw[hx];split
 ·rename_i id e;have h1:=EqX.frz1 h id;rw[zkt h1 hf];exact .bind λA=>⟨h1.heap,(h1.put d A (hp:=λ_=>O)).env⟩
 ·trivial
theorem znJ(h:EqX D S T){q:Opts}{d:Nat}{ty t:TypeId}{x:Operand}{mx:Us Operand}(hf:W4 D (qQ t x lo hi mx).operands.toList):z7 D (wn q P S d ty t x lo hi mx) (wn q P T d ty t x lo hi mx):=by
 have hop:=h.ops hf;have hx:S.op x=T.op x:=hop x (by simp[V]);unfold wn;split
 ·exact znI h hx hf
 ·trivial
theorem zma(h:EqX D S T){d:Nat}{t:TypeId}:z7 D (Xo S d t) (Xo T d t):=by
 unfold Xo;rw[h.heap];split
 ·exact .chk (h.put d _)
 ·split
  ·exact .chk (h.put d _)
  ·trivial
theorem zsm(h:EqX D S T){d:Nat}{t:TypeId}{x y:Operand}(hx:S.op x=T.op x)(hy:S.op y=T.op y):z7 D (Vb P S d t x y) (Vb P T d t x y):=by
 unfold Vb;rw[hx,hy,h.heap];split
 ·split
  ·split
   ·split
    ·exact .chk ⟨h.heap,(h.put d _ (hp:=λ_=>O)).env⟩
    ·trivial
   ·trivial
  ·split
   ·split
    ·exact .chk ⟨h.heap,(h.put d _ (hp:=λ_=>O)).env⟩
    ·trivial
   ·trivial
  ·trivial
 ·trivial
theorem znK(h:EqX D S T){t:TypeId}{x y z:Operand}(hx:S.op x=T.op x)(hy:S.op y=T.op y)(hz:S.op z=T.op z):z7 D (wm P S t x y z) (wm P T t x y z):=by
 unfold wm;rw[hx,hy,hz,h.heap];split
 ·split
  ·split
   ·split
    ·exact .chk ⟨rfl,h.env⟩
    ·trivial
   ·trivial
  ·split
   ·split
    ·exact .chk ⟨rfl,h.env⟩
    ·trivial
   ·trivial
  ·trivial
 ·trivial
theorem zxS{q:Opts}{Γ:List (Spec C)}{n:Nat}{o:Oper}(h:EqX D S T)(hD:∀t,D t->t < vB)(hf:W4 D o.op.operands.toList):z7 D (Vg q Γ P n o S) (Vg q Γ P n o T):=by
 let⟨dst,op,ty,ps,af,g⟩:=o;have hop:=h.ops hf;simp only at hf hop;unfold Vg;cases dst with
 |none=>
  simp only;split
  ·rename_i t x y;exact zqP h (λt e=>hf t (by simp[V,e])) (λt e=>hf t (by simp[V,e]))
  ·rename_i t x y z;exact znK h (hop x (by simp[V])) (hop y (by simp[V])) (hop z (by simp[V]))
  ·rename_i x;exact zh1 h (hop x (by simp[V]))
  ·trivial
 |some d=>
  simp only;refine .chk ?_;have rd:∀op',op'=op->z7 D ((yT P S ty op').map λA =>.go (S.put d A)) ((yT P T ty op').map λA =>.go (T.put d A)):=λop' e=>by
   subst e;rw[zkt h hf];exact .map h
  unfold wo;split
  ·exact zqO h
  ·rename_i t x;rw[hop x (by simp[V])];refine .chk ?_;cases C.bz t with
   |true=>exact .bind λq=>z7.map (x:=E (.pz _ q 0)) h
   |false=>exact zmy h
  ·rename_i t m parts;exact znE h (by simpa[V] using hf)
  ·rename_i t x lo hi mx;rw[zkt h hf];split
   ·exact⟨h.heap,(h.put d _ (hp:=λ_=>O)).env⟩
   ·exact znJ h hf
  ·rename_i t t' x;have hx:=hop x (by simp[V]);grind
  ·rename_i c args ts;have ha:args.toList.map S.op=args.toList.map T.op:=Dm λx hx=>hop x (by simp[V,qD];grind)
   rw[hop c (by simp[V,qD]),ha];split
   ·exact z7.chk (zsl h hD)
   ·trivial
  ·rename_i args ts;split
   ·rename_i x y t t' e1 e2;have ha:∀z∈args.toList,S.op z=T.op z:=λz hz=>hop z (by simp[V,qD];simpa using hz)
    rw[e1] at ha;exact .chk (zfL h (ha x (by simp)) (ha y (by simp)))
   ·trivial
  ·exact zma h
  ·rename_i t x y;exact zsm h (hop x (by simp[V])) (hop y (by simp[V]))
  ·rename_i x;exact zh1 h (hop x (by simp[V]))
  grind
theorem zAe{q:Opts}{Γ:List (Spec C)}{n:Nat}{o:Oper}(h:EqX D S T)(hD:∀t,D t->t < vB)(hf:W4 D o.op.operands.toList):z7 D (stp q Γ P n o S) (stp q Γ P n o T):=by
 let⟨h1,h2⟩:=zwy (P:=P) (dst:=o.dst) h hf;unfold stp;rw[h1];cases hk:Y4 P T o.dst o.op with
 |some k=>exact .chk (h2 k hk)
 |none=>exact zxS h hD hf
end
end
section
variable [Dfr]
def xo(id:Nat):Nat:=id+1099511627776
mutual
def AV.avoid{D:Nat->Type}(l:List Nat):AV D->Bool
 | .row id=> !zB id l
 | .pc id _=> !zB id l
 | .pr id _ _ _=> !zB id l
 | .nx id _ _ _=> !zB id l && !zB (xo id) l
 | .agg cs=>AV.avoids l cs
 | .tup cs=>AV.avoids l cs
 | .clo _ cs=>AV.avoids l cs
 | .ifc _ A=>AV.avoid l A
 |_=>G
def AV.avoids{D:Nat->Type}(l:List Nat):List (AV D)->Bool
 |[]=>G
 |A::As=>AV.avoid l A && AV.avoids l As
end
omit [Dfr] in
mutual
theorem zcZ{D:Nat->Type}{R:AV D}(hm:zB id l=G):∀{A:AV D},A.avoid l=G->AV.sub id R A=A
 | .row j,h=>by
  unfold AV.sub;cases e:M j id with
  |true=>
   have:=ge e;subst this;simp only[AV.avoid,hm] at h;cases h
  |false=>rfl
 | .pc j o,h=>by
  unfold AV.sub;cases e:M j id with
  |true=>
   have:=ge e;subst this;simp only[AV.avoid,hm] at h;cases h
  |false=>rfl
 | .pr j _ _ _,h=>by
  unfold AV.sub;cases e:M j id with
  |true=>
   have:=ge e;subst this;simp only[AV.avoid,hm] at h;cases h
  |false=>rfl
 | .nx j _ _ _,h=>by
  unfold AV.sub;cases e:M j id with
  |true=>
   have:=ge e;subst this;simp only[AV.avoid,hm] at h;cases h
  |false=>rfl
 | .agg cs,h=>by unfold AV.sub;rw[wU hm h]
 | .tup cs,h=>by unfold AV.sub;rw[wU hm h]
 | .clo f cs,h=>by unfold AV.sub;rw[wU hm h]
 | .ifc t A,h=>by unfold AV.sub;rw[zcZ hm (A:=A) h]
 | .int _ _,_=>rfl
 | .bool _,_=>rfl
 | .str _,_=>rfl
 | .sl _ _ _,_=>rfl
 | .pz _ _ _,_=>rfl
 | .pnil,_=>rfl
 | .nils,_=>rfl
 | .nilf,_=>rfl
 | .nili,_=>rfl
 | .und,_=>rfl
theorem wU{D:Nat->Type}{R:AV D}(hm:zB id l=G):∀{A:List (AV D)},AV.avoids l A=G->AV.subs id R A=A
 |[],_=>rfl
 |A::As,h=>by
  simp only[AV.avoids,gf] at h;unfold AV.subs;rw[zcZ hm h.1,wU hm h.2]
end
omit [Dfr] in
mutual
theorem zbD{D:Nat->Type}(hp:∀i,p i=G->zB i l=G):∀{A:AV D},A.avoid l=G->AV.kill p A=A
 | .row j,h=>by
  unfold AV.kill;cases e:p j with
  |true=>simp only[AV.avoid,hp j e] at h;cases h
  |false=>rfl
 | .pc j o,h=>by
  unfold AV.kill;cases e:p j with
  |true=>simp only[AV.avoid,hp j e] at h;cases h
  |false=>rfl
 | .pr j _ _ _,h=>by
  unfold AV.kill;cases e:p j with
  |true=>simp only[AV.avoid,hp j e] at h;cases h
  |false=>rfl
 | .nx j _ _ _,h=>by
  unfold AV.kill;cases e:p j with
  |true=>simp only[AV.avoid,hp j e] at h;cases h
  |false=>rfl
 | .agg cs,h=>by unfold AV.kill;rw[X1 hp h]
 | .tup cs,h=>by unfold AV.kill;rw[X1 hp h]
 | .clo f cs,h=>by unfold AV.kill;rw[X1 hp h]
 | .ifc t A,h=>by unfold AV.kill;rw[zbD hp (A:=A) h]
 | .int _ _,_=>rfl
 | .bool _,_=>rfl
 | .str _,_=>rfl
 | .sl _ _ _,_=>rfl
 | .pz _ _ _,_=>rfl
 | .pnil,_=>rfl
 | .nils,_=>rfl
 | .nilf,_=>rfl
 | .nili,_=>rfl
 | .und,_=>rfl
theorem X1{D:Nat->Type}(hp:∀i,p i=G->zB i l=G):∀{A:List (AV D)},AV.avoids l A=G->AV.kills p A=A
 |[],_=>rfl
 |A::As,h=>by
  simp only[AV.avoids,gf] at h;unfold AV.kills;rw[zbD hp h.1,X1 hp h.2]
end
omit [Dfr] in
mutual
theorem V0{D:Nat->Type}(hp:∀i,p i=G->zB (xo i) l=G):∀{A:AV D},A.avoid l=G->AV.knx p A=A
 | .row j,h=>rfl
 | .pc j o,h=>rfl
 | .pr j _ _ _,h=>rfl
 | .nx j _ _ _,h=>by
  unfold AV.knx;cases e:p j with
  |true=>simp only[AV.avoid,hp j e,Da,Bool.and_false] at h;cases h
  |false=>rfl
 | .agg cs,h=>by unfold AV.knx;rw[XI hp h]
 | .tup cs,h=>by unfold AV.knx;rw[XI hp h]
 | .clo f cs,h=>by unfold AV.knx;rw[XI hp h]
 | .ifc t A,h=>by unfold AV.knx;rw[V0 hp (A:=A) h]
 | .int _ _,_=>rfl
 | .bool _,_=>rfl
 | .str _,_=>rfl
 | .sl _ _ _,_=>rfl
 | .pz _ _ _,_=>rfl
 | .pnil,_=>rfl
 | .nils,_=>rfl
 | .nilf,_=>rfl
 | .nili,_=>rfl
 | .und,_=>rfl
theorem XI{D:Nat->Type}(hp:∀i,p i=G->zB (xo i) l=G):∀{A:List (AV D)},AV.avoids l A=G->AV.knxs p A=A
 |[],_=>rfl
 |A::As,h=>by
  simp only[AV.avoids,gf] at h;unfold AV.knxs;rw[V0 hp h.1,XI hp h.2]
end
section
variable {C:Cod}{S T:St C}{P:Program}
def Ent.avoid(l:List Nat):Ent C->Bool
 | .cell cs=>AV.avoids l cs
 | .row _ _=>G
 | .obj _ _ _ _=>G
 | .orow _ _ _=>G
def zku(l:List Nat):Us (Ent C)->Bool
 |some e=>e.avoid l
 |none=>G
structure Keeps(S T:St C)(d:Us Nat)(l:List Nat)(p:Nat->Bool):Prop where
 env:∀t,t < vB->d≠E t->(S.env t).avoid l=G->T.env t=S.env t
 heap:∀id,p id=I->zku l (S.heap id)=G->T.heap id=S.heap id
omit [Dfr] in
theorem Keeps.refl(S:St C){d:Us Nat}:Keeps S S d l p:=⟨λ_ _ _ _=>rfl,λ_ _ _=>rfl⟩
omit [Dfr] in
theorem Keeps.trans{U:St C}{d:Us Nat}(h:Keeps S T d l p)(k:Keeps T U d l p):Keeps S U d l p:=
 ⟨λt h1 h2 h3=>by have e:=h.env t h1 h2 h3;rw[k.env t h1 h2 (by grind),e],λid h1 h2=>by have e:=h.heap id h1 h2;rw[k.heap id h1 (by grind),e]⟩
omit [Dfr] in
theorem Keeps.sub{R:AV C.D}{d:Us Nat}(hm:zB id l=G)(hp:p id=G):Keeps S (S.sub id R) d l p:=by
 refine⟨λt _ _ h=>zcZ hm h,λj hj h=>?_⟩;show(bif M j id then O else(S.heap j).map (Ent.sub id R))=S.heap j;cases e:M j id with
 |true=>have:=ge e;grind
 |false=>
  simp only[Ux];cases hs:S.heap j with
  |none=>rfl
  |some en=>
   rw[hs] at h;cases en with
   |row T s=>rfl
   |obj q T b s=>rfl
   |orow T s g=>rfl
   |cell cs=>show E (Ent.cell (AV.subs id R cs))=_;rw[wU hm h]
theorem zbE(S:St C)(id:Nat):(∃R,S.frz1 id=S.sub id R)\/S.frz1 id=S:=by
 unfold St.frz1;split
 ·grind
 all_goals grind
omit [Dfr] in
theorem Keeps.frz{d:Us Nat}:∀(r:List Nat) {S:St C},(∀id∈r,zB id l=G/\p id=G)->Keeps S (S.frz r) d l p
 |[],S,_ =>.refl S
 |id::r,S,h=>by
  have h1:=h id (by simp);have k:Keeps S (S.frz1 id) d l p:=by
   rcases zbE S id with⟨R,e⟩ | e
   ·rw[e];exact .sub h1.1 h1.2
   ·rw[e];exact .refl S
  exact k.trans (Keeps.frz r λj hj=>h j (Do _ hj))
theorem Keeps.new{d:Nat}{A:AV C.D}{e:Us (Ent C)}(hp:p id=G):Keeps S {env:=upd S.env d A,heap:=upd S.heap id e} (E d) l p:=
 ⟨λt _ h2 _=>zr λe=>h2 (by rw[e]),λj hj _=>zr λe=>by grind⟩
omit [Dfr] in
theorem Keeps.ent{e:Us (Ent C)}{d:Us Nat}(hp:p id=G):Keeps S {S with heap:=upd S.heap id e} d l p:=
 ⟨λt _ _ _=>rfl,λj hj _=>zr λe=>by grind⟩
omit [Dfr] in
theorem Keeps.put{d:Nat}{A:AV C.D}:Keeps S (S.put d A) (E d) l p:=⟨λt _ h2 _=>zr λe=>h2 (by rw[e]),λj _ _=>rfl⟩
omit [Dfr] in
theorem Keeps.virt{As:List (AV C.D)}{d:Us Nat}:Keeps S (virt S As) d l p:=⟨λt ht _ _=>by
 show(bif W t vB then S.env t else _)=_
 rw[show W t vB=G from by rw[UN];exact ht];rfl,λj _ _=>rfl⟩
omit [Dfr] in
theorem Keeps.unvirt{d:Us Nat}:Keeps S (unvirt S) d l p:=⟨λt ht _ _=>by
 show(bif W t vB then S.env t else _)=_
 rw[show W t vB=G from by rw[UN];exact ht];rfl,λj _ _=>rfl⟩
omit [Dfr] in
theorem Keeps.nilA1{t q:Nat}{d:Us Nat}(hp:∀id,1048576<=id->p id=G)(ht:vB<=t):Keeps S (nilA1 es t s q S) d l p:=by
 unfold Px.nilA1;split
 ·split
  ·cases isNone (S.heap _) with
   |true=>
    refine⟨λt' ht' _ _=>zr λe=>?_,λj hj _=>zr λe=>?_⟩
    all_goals grind
   |false=>exact .refl S
  ·exact .refl S
 ·exact .refl S
omit [Dfr] in
theorem Keeps.nilA{t:Nat}{d:Us Nat}(hp:∀id,1048576<=id->p id=G)(ht:vB<=t):∀(sl:List Sh) (q:Nat) {S:St C},Keeps S (nilA es t sl q S) d l p
 |[],q,S =>.refl S
 |s::sl,q,S=>(Keeps.nilA1 hp ht).trans (Keeps.nilA hp ht sl _)
omit [Dfr] in
theorem Keeps.nilT{d:Us Nat}(hp:∀id,1048576<=id->p id=G):∀(ts:List (Nat×Sh)) {S:St C},(∀q∈ts,vB<=q.1)->Keeps S (nilT es ts S) d l p
 |[],S,_ =>.refl S
 |(t,s)::ts,S,hts=>by
  have hts':∀q∈ts,vB<=q.1:=λq hq=>hts q (Do _ hq)
  unfold Px.nilT;split
  ·split
   ·cases isNone (S.heap _) with
    |false=>exact Keeps.nilT hp ts hts'
    |true=>
     refine Keeps.trans ?_ (Keeps.nilT hp ts hts');refine⟨λt' ht' _ _=>zr λe=>?_,λj hj _=>zr λe=>?_⟩
     ·have:=hts _ (qG ..);grind
     grind
   ·exact Keeps.nilT hp ts hts'
  ·exact(Keeps.nilA hp (hts _ (qG ..)) _ 0).trans (Keeps.nilT hp ts hts')
  ·exact Keeps.nilT hp ts hts'
omit [Dfr] in
theorem Keeps.nil1{q:Nat}{d:Us Nat}(hp:∀id,1048576<=id->p id=G)(hid:p id=G):Keeps S (nil1 es id s q S) d l p:=by
 unfold Px.nil1;split
 ·split
  ·cases isNone (S.heap _) with
   |true=>
    refine⟨λ_ _ _ _=>rfl,λj hj _=>?_⟩;show upd (upd S.heap _ _) id _ j=S.heap j;have e1:j≠id:=λe=>by grind
    rw[zr e1];exact zr λe=>by grind
   |false=>exact .refl S
  ·exact .refl S
 ·exact .refl S
omit [Dfr] in
theorem Keeps.nilC{d:Us Nat}(hp:∀id,1048576<=id->p id=G)(hid:p id=G):∀(sl:List Sh) (q:Nat) {S:St C},Keeps S (nilC es id sl q S) d l p
 |[],q,S =>.refl S
 |s::sl,q,S=>(Keeps.nil1 hp hid).trans (Keeps.nilC hp hid sl _)
omit [Dfr] in
theorem Keeps.nilE{all:List ESh}{d:Us Nat}(hp:∀id,1048576<=id->p id=G)(hb:∀id,yb id bl=G->p id=G):∀(es:List ESh) (k:Nat) {S:St C},Keeps S (nilE all bl es k S) d l p
 |[],k,S =>.refl S
 |e::es,k,S=>by
  refine Keeps.trans ?_ (Keeps.nilE hp hb es _);unfold zfZ;split
  ·rename_i id e';exact Keeps.nilC hp (hb id (x8 e')) _ 0
  ·exact .refl S
def zuK(g:Sig)(m:Nat)(S:St C):Bl:=Zx g m (nilT g.es g.ts (S.frz (fzT S g.ts)))
def zfN(g:Sig)(m:Nat)(S:St C):List Nat:=
 let S1:=nilT g.es g.ts (S.frz (fzT S g.ts))
 let S2:=nilE g.es (Zx g m S1) g.es 0 S1
 fzT S g.ts++fzE S2 (Zx g m S2) g.es 0
omit [Dfr] in
theorem Keeps.prep{g:Sig}{d:Us Nat}(hp:∀id,1048576<=id->p id=G)(hts:∀q∈g.ts,vB<=q.1)(hb:∀id,yb id (zuK g m S)=G->p id=G)(hf:∀id∈zfN g m S,zB id l=G/\p id=G):Keeps S (g.prep m S) d l p:=by
 unfold Sig.prep;simp only;refine(Keeps.frz _ λid hid=>hf id (by unfold zfN;grind)).trans ((Keeps.nilT hp g.ts hts).trans ((Keeps.nilE hp hb g.es 0).trans (Keeps.frz _ λid hid=>hf id (by unfold zfN;grind))))
theorem zaW(d k:Nat)(hk:k < 64):nid d k / 64=d+1:=by unfold nid;omega
theorem Keeps.merge{Sr:St C}{d:Nat}(hg:∀id∈Yx es bl,zB id l=G/\p id=G)(hb:∀id,yb id bl=G->p id=G)(hn:∀k,k < 64->p (nid d k)=G)(hes:es.length<=64)(hx:∀id,yb id bl=G->zB (xo id) l=G):Keeps S (Zw S Sr d bl es) (E d) l p:=by
 have hg':∀i,zB i (Yx es bl)=G->zB i l=true:=λi hi=>(hg i (zS.1 hi)).1
 refine⟨λt _ _ h=>by show AV.kill _ (AV.knx _ (S.env t))=_;rw[V0 (λid hid=>hx id (by grind)) h,zbD hg' h],λj hj h=>?_⟩;have e1:(Zw S Sr d bl es).heap j=bif zB j (Yx es bl) then O else(S.heap j).map λe=>Ent.kill (λi=>zB i (Yx es bl)) (Ent.knx (λi=>yb i bl && !zB i (kpL Sr bl 0)) e):=by
  refine vg λk e he hge=>?_
  rw[UM];intro e';unfold xp at e';split at e'
  ·rename_i id hid;subst e';rw[hb _ (x8 hid)] at hj;cases hj
  grind
 rw[e1];cases hm:zB j (Yx es bl) with
 |true=>rw[(hg j (zS.1 hm)).2] at hj;cases hj
 |false=>
  simp only[Ux];cases hs:S.heap j with
  |none=>rfl
  |some en=>
   rw[hs] at h;cases en with
   |row T s=>rfl
   |obj q T b s=>rfl
   |orow T s g=>rfl
   |cell cs=>show E (Ent.cell (AV.kills _ (AV.knxs _ cs)))=_;rw[XI (λid hid=>hx id (by grind)) h,X1 hg' h]
abbrev Tch:=List Nat×(Nat->Bool)
def zc0(d:Nat):Us Tch:=E ([],λi=>M (i / 64) (d+1))
def zbF:Bl->List Nat
 |[]=>[]
 |some id::r=>xo id::zbF r
 |none::r=>zbF r
theorem ze3:∀{bl:Bl},yb id bl=G->xo id∈zbF bl
 |some a::r,h=>by
  simp only[yb,UB] at h;rcases h with h | h
  ·rw[ge h];simp[zbF]
  ·exact Do _ (ze3 h)
 |none::r,h=>ze3 (bl:=r) h
 |[],h=>by cases h
def zqY(id:Nat)(l:List Nat):Us Tch:=E (l,λi=>M i id || zB i l)
def vO(Γ:List (Spec C))(S:St C)(d f:Nat)(As:List (AV C.D)):Us Tch:=match Γ with
 |[]=>E ([],λi=>M (i / 64) (d+1))
 |s::Γ=>bif M s.f f then(match YM s.ins S As with
  |some (S2,bl,x)=>bif s.view then E ([],λ_=>I) else bif s.viewO then chk (s.outs.all λo=>qA o.2.es.length 64) (E ([],λi=>M (i / 64) (d+1))) else go s bl (zuK s.ins.shift 0 (virt S As)) (zfN s.ins.shift 0 (virt S As)++((s.outs.flatMap λo=>Yx o.2.es bl)++zbF bl))
  |none=>vO Γ S d f As) else vO Γ S d f As
where
 go (s:Spec C) (bl b1:Bl) (l:List Nat):Us Tch:=chk (s.outs.all λo=>qA o.2.es.length 64) (E (l,λi=>zB i l || (yb i bl || (M (i / 64) (d+1) || (qA 1048576 i || yb i b1)))))
def zsn(Γ:List (Spec C))(P:Program)(o:Oper)(S:St C):Us Tch:=match o.dst with
 |none=>match o.op with
  | .store t x y=>(match S.op x with
   | .pc id _=>zqY id []
   | .pr id _ _ _=>zqY id (AV.rows (S.op y))
   |_=>O)
  | .mapUpdate _ x _ _=>(match S.op x with
   | .row id=>E ([],λi=>M i id)
   |_=>O)
  |_=>E ([],λ_=>I)
 |some d=>match o.op with
  | .alloc _=>zc0 d
  | .box _ _=>zc0 d
  | .makeSlice _ _ _=>zc0 d
  | .makeMap _ _=>zc0 d
  | .buildSlice _ _ parts=>go d (AV.rowss (parts.toList.map λq=>S.op q.2))
  | .call ⟨.value c,args,_⟩=>(match S.op c with
   | .clo f caps=>vO Γ S d f (x7 (args.toList.map S.op) caps)
   |_=>O)
  | .call ⟨.builtin .append,args,_⟩=>(match args.toList with
   |[x,y]=>(match S.op x with
    | .row id=>go d [id]
    | .nils=>zc0 d
    |_=>O)
   |_=>O)
  | .slice _ x _ _ _=>go d (S.op x).hid
  | .panic _=>E ([],λ_=>I)
  |_=>E ([],λ_=>I)
where
 go (d:Nat) (l:List Nat):Us Tch:=E (l,λi=>zB i l || M (i / 64) (d+1))
theorem Z1(h:id∈l):zB id l=true:=zS.2 h
theorem vi(d:Nat):M (nid d 0 / 64) (d+1)=true:=by rw[zaW d 0 (by omega)];simp
theorem V1:∀{outs:List (XK×Sig)}{r:zi C outs},∃o∈outs,yi outs r=o.2.es
 |[],r=>r.elim
 |[o],r=>⟨o,by simp,rfl⟩
 |o::o2::l,r=>by
  cases r with
  |inl a=>exact⟨o,by simp,rfl⟩
  |inr y=>
   let⟨o',h1,h2⟩:=V1 (outs:=o2::l) (r:=y);exact⟨o',Do _ h1,h2⟩
theorem Xs{K:XE C->St C->Us α}{z:α}{outs:List (XK×Sig)}{r:zi C outs}(h:zT outs r K=E z):∃e S,K e S=E z:=by
 have hq:zT outs r (λ_ _=>True):=by
  clear h;revert r
  induction outs with
  |nil=>intro r;exact r.elim
  |cons o l ih=>
   have one:∀y:XK.ty C o.1 o.2,Ya o.1 o.2 y (λ_ _=>True):=λy=>by
    let⟨k,g⟩:=o;cases k<;>trivial
   cases l with
   |nil=>intro r;exact one r
   |cons o2 l=>
    intro r;cases r with
    |inl a=>exact one a
    |inr y=>exact ih (r:=y)
 let⟨e,S,h1,_⟩:=Xp h hq;grind
theorem zit{s:Spec C}(hvo:s.viewO=G){d:Nat}{x:s.ins.ty C}{S':St C}(h:yC s d S x=E (.go S')):Keeps S S' (E d) [] λi=>M (i / 64) (d+1):=by
 simp only[Spec.viewO,gf] at hvo;unfold yC at h;let⟨r,_,h⟩:=gc h;let⟨e,Sr,h⟩:=Xs h;let⟨_,h⟩:=zc h;unfold wR at h;let⟨_,h⟩:=zc h;cases e with
 |normal=>cases h
 |exit i=>cases h
 |pan A=>cases h
 |ret=>
  cases h;let⟨o,ho,he⟩:=V1 (outs:=s.outs) (r:=r);have hg:Yx (yi s.outs r) []=[]:=by cases yi s.outs r<;>rfl
  have hc:=Dj.1 hvo.2 o ho;simp only[gf] at hc;refine Keeps.trans (.merge (λid hid=>?_) (λid hid=>?_) (λk hk=>?_) ?_ (λid hid=>?_)) (Keeps.trans .unvirt .put)
  ·grind
  ·cases hid
  ·simp only[zaW d k hk,qJ]
  ·rw[he];exact UT hc.2
  ·cases hid
theorem ziu{s:Spec C}{d:Nat}{x:s.ins.ty C}{S':St C}(h:yO s d S x=E (.go S')):Keeps S S' (E d) l p:=by
 let⟨_,h⟩:=zc h;let⟨r,_,h⟩:=gc h;let⟨e,Sr,h⟩:=Xs h;unfold zaU at h;cases e with
 |normal=>cases h
 |exit i=>cases h
 |pan A=>let⟨_,h⟩:=zc h;cases h
 |ret=>let⟨_,h⟩:=zc h;cases h;exact .put
theorem zcw{d:Nat}{As:List (AV C.D)}{S':St C}:∀{Γ:List (Spec C)},xr Γ S d f As=E (.go S')->Keeps S S' (E d) [] λi=>M (i / 64) (d+1)
 |[],h=>by cases h
 |s::Γ,h=>by
  unfold xr at h;cases hf:(M s.f f && (s.view || s.viewO)) with
  |false=>rw[hf] at h;exact zcw h
  |true=>
   rw[hf,Dk] at h;let⟨Bs,h,_⟩:=zbv h;let⟨_,h⟩:=zc h;let⟨T,h,_⟩:=vv h;split at h
   ·rename_i S2 bl x hl;cases hv:s.view with
    |true=>rw[hv] at h;exact ziu h
    |false=>
     rw[hv] at h;simp only[gf,UB,hv] at hf;exact zit (by grind) h
   ·cases h
theorem zaF{Γ0:List (Spec C)}{d:Nat}{As:List (AV C.D)}{S':St C}:∀{Γ:List (Spec C)},YD Γ0 Γ S d f As=E (.go S')->vO Γ S d f As=E (l,p)->Keeps S S' (E d) l p
 |[],h,ht=>by cases ht;exact zcw h
 |s::Γ,h,ht=>by
  unfold YD at h;unfold vO at ht;cases hf:M s.f f with
  |false=>rw[hf] at h ht;exact zaF h ht
  |true=>
   rw[hf] at h ht;simp only[Dk] at h ht;split at h
   ·rename_i S2 bl x hl;rw[hl] at ht;simp only at ht;cases hv:s.view with
    |true=>
     rw[hv] at h ht;cases ht;simp only[Dk] at h;let⟨_,h⟩:=zc h;let⟨r,_,h⟩:=gc h;let⟨e,Sr,h⟩:=Xs h;unfold zaU at h;cases e with
     |normal=>cases h
     |exit i=>cases h
     |pan A=>let⟨_,h⟩:=zc h;cases h
     |ret=>let⟨_,h⟩:=zc h;cases h;exact .put
    |false=>
    rw[hv] at h ht;rw[Ux] at h ht;cases hv2:s.viewO with
    |true=>
     rw[hv2] at h ht;rw[Dk] at h ht;let⟨hc,ht⟩:=zc ht;cases ht;unfold yC at h;let⟨r,_,h⟩:=gc h;let⟨e,Sr,h⟩:=Xs h;let⟨_,h⟩:=zc h;unfold wR at h;let⟨_,h⟩:=zc h;cases e with
     |normal=>cases h
     |exit i=>cases h
     |pan A=>cases h
     |ret=>
      cases h;let⟨o,ho,he⟩:=V1 (outs:=s.outs) (r:=r);have hg:Yx (yi s.outs r) []=[]:=by cases yi s.outs r<;>rfl
      refine Keeps.trans (.merge (λid hid=>?_) (λid hid=>?_) (λk hk=>?_) ?_ (λid hid=>?_)) (Keeps.trans .unvirt .put)
      ·grind
      ·cases hid
      ·simp only[zaW d k hk,qJ]
      ·rw[he];exact UT (Dj.1 hc o ho)
      ·cases hid
    |false=>
    rw[hv2] at h ht;simp only[Ux] at h ht;let⟨hc,ht⟩:=zc ht;cases ht;unfold YM at hl;let⟨_,hl⟩:=zc hl;let⟨x',hx,he⟩:=Du.1 hl;cases he;unfold xq at h;let⟨r,_,h⟩:=gc h;let⟨_,h⟩:=zc h;let⟨e,Sr,h⟩:=Xs h;unfold wR at h;let⟨_,h⟩:=zc h;cases e with
    |normal=>cases h
    |exit i=>cases h
    |pan A=>cases h
    |ret=>
     cases h;let⟨o,ho,he⟩:=V1 (outs:=s.outs) (r:=r);refine Keeps.trans .virt (Keeps.trans (.prep (g:=s.ins.shift) (m:=0) (λid h=>?_) (λq hq=>?_) (λid hid=>?_) (λid hid=>?_)) (Keeps.trans (.merge (λid hid=>?_) (λid hid=>?_) (λk hk=>?_) ?_ (λid hid=>?_)) (Keeps.trans .unvirt .put)))
     ·simp[Nat.ble_eq,h]
     ·obtain⟨p,hp,rfl⟩:=Dp.1 hq;grind
     ·grind
     ·have:=Z1 (Dw ((s.outs.flatMap λo=>Yx o.2.es (Zx s.ins.shift 0 (s.ins.shift.prep 0 (virt S As))))++zbF (Zx s.ins.shift 0 (s.ins.shift.prep 0 (virt S As)))) hid);grind
     ·have:id∈zfN s.ins.shift 0 (virt S As)++((s.outs.flatMap λo=>Yx o.2.es (Zx s.ins.shift 0 (s.ins.shift.prep 0 (virt S As))))++zbF (Zx s.ins.shift 0 (s.ins.shift.prep 0 (virt S As)))):=qH _ (Dw _ (List.mem_flatMap.2 ⟨o,ho,by grind⟩));have:=Z1 this;grind
     ·grind
     ·simp only[zaW d k hk,qJ,qV,qL]
     ·rw[he];exact UT (Dj.1 hc o ho)
     ·exact Z1 (qH _ (qH _ (ze3 hid)))
   ·rename_i hl;rw[hl] at ht;exact zaF h ht
theorem znL{d:Nat}{As:List (AV C.D)}{S':St C}{Γ:List (Spec C)}(h:Vf Γ S d f As=E (.go S'))(ht:vO Γ S d f As=E (l,p)):Keeps S S' (E d) l p:=zaF h ht
theorem zeF{d:Nat}{cs:List (AV C.D)}{S':St C}(h:zbn S d cs=E (.go S'))(hp:p (nid d 0)=G):Keeps S S' (E d) l p:=by
 let⟨_,h⟩:=zc h;cases h;exact .new hp
theorem zg2{d:Nat}{ty t:TypeId}{x:Operand}{S':St C}(h:Ys P S d ty t x lo hi=E (.go S')):Keeps S S' (E d) (S.op x).hid λi=>zB i (S.op x).hid || M (i / 64) (d+1):=by
 unfold Ys at h;split at h
 ·rename_i id ex;let⟨A,_,h⟩:=gc h;cases h;rw[ex];have hid:zB id (AV.hid (.row (D:=C.D) id))=true:=Z1 (by simp[AV.hid])
  have:=Keeps.frz (d:=E d) (l:=AV.hid (.row (D:=C.D) id)) (p:=λi=>zB i (AV.hid (.row (D:=C.D) id)) || M (i / 64) (d+1)) [id] (S:=S) (λj hj=>by
   grind)
  exact Keeps.trans this .put
 ·cases h
theorem zwB{q:Opts}{Γ:List (Spec C)}{n:Nat}{o:Oper}{S':St C}(h:Vg q Γ P n o S=E (.go S'))(ht:zsn Γ P o S=E (l,p)):Keeps S S' o.dst l p:=by
 let⟨dst,op,ty,ps,af,g⟩:=o;unfold Vg at h;unfold zsn at ht;cases dst with
 |none=>
  simp only at h ht |-
  split at h
  ·rename_i t x y;simp only at ht;unfold yv at h;split at h
   ·rename_i ti id off hi ex;rw[ex] at ht;cases ht;split at h
    ·let⟨_,h⟩:=zc h;cases h;exact .ent (by simp)
    ·cases h
   ·rename_i ti id T i off hi ex;rw[ex] at ht;cases ht;refine Keeps.trans (.frz (AV.rows (S.op y)) λj hj=>⟨Z1 hj,by rw[Z1 hj];simp⟩) ?_;have hx:(S.frz (AV.rows (S.op y))).op x = .pr id T i off\/¬ (S.frz (AV.rows (S.op y))).op x = .pr id T i off:=Classical.em _;have key:∀(S1:St C),(∀id' T' i' off',S1.op x = .pr id' T' i' off'->id'=id)->yv.go x y ti S1=E (.go S')->Keeps S1 S' O (AV.rows (S.op y)) λi=>M i id || zB i (AV.rows (S.op y)):=by
     intro S1 hk h;unfold yv.go at h;split at h
     ·rename_i id' T' i' off' ex';have:=hk _ _ _ _ ex';subst this;split at h
      ·let⟨_,h⟩:=zc h;let⟨q,_,h⟩:=gc h;let⟨q',_,h⟩:=gc h;cases h;exact .ent (by simp)
      ·cases h
     ·cases h
    refine key _ ?_ h;intro id' T' i' off' e';cases x with
    |const v=>exact absurd ex (by cases v<;>(try (intro h;cases h;done))<;>(simp only[St.op,zbh,yh];grind))
    |global g=>cases ex
    |func f=>cases ex
    |tmp tt=>
     have e1:S.env tt = .pr id T i off:=ex;have e2:(S.frz (AV.rows (S.op y))).env tt = .pr id' T' i' off':=e';have frzpr:∀(r:List Nat) (S1:St C),(∀a b c d,S1.env tt = .pr a b c d->a=id)->(∀R,S1.env tt=R->(∃a b c d,R = .pr a b c d)\/R = .und)->(∀a b c d,(S1.frz r).env tt = .pr a b c d->a=id):=by
      intro r
      induction r with
      |nil=>intro S1 h1 _;exact h1
      |cons j r ih=>
       intro S1 h1 h2;refine ih (S1.frz1 j) ?_ ?_
       ·intro a b c d e;rcases zbE S1 j with⟨R0,e0⟩ | e0
        ·rw[e0] at e;have e:AV.sub j R0 (S1.env tt)=_:=e;rcases h2 _ rfl with⟨a',b',c',d',h⟩ | h
         ·rw[h] at e;unfold AV.sub at e;cases hb:M a' j with
          |true=>grind
          |false=>grind
         ·rw[h] at e;cases e
        grind
       ·intro R e;rcases zbE S1 j with⟨R0,e0⟩ | e0
        ·rw[e0] at e;have e:AV.sub j R0 (S1.env tt)=_:=e;rcases h2 _ rfl with⟨a',b',c',d',h⟩ | h
         ·rw[h] at e;unfold AV.sub at e;cases hb:M a' j with
          |true=>grind
          |false=>grind
         ·rw[h] at e;exact .inr e.symm
        grind
     grind
   ·cases h
  ·rename_i t x y z;simp only at ht;unfold wm at h;split at h
   ·split at h
    ·rename_i id v hk ex ez;rw[ex] at ht;cases ht;split at h
     ·rename_i q T b s k es ey;split at h
      ·let⟨_,h⟩:=zc h;cases h;exact .ent (by simp)
      ·cases h
     ·cases h
    ·rename_i id v hk ex ez;rw[ex] at ht;cases ht;split at h
     ·rename_i q T b s k es ey;split at h
      ·let⟨_,h⟩:=zc h;cases h;exact .ent (by simp)
      ·cases h
     ·cases h
    ·cases h
   ·cases h
  ·rename_i x;unfold x6 at h;split at h
   ·let⟨_,h⟩:=zc h;cases h
   ·cases h
  ·cases h
 |some d=>
  simp only at h ht |-
  let⟨_,h⟩:=zc h;unfold wo at h;have pan:∀x,x6 S x=E (.go S')->False:=λx h=>by
   unfold x6 at h;split at h
   ·let⟨_,h⟩:=zc h;cases h
   ·cases h
  split at h
  ·cases ht;unfold x5 at h;split at h
   ·split at h
    ·split at h
     ·let⟨_,h⟩:=zc h;cases h;exact .new (vi d)
     ·exact zeF h (vi d)
    ·cases h
   ·cases h
  ·cases ht;let⟨_,h⟩:=zc h;rw[qW] at h;split at h
   ·let⟨q,_,h⟩:=gc h;cases h;exact .put
   ·exact zeF h (vi d)
  ·rename_i t m parts;cases ht;unfold YX at h;refine Keeps.trans (.frz _ λj hj=>⟨Z1 hj,by simp only[Z1 hj,qV]⟩) ?_;generalize S.frz _=S1 at h |-
   unfold YX.go at h;split at h
   ·split at h
    ·split at h
     ·let⟨_,h⟩:=zc h;let⟨q,_,h⟩:=gc h;cases h;exact .new (by simp only[vi,qL])
     ·cases h
    ·cases h
   ·cases h
  ·rename_i t x lo hi mx;cases ht;split at h
   ·cases h;exact .put
   ·unfold wn at h;split at h
    ·exact zg2 h
    ·cases h
  ·cases ht;split at h
   ·cases h;exact .put
   ·cases h
  ·rename_i c args ts _;simp only at ht;split at h
   ·rename_i f caps ec;rw[ec] at ht;exact znL (zc h).2 ht
   ·cases h
  ·rename_i args ts _;simp only at ht;split at h
   ·rename_i x y t t' e1 e2;rw[e1] at ht;simp only at ht;let⟨_,h⟩:=zc h;unfold yU at h;split at h
    ·split at h
     ·split at h
      ·let⟨_,h⟩:=zc h;split at h
       ·rename_i id ex;rw[ex] at ht;cases ht;have hid:zB id [id]=true:=Z1 (by simp);split at h
        ·let⟨_,h⟩:=zc h;let⟨q,_,h⟩:=gc h;let⟨q',_,h⟩:=gc h;cases h;exact Keeps.trans (.sub hid (by grind)) (.new (by simp only[vi,qL]))
        ·cases h
       ·rename_i ex;rw[ex] at ht;cases ht;let⟨q,_,h⟩:=gc h;let⟨q',_,h⟩:=gc h;cases h;exact .new (vi d)
       ·cases h
      ·cases h
     ·cases h
    ·cases h
   ·cases h
  ·cases ht;unfold Xo at h;split at h
   ·let⟨_,h⟩:=zc h;cases h;exact .new (vi d)
   ·split at h
    ·let⟨_,h⟩:=zc h;cases h;exact .new (vi d)
    ·cases h
  ·cases ht;unfold Vb at h;split at h
   ·split at h
    ·split at h
     ·split at h
      ·let⟨_,h⟩:=zc h;cases h;exact .put
      ·cases h
     ·cases h
    ·split at h
     ·split at h
      ·let⟨_,h⟩:=zc h;cases h;exact .put
      ·cases h
     ·cases h
    ·cases h
   ·cases h
  ·grind
  ·let⟨A,_,h⟩:=Du.1 h;cases h;exact .put
omit [Dfr] in
theorem Keeps.owk{e:Ent C}{d:Us Nat}(hm:zB (xo id) l=G)(hp:p id=G):Keeps S (S.owk id e) d l p:=by
 have hx:∀i,M i id=G->zB (xo i) l=true:=λi hi=>by rw[ge hi];exact hm
 refine⟨λt _ _ h=>V0 hx h,λj hj h=>?_⟩;show(bif M j id then E e else(S.heap j).map (Ent.knx _))=S.heap j;cases e1:M j id with
 |true=>have:=ge e1;grind
 |false=>
  simp only[Ux];cases hs:S.heap j with
  |none=>rfl
  |some en=>
   rw[hs] at h;cases en with
   |row T s=>rfl
   |obj q T b s=>rfl
   |orow T s g=>rfl
   |cell cs=>show E (Ent.cell (AV.knxs _ cs))=_;rw[XI hx h]
def zxT:KN->Us Nat
 | .st _ _ _=>O
 | .apn d _ _ _ _=>E d
 | .apo d _ _ _ _=>E d
 | .bl d _ _ _ _=>E d
theorem zqZ{op:Op}{k:KN}(h:Y4 P S dst op=E k):zxT k=dst:=by
 unfold Y4 at h;split at h
 ·cases hc:zfb S _ _ with
  |true=>rw[hc] at h;cases h;rfl
  |false=>grind
 ·split at h
  ·rename_i x y _ _ _ _;cases hc:zfa S x with
   |true=>rw[hc] at h;cases h;rfl
   |false=>
    rw[hc,Ux] at h;cases hc2:isO S y with
    |true=>rw[hc2] at h;cases h;rfl
    |false=>grind
  ·cases h
 ·split at h
  ·cases hc:(C.own (wC P _) && zdb (zu (S.op _)) (C.nst (wC P _))) with
   |true=>rw[hc] at h;cases h;rfl
   |false=>grind
  ·cases h
 ·cases h
def zg3(S:St C):KN->Us Tch
 | .st _ x y=>(match S.op x with
  | .pr id T _ off=>E (bif xW off (zu (S.op y)).length (C.nst T) then xo id::AV.rowss (zu (S.op y)) else [],λi=>M i id || zB i (AV.rowss (zu (S.op y))))
  | .nx id _ _ _=>E ([],λi=>M i id)
  |_=>O)
 | .apn d _ _ x _=>(match S.op x with
  | .nx id _ _ _=>E ([xo id,nid d 1],λi=>M i id || M (i / 64) (d+1))
  |_=>O)
 | .apo d _ _ x y=>(match S.op x,S.op y with
  | .row id,.row id2=>E ([id,id2],λi=>zB i [id,id2] || M (i / 64) (d+1))
  | .nils,.row id2=>E ([id2],λi=>zB i [id2] || M (i / 64) (d+1))
  |_,_=>O)
 | .bl d _ _ _ y=>E (AV.rowss (zu (S.op y)),λi=>zB i (AV.rowss (zu (S.op y))) || M (i / 64) (d+1))
theorem zg4{D:Nat->Type}:∀{cs:List (AV D)}{k:Nat},cs[k]?=E (.row id)->id∈AV.rowss cs
 |A::cs,0,h=>by
  simp at h;subst h;simp[AV.rowss,AV.rows]
 |A::cs,k+1,h=>by
  have:=zg4 (cs:=cs) (k:=k) (by simpa using h);simp only[AV.rowss,Uu];grind
 |[],k,h=>by simp at h
theorem zeG{s:Sl (C.D T0)}{g:Own}{i:Int}{cells:List (AV C.D)}{S':St C}(h:X9 S id T0 s g i off cells E=E (.go S'))(hx:zB (xo id) l=G)(hp:p id=G)(hr:∀id2,id2∈AV.rowss cells->zB id2 l=G/\p id2=G){d:Us Nat}:Keeps S S' d l p:=by
 unfold X9 at h;simp only[WS] at h;split at h
 ·rename_i id2 hc;split at h
  ·let⟨_,h⟩:=zc h;let⟨q,_,h⟩:=gc h;let⟨g',_,h⟩:=gc h;let⟨q',_,h⟩:=gc h;cases h;let⟨r1,r2⟩:=hr id2 (zg4 hc);exact Keeps.trans (.sub r1 r2) (.owk hx hp)
  ·cases h
 ·let⟨q,_,h⟩:=gc h;split at h
  ·let⟨g',_,h⟩:=gc h;let⟨q',_,h⟩:=gc h;cases h;exact .owk hx hp
  ·cases h
 ·cases h
theorem zc1{gid d:Nat}{t:TypeId}{x y:Operand}{S':St C}(h:yU P S d t x y=E (.go S'))(hx:S.op x = .row gid)(hm:zB gid l=G)(hp:p gid=G)(hd:p (nid d 0)=G):Keeps S S' (E d) l p:=by
 unfold yU at h;split at h
 ·split at h
  ·split at h
   ·let⟨_,h⟩:=zc h;rw[hx] at h;simp only at h;split at h
    ·let⟨_,h⟩:=zc h;let⟨_,_,h⟩:=gc h;let⟨_,_,h⟩:=gc h;cases h;exact Keeps.trans (.sub hm hp) (.new hd)
    ·cases h
   ·cases h
  ·cases h
 ·cases h
theorem zxU(d:Nat):M (nid d 1 / 64) (d+1)=true:=by rw[zaW d 1 (by omega)];simp
theorem znM{k:KN}{S':St C}(h:Vq P S k=E (.go S'))(ht:zg3 S k=E (l,p)):Keeps S S' (zxT k) l p:=by
 cases k with
 |st t x y=>
  simp only[Vq] at h;simp only[zg3] at ht;unfold xI Xt at h;split at h
  ·rename_i ti id T i off hi ex;rw[ex] at ht;cases ht;split at h
   ·rename_i T' s g hs;let⟨hc,h⟩:=zc h;simp only[gf] at hc;obtain rfl:=ge hc.1;cases hin:xW off (zu (S.op y)).length (C.nst T) with
    |true=>
     rw[hin] at h;simp only[Dk] at h |-
     exact zeG h (by simp[zB]) (by simp) λid2 h2=>⟨by simp[zB,Z1 h2],by simp[Z1 h2]⟩
    |false=>
     rw[hin] at h;simp only[Ux] at h |-
     let⟨q,_,h⟩:=gc h;let⟨q',_,h⟩:=gc h;cases h;exact .ent (by simp)
   ·rename_i T' s hs;let⟨hc,h⟩:=zc h;simp only[gf] at hc;obtain rfl:=ge hc.1;rw[hc.2.2];simp only[Dk];exact zeG h (by simp[zB]) (by simp) λid2 h2=>⟨by simp[zB,Z1 h2],by simp[Z1 h2]⟩
   ·cases h
  ·rename_i ti id T i U k off hi ex;rw[ex] at ht;cases ht;split at h
   ·let⟨_,h⟩:=zc h;let⟨q,_,h⟩:=gc h;split at h
    ·let⟨_,h⟩:=zc h;let⟨_,_,h⟩:=gc h;let⟨_,_,h⟩:=gc h;let⟨_,_,h⟩:=gc h;cases h;exact .ent (by simp)
    ·cases h
   ·cases h
  ·cases h
 |apn d t t' x y=>
  simp only[Vq] at h;simp only[zg3] at ht;have h:=(zc h).2;unfold wY at h;cases x with
  |const v=>cases h
  |global g=>cases h
  |func f=>cases h
  |tmp tx=>
   simp only at h;split at h
   ·rename_i id T i ex;have ht:(match S.env tx with | .nx id _ _ _=>E ([xo id,nid d 1],λi=>M i id || M (i / 64) (d+1)) | _=>O)=E (l,p):=ht;rw[ex] at ht;cases ht;unfold wX at h;split at h
    ·let⟨hc,h⟩:=zc h;simp only[gf] at hc;let⟨_,_,h⟩:=gc h;split at h
     ·have k2:=zc1 (gid:=nid d 1) (l:=[xo id,nid d 1]) (p:=λi=>M i id || M (i / 64) (d+1)) h (by show upd S.env tx _ tx=_;rw[zq]) (by simp[zB]) (by simp[zxU]) (by simp[vi]);refine Keeps.trans ⟨λt ht hd ha=>?_,λj hj _=>?_⟩ k2
      ·show upd S.env tx _ t=S.env t;by_cases e:t=tx
       ·subst e;rw[ex] at ha;simp[AV.avoid,zB] at ha
       ·rw[zr e]
      ·show upd (upd S.heap id _) (nid d 1) _ j=S.heap j;rw[zr λe=>by subst e;simp[zxU] at hj,zr λe=>by subst e;simp at hj]
     ·cases h
    ·cases h
   ·cases h
 |apo d t t' x y=>
  simp only[Vq] at h;simp only[zg3] at ht;let⟨_,h⟩:=zc h;unfold wZ Wy at h;split at h
  ·split at h
   ·split at h
    ·let⟨_,h⟩:=zc h;split at h
     ·rename_i id2 ey;rw[ey] at ht;split at h
      ·split at h
       ·rename_i id ex;rw[ex] at ht;cases ht;split at h
        ·let⟨_,h⟩:=zc h;let⟨_,_,h⟩:=gc h;let⟨_,_,h⟩:=gc h;cases h;exact Keeps.trans (.sub (by simp[zB]) (by simp[zB])) (Keeps.trans (.sub (by simp[zB]) (by simp[zB])) (.new (by simp[vi])))
        ·cases h
       ·rename_i ex;rw[ex] at ht;cases ht;let⟨_,_,h⟩:=gc h;let⟨_,_,h⟩:=gc h;cases h;exact Keeps.trans (.sub (by simp[zB]) (by simp[zB])) (.new (by simp[vi]))
       ·cases h
      ·cases h
     ·cases h
    ·cases h
   ·cases h
  ·cases h
 |bl d t i m y=>
  simp only[Vq] at h;simp only[zg3] at ht;cases ht;let⟨_,h⟩:=zc h;unfold xK Xu at h;split at h
  ·split at h
   ·split at h
    ·let⟨_,h⟩:=zc h;split at h
     ·rename_i id2 hc;split at h
      ·let⟨_,_,h⟩:=gc h;cases h;have hm:=Z1 (zg4 hc);exact Keeps.trans (.sub hm (by simp[hm])) (.new (by simp[vi]))
      ·cases h
     ·cases h
    ·cases h
   ·cases h
  ·cases h
def tch(Γ:List (Spec C))(P:Program)(o:Oper)(S:St C):Us Tch:=match Y4 P S o.dst o.op with
 |some k=>zg3 S k
 |none=>zsn Γ P o S
theorem zq0{q:Opts}{Γ:List (Spec C)}{n:Nat}{o:Oper}{S':St C}(h:stp q Γ P n o S=E (.go S'))(ht:tch Γ P o S=E (l,p)):Keeps S S' o.dst l p:=by
 unfold stp at h;unfold tch at ht;cases hk:Y4 P S o.dst o.op with
 |some k=>
  rw[hk] at h ht;let⟨_,h⟩:=zc h;rw[<- zqZ hk];exact znM h ht
 |none=>rw[hk] at h ht;exact zwB h ht
end
variable [Dfr]
def zaX:List Operand->List Nat
 |[]=>[]
 | .tmp t::r=>t::zaX r
 |_::r=>zaX r
theorem zbG{t:Nat}:∀{l:List Operand},Operand.tmp t∈l->t∈zaX l
 |x::r,h=>by
  rcases UO.1 h with h | h
  ·subst h;simp[zaX]
  ·have:=zbG h;cases x<;>simp[zaX,this]
def X2(ops:Array Oper)(o:Oper):List Nat:=match o.guard with
 |none=>[]
 |some (j,_)=>match(ops[j]?).bind (·.dst) with
  |some d=>[d]
  |none=>[]
def looks(ops:Array Oper)(o:Oper):List Nat:=zaX o.op.operands.toList++X2 ops o
def zz(o:Oper):List Nat:=(o.after.toList.filter (qP .any)).map (·.on)
theorem znN{o:Oper}{e:Edge}(h:e∈o.after)(hb:qP .any e=G):e.on∈zz o:=Dp.2 ⟨e,Ds.2 ⟨by simpa using h,hb⟩,rfl⟩
def zbH(l cl:List Nat):Bool:=l.all λj=>zB j cl
def zdJ:List (Nat×Nat)->Nat->Nat
 |[],_=>0
 |(i,m)::r,j=>bif M i j then m else zdJ r j
def yV(al:List (Nat×Nat)):List Nat->Nat
 |[]=>0
 |j::ds=>qS (qS (qI 1 j) (zdJ al j)) (yV al ds)
section
variable {C:Cod}{ρ:Type}
def zfO(S:St C)(l:List Nat)(dst:Us Nat)(t:Nat):Bool:=(S.env t).avoid l && (W t vB && (match dst with | some d=> !M t d | none=>G))
def zfP(ops:Array Oper)(S:St C)(l:List Nat)(p:Nat->Bool)(dst:Us Nat)(r:Nat):Bool:=match ops[r]? with
 |some q=>(looks ops q).all (zfO S l dst) && ((match q.dst with | some d=>zfO S l dst d | none=>G) && (ze0 S q.op).all λid=> !p id && zku l (S.heap id))
 |none=>G
def zc2(S:St C)(l:List Nat):St C:={S with env:=λt=>bif zB t l then .und else S.env t}
def zxV(ops:Array Oper):List Nat:=ops.toList.filterMap (·.dst)
def Wr(ops:Array Oper)(n:Nat)(cl:List Nat)(taken:List Nat)(i:Nat)(o:Oper):Bool:=match o.dst with
  |none=>G
  |some d=>W d n && (W d vB && (!zB d (looks ops o) &&
      ((qC ops.size).all λj=>M j i || (match ops[j]? with
        |none=>G
        |some q=>(bif zB j cl then(!zB j taken || !zB d (looks ops q)) else(!zB d (looks ops q) || zB i (zz q))) && (match q.dst with
            |some d'=> !M d d'
            |none=>G)))))
def flB(C:Cod)(P:Program)(ops:Array Oper)(n j:Nat):Bool:=match ops[j]? with
  |none=>I
  |some o=>(match o.dst,o.op,o.guard with
    |some d,.alloc t,O=>(match P.info? t with
      |some ti=>(match ti.zero with
        |some zv=>(match C.oal t zv.cells.toList with
          |none=>W d n && (W d vB && (qC ops.size).all λj'=>M j' j || (match ops[j']? with
              |none=>G
              |some q=>(!zB d (looks ops q) || zB j (zz q)) && (match q.dst with
                |some d'=> !M d d'
                |none=>G)))
          |some _=>I)
        |none=>I)
      |none=>I)
    |_,_,_=>I)
def Ws(C:Cod)(P:Program)(ops:Array Oper)(n:Nat):List Nat:=(qC ops.size).filter (flB C P ops n)
def rmL(i:Nat)(l:List Nat):List Nat:=l.filter λj=> !M j i
def znO(ops:Array Oper)(fl cl:List Nat)(i:Nat):Bool:=(qC ops.size).all λj=>M j i || (zB j fl || (zB j cl || (match ops[j]? with
 |none=>G
 |some q=> !zbH (zz q) (rmL i fl++cl))))
def zq1(ops:Array Oper)(fl cl:List Nat)(i i2:Nat):Bool:=(qC ops.size).all λj=>(M j i || M j i2) || (zB j fl || (zB j cl || (match ops[j]? with
 |none=>G
 |some q=> !zbH (zz q) (rmL i (rmL i2 fl)++cl))))
open Classical in
noncomputable def yK(a b:Us α):Us α:=if a=b then a else O
theorem Zz(a:Us α):yK a a=a:=by unfold yK;grind
theorem zaG{a b:Us α}{r:α}(h:yK a b=E r):a=E r/\b=E r:=by
 unfold yK at h;grind
def yD(stp:yL C)(tc:Oper->St C->Us Tch)(P:Program)(n:Nat)(ops:Array Oper)(okB:Bool)(cl taken:List Nat)(m:Nat)(K:XE C->St C->Us ρ)(i:Nat)(early:Bool)(o:Oper)(run:Bool)(S:St C)(next:St C->List Nat->Us ρ):Us ρ:=
  bif early then chk (Wr ops n cl taken i o) (bif run then(match o.dst with
      |some d=>chk (rdQ o.op) (zsg P S o.type o.op λA=>next (S.put d A) (i::taken))
      |none=>O)
    else(match o.dst with
      |some d=>next (S.put d (.tup [])) (i::taken)
      |none=>next S (i::taken)))
  else chk okB (bif run then(match tc o S with
      |none=>O
      |some (l,p)=>chk (taken.all λr=>qs m r || zfP ops S l p o.dst r) (stp o S _ λout=>match out with
        | .go S'=>next S' taken
        | .pan v S'=>K (.pan v) (zc2 S' (zxV ops))))
    else chk (taken.all λr=>qs m r || zfP ops S [] (λ_=>I) o.dst r) (match o.dst with
      |some d=>chk (W d n) (next (S.put d (.tup [])) taken)
      |none=>next S taken))
def xu(stp:yL C)(tc:Oper->St C->Us Tch)(P:Program)(n:Nat)(ops:Array Oper)(okB:Bool)(i:Nat)(early:Bool)(cl taken:List Nat)(al:List (Nat×Nat))(S:St C)(K:XE C->St C->Us ρ)(next:List Nat->List Nat->List (Nat×Nat)->St C->Us ρ):Us ρ:=match ops[i]? with
    |none=>O
    |some o=>chk (!zB i cl && zbH (zz o) cl) (match o.guard with
      |none=>yD stp tc P n ops okB cl taken (yV al (zz o)) K i early o G S λS tk=>next (i::cl) tk ((i,yV al (zz o))::al) S
      |some (j,want)=>chk (zB j (zz o)) (match(ops[j]?).bind (·.dst) with
        |none=>O
        |some dg=>match S.env dg with
          | .bool q=>if q=G then yD stp tc P n ops okB cl taken (yV al (zz o)) K i early o want (S.put dg (.bool G)) (λS tk=>next (i::cl) tk ((i,yV al (zz o))::al) S)
              else yD stp tc P n ops okB cl taken (yV al (zz o)) K i early o (!want) (S.put dg (.bool I)) (λS tk=>next (i::cl) tk ((i,yV al (zz o))::al) S)
          | .tup []=>yD stp tc P n ops okB cl taken (yV al (zz o)) K i early o I S λS tk=>next (i::cl) tk ((i,yV al (zz o))::al) S
          |_=>O))
def XX(ops:Array Oper)(cl:List Nat)(i:Nat):Bool:=match ops[i]? with
 |some o=> !zB i cl && zbH (zz o) cl
 |none=>I
noncomputable def ZN(stp:yL C)(tc:Oper->St C->Us Tch)(P:Program)(n:Nat)(ops:Array Oper):List (Nat×Bool)->List Nat->List Nat->List (Nat×Nat)->St C->(XE C->St C->Us ρ)->Us ρ
  |[],cl,taken,al,S,K=>chk (zbH (qC ops.size) cl) (K .normal S)
  |(i,early)::ord,cl,taken,al,S,K=>bif W i 4096 then
      (bif XX ops cl i then xu stp tc P n ops (znO ops (Ws C P ops n) cl i) i early cl taken al S K λcl tk al S=>ZN stp tc P n ops ord cl tk al S K
      else ZN stp tc P n ops ord cl taken al S K)
    else bif XX ops cl ((i - 4096) / 64) && XX ops cl ((i - 4096) % 64) then chk (zq1 ops (Ws C P ops n) cl ((i - 4096) / 64) ((i - 4096) % 64)) (yK
      (xu stp tc P n ops G ((i - 4096) / 64) I cl taken al S K λcl tk al S=>ZN stp tc P n ops ord cl tk al S K)
      (xu stp tc P n ops G ((i - 4096) % 64) I cl taken al S K λcl tk al S=>ZN stp tc P n ops ord cl tk al S K))
    else ZN stp tc P n ops ord cl taken al S K
end
variable [Dfr]
section
variable {κ:Kp}{C:Cod}{S S1:St C}{n:Nat}{w0:Start}{σ0:FS}{P:Program}{ρ:Type}{ops:Array Oper}{D:Nat->Prop}{Γ:List (Spec C)}{qo:Opts}
def Xb(ops:Array Oper)(S:St C)(q:Oper)(run:Bool):Prop:=match q.guard with
 |none=>run=G
 |some (j,want)=>∃dg,(ops[j]?).bind (·.dst)=E dg/\((∃b,S.env dg = .bool b/\run=(b == want))\/(S.env dg = .tup []/\run=I))
def QV(P:Program)(ops:Array Oper)(S:St C)(q:Oper):Prop:=∃run,Xb ops S q run/\match run with
 |true=>rdQ q.op=G/\∃d,q.dst=E d/\evQ P S q.type q.op=E (S.env d)
 |false=>∀d,q.dst=E d->S.env d = .tup []
theorem Xb.congr(h:Xb ops S q run)(he:∀t∈X2 ops q,S1.env t=S.env t):Xb ops S1 q run:=by
 unfold Xb X2 at *
 cases hg:q.guard with
 |none=>grind
 |some jw=>
  let⟨j,want⟩:=jw;rw[hg] at h he;simp only at h he |-
  grind
theorem WQ{t:Nat}(h:t∈X2 ops q):t∈looks ops q:=qH _ h
theorem zc3{ty:TypeId}(he:∀t∈looks ops q,S1.env t=S.env t)(hh:∀id∈ze0 S q.op,S1.heap id=S.heap id):evQ P S1 ty q.op=evQ P S ty q.op:=by
 have hop:∀x∈q.op.operands.toList,S.op x=S1.op x:=λx hx=>by
  cases x with
  |tmp t=>exact(he t (Dw _ (zbG hx))).symm
  |const v=>rfl
  |global g=>rfl
  |func f=>rfl
 unfold evQ;split
 ·rename_i t m parts e;rw[e] at hop;have:∀e,Yq S1 e (parts.toList.map (·.2))=Yq S e (parts.toList.map (·.2)):=λe=>zfJ (S:=S1) (T:=S) λx hx=>(hop x (by simpa[V] using hx)).symm
  unfold zcW;grind
 ·exact(zmx (S:=S) (T:=S1) hop λid hid=>(hh id hid).symm).symm
theorem QV.congr(h:QV P ops S q)(he:∀t∈looks ops q,S1.env t=S.env t)(hd:∀d,q.dst=E d->S1.env d=S.env d)(hh:∀id∈ze0 S q.op,S1.heap id=S.heap id):QV P ops S1 q:=by
 let⟨run,hg,h⟩:=h;refine⟨run,hg.congr λt ht=>he t (WQ ht),?_⟩;cases run with
 |true=>
  let⟨h1,d,h2,h3⟩:=h;exact⟨h1,d,h2,by rw[zc3 he hh,h3,hd d h2]⟩
 |false=>grind
theorem zc4{t:Nat}(hk:Keeps S S1 dst l p)(h:zfO S l dst t=G):S1.env t=S.env t:=by
 simp only[zfO,gf] at h;let⟨h1,h2,h3⟩:=h;refine hk.env t (by rwa [UN] at h2) (λe=>?_) h1;rw[e] at h3;simp at h3
omit [Dfr] in
theorem QV.keep{r:Nat}(h:QV P ops S q)(hk:Keeps S S1 dst l p)(hq:ops[r]?=E q)(hr:zfP ops S l p dst r=G):QV P ops S1 q:=by
 unfold zfP at hr;rw[hq] at hr;simp only[gf] at hr;let⟨h1,h2,h3⟩:=hr;refine h.congr (λt ht=>zc4 hk (Dj.1 h1 t ht)) (λd e=>?_) λid hid=>?_
 ·rw[e] at h2;exact zc4 hk h2
 ·have:=Dj.1 h3 id hid;simp only[gf,Di] at this;exact hk.heap id this.1 this.2
theorem Xb.wanted(h:Xb ops S q run)(hA:At n w0 σ0 κ S a w):qE q (yielded ops a.tmps)=run:=by
 unfold Xb at h;unfold qE;cases hg:q.guard with
 |none=>grind
 |some jw=>
  let⟨j,want⟩:=jw;rw[hg] at h;simp only at h |-
  let⟨dg,e,h⟩:=h;have hy:=hA.yield e;rcases h with⟨b,h1,h2⟩ | ⟨h1,h2⟩
  ·rw[hy.1 b h1,h2];simp
  grind
theorem At.eqx(h:At n w0 σ0 κ S a w)(e:EqX (λ_=>False) S S1):At n w0 σ0 κ S1 a w:=by
 have:S=S1:=by
  let⟨e1,h1⟩:=S;let⟨e2,h2⟩:=S1;have a1:h1=h2:=e.heap;have a2:e1=e2:=funext λt=>e.env t λh=>h
  rw[a1,a2]
 grind
theorem zso (hgl:C.gl w0.w σ0) (hΓ:∀s∈Γ,s.OK P) {r:Nat}{So:St C}(hq:ops[r]?=E q) (hA:At n w0 σ0 κ So a w) (hX:EqX D So S) (hv:QV P ops S q) (hl:∀t∈looks ops q,¬ D t) (hn:∀d,q.dst=E d->W d n=G) 
    (hK:∀S1 a' w',At n w0 σ0 κ S1 a' w'->EqX (λt=>D t/\q.dst≠E t) S1 S->K a' w'):wpOp P ops Q r K a w:=by
  let⟨run,hg,hv⟩:=hv;have hg':Xb ops So q run:=hg.congr λt ht=>hX.env t (hl t (WQ ht))
  have hput:∀d A,q.dst=E d->S.env d=A->EqX (λt=>D t/\q.dst≠E t) (So.put d A) S:=λd A e eA=>⟨hX.heap,λt ht=>by
    show upd So.env d A t=S.env t;by_cases h:t=d
    ·subst h;rw[zq,eA]
    · rw[zr h]
      exact hX.env t λhd=>ht ⟨hd,λe'=>h (by grind)⟩⟩
  unfold wpOp;rw[hq];simp only[hg'.wanted hA];cases run with
  |true=>
    simp only[jp];left;let⟨hr,d,hd,he⟩:=hv;let⟨L,b,Z,PV,hAb,hi,hf⟩:=hA;have hev:evQ P So q.type q.op=E (S.env d):=by
      rw[<- he];exact zc3 (ops:=ops) (λt ht=>hX.env t (hl t ht)) λid _=>by rw[hX.heap]
    let⟨ν,vs,ids,hAb⟩:=hAb;have hok:=zxN (P:=P) (n:=n) (w0:=w0) (σ0:=σ0) (q:=⟨I⟩) (Γ:=Γ) (ps:=q.pos) (af:=q.after) (g:=q.guard) hAb (hn d hd) hr hev;have hqe:q=⟨E d,q.op,q.type,q.pos,q.after,q.guard⟩:=by
      cases q;grind
    rw[<- hqe] at hok;refine hok _ rfl a w hi hf K Q ?_ ?_
    ·intro S' e L' Z' PV' a' w' hi' hf' hA';cases e;exact hK _ _ _ ⟨L',b,Z',PV',hA',hi',hf'⟩ (hput d _ hd rfl)
    grind
  |false=>
    simp only[jj,jo];cases hd:q.dst with
    |none=>
      refine hK So _ _ hA ⟨hX.heap,λt ht=>hX.env t λh=>ht ⟨h,by rw[hd];simp⟩⟩
    |some d=>exact hK _ _ _ (hA.skip (hn d hd)) (hput d _ hd (hv d hd))
def WfL(ops:Array Oper):List Nat->Prop
 |[]=>True
 |i::cl=>(∀o,ops[i]?=E o->∀j∈zz o,j∈cl)/\WfL ops cl
def zfQ(ops:Array Oper)(al:List (Nat×Nat)):Prop:=∀i m,(i,m)∈al->∀o,ops[i]?=E o->∀X:Nat->Prop,(∀k q,ops[k]?=E q->X k->∀j∈zz q,X j)->(∀j,X j->j < ops.size)->X i->∀a,qs m a=G->X a
theorem zh2:∀{al:List (Nat×Nat)}{j a:Nat},qs (zdJ al j) a=G->∃m,(j,m)∈al/\qs m a=G
 |[],j,a,h=>by simp[zdJ] at h
 |(i,m)::r,j,a,h=>by
  unfold zdJ at h;cases e:M i j with
  |true=>rw[e] at h;have:=ge e;grind
  |false=>
   rw[e] at h;let⟨m',h1,h2⟩:=zh2 h;grind
theorem zkv{a:Nat}(h:qs (qI 1 j) a=G):a=j:=by
 have h:qs (1 <<< j) a=true:=h;rw[Nat.one_shiftLeft,Nat.testBit_two_pow] at h;grind
theorem zdK{al:List (Nat×Nat)}(hal:zfQ ops al)(X:Nat->Prop)(hX:∀k q,ops[k]?=E q->X k->∀j∈zz q,X j)(hin:∀j,X j->j < ops.size):∀{ds:List Nat},(∀j∈ds,X j)->∀a,qs (yV al ds) a=G->X a
 |[],_,a,h=>by simp[yV] at h
 |j::ds,hd,a,h=>by
  have h:qs (((qI 1 j) ||| (zdJ al j)) ||| (yV al ds)) a=true:=h;rw[qR,qR,UB,UB] at h;rcases h with(h | h) | h
  ·rw[zkv h];grind
  ·let⟨m,h1,h2⟩:=zh2 h;have hj:=hd j (by simp);obtain⟨o,ho⟩:∃o,ops[j]?=E o:=⟨ops[j]'(hin j hj),qO _⟩
   exact hal j m h1 o ho X hX hin hj a h2
  ·exact zdK hal X hX hin (λk hk=>hd k (Do _ hk)) a h
end
variable [Dfr]
abbrev onX(X:Array Bool)(k:Nat):Bool:=X.getD k I
theorem ze4{X:Array Bool}(h:i < X.size):onX (X.setIfInBounds i G) i=true:=by
 unfold onX;rw[Uw];simp[h]
theorem wV{X:Array Bool}(h:i≠k):onX (X.setIfInBounds i G) k=onX X k:=by
 unfold onX;rw[Uw,qY h,<- Uw]
theorem YZ{X:Array Bool}(h:onX X k=G):onX (X.setIfInBounds i G) k=true:=by
 by_cases e:i=k
 ·subst e;rcases Nat.lt_or_ge i X.size with z | z
  ·exact ze4 z
  grind
 ·rw[wV e];exact h
theorem YE{X:Array Bool}(h:onX (X.setIfInBounds i G) k=I):onX X k=false:=by
 cases e:onX X k with
 |false=>rfl
 |true=>rw[YZ e] at h;cases h
theorem zg5{X:Array Bool}(hi:i < X.size)(h:onX X i=I){fuel:Nat}(hc:X.toList.count I<=fuel+1):(X.setIfInBounds i G).toList.count I<=fuel:=by
 rw[Array.toList_setIfInBounds,List.count_set (by simpa using hi)];have h0:X.toList[i]'(by simpa using hi)=false:=by
  unfold onX at h;rw[Uw] at h;grind
 grind
theorem zmD{X:Array Bool}(hi:i < X.size)(h:onX X i=I):0 < X.toList.count false:=by
 rw[List.count_pos_iff];have h0:X.toList[i]'(by simpa using hi)=false:=by
  unfold onX at h;rw[Uw] at h;grind
 grind
section
variable {Fx:List Nat}{κ:Kp}{C:Cod}{S S':St C}{n:Nat}{w0:Start}{σ0:FS}{P:Program}{ρ:Type}{ops:Array Oper}{Γ:List (Spec C)}{qo:Opts}{cl taken:List Nat}{al:List (Nat×Nat)}{X:Array Bool}
structure Cfg(P:Program)(ops:Array Oper)(n:Nat)(cl taken:List Nat)(al:List (Nat×Nat))(S:St C)(X:Array Bool)(Fx:List Nat):Prop where
 size:X.size=ops.size
 sub:∀i,onX X i=G->i∈cl\/i∈Fx
 fon:∀i∈Fx,onX X i=G/\i ∉ cl
 wf:WfL ops cl
 tk:∀i∈cl,onX X i=I->i∈taken
 inc:∀i∈cl,i < ops.size
 tcl:∀i∈taken,i∈cl
 closed:∀k q,ops[k]?=E q->onX X k=G->∀j∈zz q,onX X j=G
 qv:∀r q,r∈taken->onX X r=I->ops[r]?=E q->QV P ops S q
 ds:∀r q d,r∈taken->onX X r=I->ops[r]?=E q->q.dst=E d->W d n=G/\d < vB/\d ∉ looks ops q/\∀j o,ops[j]?=E o->j≠r->(onX X j=I->d∈looks ops o->r∈zz o)/\o.dst≠E d
 anc:zfQ ops al
def znP(ops:Array Oper)(taken:List Nat)(X:Array Bool)(t:Nat):Prop:=∃r q,r∈taken/\onX X r=I/\ops[r]?=E q/\q.dst=E t
theorem Cfg.hit(h:Cfg P ops n cl taken al S X Fx)(hi:i∈cl)(hd:∀q,ops[i]?=E q->∀j∈zz q,onX X j=G):Cfg P ops n cl taken al S (X.setIfInBounds i G) Fx where
 size:=by simp[h.size]
 sub k hk:=by
  by_cases e:i=k
  ·grind
  ·rw[wV e] at hk;exact h.sub k hk
 fon k hk:=⟨YZ (h.fon k hk).1,(h.fon k hk).2⟩
 wf:=h.wf
 tk k hk ho:=h.tk k hk (YE ho)
 inc:=h.inc
 tcl:=h.tcl
 closed k q hq hk j hj:=by
  by_cases e:i=k
  ·subst e;exact YZ (hd q hq j hj)
  ·rw[wV e] at hk;exact YZ (h.closed k q hq hk j hj)
 qv r q hr ho hq:=h.qv r q hr (YE ho) hq
 ds r q d hr ho hq he:=by
  let⟨h1,h2,h3,h4⟩:=h.ds r q d hr (YE ho) hq he;exact⟨h1,h2,h3,λj o hj hne=>⟨λk=>(h4 j o hj hne).1 (YE k),(h4 j o hj hne).2⟩⟩
 anc:=h.anc
omit [Dfr] in
theorem zfQ.add(h:zfQ ops al){o:Oper}(ho:ops[i]?=E o):zfQ ops ((i,yV al (zz o))::al):=by
 intro j m hm q hq Y hY hin hj a ha;rcases UO.1 hm with e | e
 ·cases e;rw[ho] at hq;cases hq;exact zdK h Y hY hin (hY i o ho hj) a ha
 ·exact h j m e q hq Y hY hin hj a ha
theorem Cfg.sync(h:Cfg P ops n cl taken al S X Fx){o:Oper}(ho:ops[i]?=E o)(hi:i ∉ cl)(hiF:i ∉ Fx)(hd:∀j∈zz o,j∈cl)(hx:∀j∈zz o,onX X j=G)(hq:∀r q,r∈taken->onX X r=I->ops[r]?=E q->QV P ops S' q):Cfg P ops n (i::cl) taken ((i,yV al (zz o))::al) S' (X.setIfInBounds i G) Fx where
 size:=by simp[h.size]
 sub k hk:=by
  by_cases e:i=k
  ·subst e;simp
  ·rw[wV e] at hk;exact(h.sub k hk).imp_left (Do _)
 fon k hk:=⟨YZ (h.fon k hk).1,λhm=>by
  rcases UO.1 hm with e | e
  ·grind
  ·exact(h.fon k hk).2 e⟩
 wf:=⟨λo' ho' j hj=>by grind,h.wf⟩
 tk k hk hoff:=by
  rcases UO.1 hk with e | e
  ·subst e;rw[ze4 (by rw[h.size];grind)] at hoff;cases hoff
  ·exact h.tk k e (YE hoff)
 inc k hk:=by
  rcases UO.1 hk with e | e
  ·grind
  ·exact h.inc k e
 tcl k hk:=Do _ (h.tcl k hk)
 closed k q hq hk j hj:=by
  by_cases e:i=k
  ·subst e;rw[ho] at hq;cases hq;exact YZ (hx j hj)
  ·rw[wV e] at hk;exact YZ (h.closed k q hq hk j hj)
 qv r q hr hoff hq':=hq r q hr (YE hoff) hq'
 ds r q d hr hoff hq he:=by
  let⟨h1,h2,h3,h4⟩:=h.ds r q d hr (YE hoff) hq he;exact⟨h1,h2,h3,λj o hj hne=>⟨λk=>(h4 j o hj hne).1 (YE k),(h4 j o hj hne).2⟩⟩
 anc:=h.anc.add ho
omit [Dfr] in
theorem Cfg.early (h:Cfg P ops n cl taken al S X Fx) {o:Oper}(ho:ops[i]?=E o) (hi:i ∉ cl) (hiF:i ∉ Fx) (hd:∀j∈zz o,j∈cl) (he:Wr ops n cl taken i o=G) (hv:QV P ops S' o) (hS:∀t,o.dst≠E t->S'.env t=S.env t) (hh:S'.heap=S.heap) :
    Cfg P ops n (i::cl) (i::taken) ((i,yV al (zz o))::al) S' X Fx:=by
  have he2:∀d,o.dst=E d->W d n=G/\d < vB/\d ∉ looks ops o/\∀j q,ops[j]?=E q->j≠i->(j∈cl->j∈taken->d ∉ looks ops q)/\(j ∉ cl->d∈looks ops q->i∈zz q)/\q.dst≠E d:=λd e=>by
    unfold Wr at he;rw[e] at he;simp only[gf,Di] at he;let⟨h1,h2,h3,h4⟩:=he;refine⟨h1,by rwa [UN] at h2,λhm=>(by rw[zS.2 hm] at h3;cases h3),λj q hj hne=>?_⟩;have:=Dj.1 h4 j (Dt.2 (Uy.1 hj).1);rw[hj] at this;simp only[UB,gf] at this;rcases this with z | ⟨z1,z2⟩
    ·exact absurd (ge z) hne
    · refine⟨λhc ht hm=>?_,λhc hm=>?_,λe'=>?_⟩
      ·rw[zS.2 hc,Dk,zS.2 ht,zS.2 hm] at z1;cases z1
      · have:zB j cl=false:=by
          cases e:zB j cl with
          |false=>rfl
          |true=>exact absurd (zS.1 e) hc
        rw[this,Ux,zS.2 hm] at z1;exact zS.1 (by simpa using z1)
      ·rw[e'] at z2;simp at z2
  refine⟨h.size,λk hk=>(h.sub k hk).imp_left (Do _),λk hk=>⟨(h.fon k hk).1,λhm=>(by
    rcases UO.1 hm with e | e
    ·grind
    ·exact(h.fon k hk).2 e)⟩,⟨λo' ho' j hj=>by grind,h.wf⟩,λk hk hoff=>?_,λk hk=>?_,λk hk=>?_,h.closed,λr q hr hoff hq=>?_,λr q d hr hoff hq e=>?_,h.anc.add ho⟩
  · rcases UO.1 hk with e | e
    ·subst e;simp
    ·exact Do _ (h.tk k e hoff)
  · rcases UO.1 hk with e | e
    ·grind
    ·exact h.inc k e
  · rcases UO.1 hk with e | e
    ·subst e;simp
    ·exact Do _ (h.tcl k e)
  · rcases UO.1 hr with e | e
    ·grind
    · have hne:r≠i:=λe'=>hi (e' ▸ h.tcl r e)
      refine(h.qv r q e hoff hq).congr (λt ht=>?_) (λd ed=>?_) λid _=>by rw[hh]
      ·exact hS t λe'=>((he2 t e').2.2.2 r q hq hne).1 (h.tcl r e) e ht
      grind
  · rcases UO.1 hr with e' | e'
    · subst e';rw[ho] at hq;cases hq;let⟨h1,h2,h3,h4⟩:=he2 d e;refine⟨h1,h2,h3,λj o' hj hne=>⟨λhoff' hm=>?_,(h4 j o' hj hne).2.2⟩⟩;by_cases hc:j∈cl
      ·exact absurd hm ((h4 j o' hj hne).1 hc (h.tk j hc hoff'))
      grind
    ·exact h.ds r q d e' hoff hq e
theorem zsp:∀{cl:List Nat},WfL ops cl->(∀i∈cl,i < ops.size)->(∃i∈cl,onX X i=I)->∃i q,i∈cl/\onX X i=I/\ops[i]?=E q/\∀j∈zz q,onX X j=G
 |[],_,_,⟨i,h,_⟩=>by cases h
 |i::cl,⟨h1,h2⟩,hin,hex=>by
  by_cases hx:∃i∈cl,onX X i=I
  ·let⟨j,q,k1,k2,k3,k4⟩:=zsp h2 (λj hj=>hin j (Do _ hj)) hx;grind
  ·have hall:∀j∈cl,onX X j=true:=λj hj=>by
    grind
   let⟨j,hj,hoff⟩:=hex;rcases UO.1 hj with e | e
   ·subst e;have hlt:=hin j (by simp);exact⟨j,ops[j],by simp,hoff,qO hlt,λk hk=>hall k (h1 _ (qO hlt) k hk)⟩
   grind
theorem YN(hs:X.size=ops.size) :i∈qB .any ops X↔onX X i=I/\∃o,ops[i]?=E o/\∀j∈zz o,onX X j=true:=by
 rw[mem_ready];constructor
 ·rintro⟨h1,o,h2,h3⟩;have hlt:i < X.size:=by grind
  refine⟨by grind,o,h2,λj hj=>?_⟩;obtain⟨e,he,rfl⟩:=Dp.1 hj;grind
 ·rintro⟨h1,o,h2,h3⟩;have hlt:i < X.size:=by grind
  exact⟨by grind,o,h2,λe he hb=>h3 e.on (znN he hb)⟩
theorem zh3(hall:∀i∈taken,onX X i=G):∀t,¬ znP ops taken X t:=λt ⟨r,q,h1,h2,_⟩=>by grind
theorem EqX.weaken{D D':Nat->Prop}{So:St C}(h:EqX D So S)(hD:∀t,D t->D' t):EqX D' So S:=⟨h.heap,λt ht=>h.env t λhd=>ht (hD t hd)⟩
theorem AbsL.mask{L:List (Nat×Value)}{b:Nat->Value}{Z:FS}{PV:List Priv}{ν:Val}{vs:Nat->List Value}{ids:List Nat}{So:St C}(h:AbsL κ So ν vs ids L b Z PV)(e:EqX (λt=>t∈l) So S):AbsL κ (zc2 S l) ν vs ids L b Z PV:=by
 have hh:(zc2 S l).heap=So.heap:=e.heap.symm;have henv:∀t,(zc2 S l).env t = .und\/(zc2 S l).env t=So.env t:=λt=>by
  show(bif zB t l then AV.und else S.env t)=_\/(bif zB t l then AV.und else S.env t)=_;cases hm:zB t l with
  |true=>exact .inl rfl
  |false=>
   refine .inr (e.env t λhd=>?_).symm;rw[zS.2 hd] at hm;cases hm
 refine⟨⟨h.nd,λid=>by rw[hh];exact h.dom id,by rw[h.pv,hh],λid cs hc=>h.cell id cs (by grind),λt=>?_,h.one⟩,λt=>?_,λid cs hc=>?_,λk hk hs=>have q:=h.keep k hk (by grind);⟨q.1,q.2.1,λhf=>q.2.2 (by grind)⟩⟩
 ·rcases henv t with z | z
  ·rw[z];trivial
  ·rw[z];exact h.env t
 ·rcases henv t with z | z
  ·rw[z];trivial
  ·rw[z,hh];exact h.live t
 ·rw[hh] at hc |-;exact h.livec id cs hc
theorem zmE{d:Nat}{A:AV C.D}(h:S.env d=A):S.put d A=S:=by
 unfold St.put;have:upd S.env d A=S.env:=by
  funext t;by_cases e:t=d
  ·subst e;rw[zq,h]
  ·rw[zr e]
 rw[this]
theorem z7.inv {D:Nat->Prop}{x:Us (Out C)}{out:Out C}(h:z7 D x (E out)):∃out',x=E out'/\match out',out with
    | .go S,.go T=>EqX D S T
    | .pan u S,.pan v T=>u=v/\EqX D S T
    |_,_=>False:=by
  match x,out,h with
  |some (.go S),.go T,h=>exact⟨_,rfl,h⟩
  |some (.pan u S),.pan v T,h=>exact⟨_,rfl,h⟩
  |some (.go S),.pan v T,h=>exact h.elim
  |some (.pan u S),.go T,h=>exact h.elim
theorem Y0 {early:Bool}{next:List Nat->List Nat->List (Nat×Nat)->St C->Us ρ}{K:XE C->St C->Us ρ}{r:ρ}{stp:yL C}{tc:Oper->St C->Us Tch}(h:xu stp tc P n ops okB i early cl taken al S K next=E r) :
    ∃o run,ops[i]?=E o/\i ∉ cl/\(∀j∈zz o,j∈cl)/\(∀t∈X2 ops o,∃j,j∈zz o/\(ops[j]?).bind (·.dst)=E t)/\Xb ops S o run/\yD stp tc P n ops okB cl taken (yV al (zz o)) K i early o run S (λS tk=>next (i::cl) tk ((i,yV al (zz o))::al) S)=E r:=by
  unfold xu at h;split at h
  ·cases h
  · rename_i o ho;let⟨hc,h⟩:=zc h;simp only[gf,Di] at hc;have h1:i ∉ cl:=λhm=>by rw[zS.2 hm] at hc;cases hc.1
    have h2:∀j∈zz o,j∈cl:=λj hj=>zS.1 (Dj.1 hc.2 j hj)
    split at h
    ·rename_i hg;exact⟨o,G,ho,h1,h2,λt ht=>(by unfold X2 at ht;grind),(by unfold Xb;rw[hg]),h⟩
    · rename_i j want hg;let⟨hj,h⟩:=zc h;have hj:=zS.1 hj;split at h
      ·cases h
      · rename_i dg hdg;have hgt:∀t∈X2 ops o,∃j,j∈zz o/\(ops[j]?).bind (·.dst)=E t:=λt ht=>by
          unfold X2 at ht;rw[hg] at ht;grind
        have hgr:∀{run:Bool},((∃b,S.env dg = .bool b/\run=(b == want))\/(S.env dg = .tup []/\run=I))->Xb ops S o run:=λ{run} k=>by
          unfold Xb;grind
        split at h
        · rename_i q e;cases q with
          |true=>
            rw[ju rfl,zmE e] at h;exact⟨o,want,ho,h1,h2,hgt,hgr (.inl ⟨G,e,by simp⟩),h⟩
          |false=>
            rw[jv (by simp),zmE e] at h;grind
        all_goals grind
theorem zc5{early:Bool}{K:XE C->St C->Us ρ}{stp:yL C}{tc:Oper->St C->Us Tch}(hi:W i 4096=G)(hr:XX ops cl i=G):ZN stp tc P n ops ((i,early)::ord) cl taken al S K=xu stp tc P n ops (znO ops (Ws C P ops n) cl i) i early cl taken al S K λcl tk al S=>ZN stp tc P n ops ord cl tk al S K:=by
 show(bif W i 4096 then(bif XX ops cl i then _ else _) else _)=_;rw[hi,hr,Dk,Dk]
theorem zcx{early:Bool}{K:XE C->St C->Us ρ}{stp:yL C}{tc:Oper->St C->Us Tch}(hi:W i 4096=G)(hr:XX ops cl i=I):ZN stp tc P n ops ((i,early)::ord) cl taken al S K=ZN stp tc P n ops ord cl taken al S K:=by
 show(bif W i 4096 then(bif XX ops cl i then _ else _) else _)=_;rw[hi,hr,Dk,Ux]
theorem zc6 {early:Bool}{K:XE C->St C->Us ρ}{stp:yL C}{tc:Oper->St C->Us Tch}(hi:W i 4096=I):ZN stp tc P n ops ((i,early)::ord) cl taken al S K=(bif XX ops cl ((i - 4096) / 64) && XX ops cl ((i - 4096) % 64) then chk (zq1 ops (Ws C P ops n) cl ((i - 4096) / 64) ((i - 4096) % 64)) (yK
      (xu stp tc P n ops G ((i - 4096) / 64) I cl taken al S K λcl tk al S=>ZN stp tc P n ops ord cl tk al S K)
      (xu stp tc P n ops G ((i - 4096) % 64) I cl taken al S K λcl tk al S=>ZN stp tc P n ops ord cl tk al S K))
    else ZN stp tc P n ops ord cl taken al S K):=by
  show(bif W i 4096 then(bif XX ops cl i then _ else _) else _)=_;rw[hi,Ux]
theorem znQ {o:Oper}{K:XE C->St C->Us ρ}{r:ρ}{stp:yL C}{tc:Oper->St C->Us Tch}{next:St C->List Nat->Us ρ}(hg:Xb ops S o run) (hgl:∀t∈X2 ops o,o.dst≠E t)
    {okB:Bool} (h:yD stp tc P n ops okB cl taken m K i G o run S next=E r):Wr ops n cl taken i o=G/\∃S',next S' (i::taken)=E r/\QV P ops S' o/\(∀t,o.dst≠E t->S'.env t=S.env t)/\S'.heap=S.heap:=by
  unfold yD at h;rw[Dk] at h;let⟨he,h⟩:=zc h;refine⟨he,?_⟩;have hlook:∀d,o.dst=E d->d ∉ looks ops o:=λd e hm=>by
    unfold Wr at he;rw[e] at he;simp only[gf,Di] at he;rw[zS.2 hm] at he;cases he.2.2.1
  have hput:∀d A t,o.dst=E d->o.dst≠E t->(S.put d A).env t=S.env t:=λd A t e k=>zr λe'=>k (by rw[e,e'])
  cases run with
  |true=>
    rw[Dk] at h;split at h
    · rename_i d hd;let⟨hr,h⟩:=zc h;rw[zws] at h;let⟨A,hA,h⟩:=gc h;refine⟨_,h,⟨G,hg.congr λt ht=>hput d A t hd (hgl t ht),hr,d,hd,?_⟩,λt k=>hput d A t hd k,rfl⟩;rw[zc3 (ops:=ops) (S:=S) (λt ht=>hput d A t hd λe=>?_) λid _=>rfl,hA]
      ·show E A=E (upd S.env d A d);rw[zq]
      grind
    ·cases h
  |false=>
    rw[Ux] at h;split at h
    ·rename_i d hd;refine⟨_,h,⟨I,hg.congr λt ht=>hput d _ t hd (hgl t ht),λd' e=>?_⟩,λt k=>hput d _ t hd k,rfl⟩;rw[hd] at e;cases e;exact zq
    ·rename_i hd;exact⟨_,h,⟨I,hg,λd' e=>by grind⟩,λt _=>rfl,rfl⟩
theorem Sep.perm{Z:FS}{A B:List Priv}(p:A.Perm B):∀{h:zd},Sep Z A h->Sep Z B h:=by
 induction p with
 |nil=>grind
 |cons x _ ih=>
  intro h k;let⟨h1,h2,k1,k2,l1,l2,d⟩:=k.uncons;exact .cons k1 (ih k2) l1 l2 d
 |swap x y l=>
  intro h k;let⟨h1,h2,k1,k2,l1,l2,d⟩:=k.uncons;let⟨g1,g2,m1,m2,n1,n2,e⟩:=k2.uncons;have d1:h1.disj g2:=d.mono (.refl _) n2;exact .cons (h2:=h1.or g2) m1 (.cons k1 m2 (zd.le_or _ _) (zd.le_or_right d1) d1) (n1.trans l2) (zd.or_le l1 (n2.trans l2)) ((zd.or_disj (d.mono (.refl _) n1) e.symm).symm)
 |trans _ _ i1 i2=>grind
omit [Dfr] in
structure Home(C:Cod)(w0:Start)(σ0:FS)(st:Start)(σs:FS)(FR:List Priv):Prop where
 home:∀{Z PV w},Inv st σs Z PV w->Inv w0 σ0 Z (PV++FR) w
 gl:C.gl st.w σs
theorem Home.make(hgl:C.gl w0.w σ0){A B:List Priv}{Z:FS}(hi:Inv w0 σ0 Z (A++B) w):∃st,Home C w0 σ0 st Z B/\Inv st Z Z A w:=by
 let⟨gg,hs,hg⟩:=hi.own;let⟨f1,f2,s1,s2,l1,l2,dd⟩:=hs.split;exact⟨⟨w,f1⟩,⟨λ{τ PV w'} k=>hi.call hg s2 l1 l2 dd k,C.glm hi.le hi.ext hgl⟩,.start hi.sub s1 (hg.sub.mono l1) (hg.mono l1).apart⟩
structure Fl where
 i:Nat
 d:Nat
 ad:Addr
 zs:List Value
def frF(F:List Fl):List Priv:=F.map λf =>.cell f.ad f.zs
def zxW(C:Cod)(P:Program)(ops:Array Oper)(n i d:Nat)(zs:List Value):Prop:=
 ∃o t ti zv,ops[i]?=E o/\o.dst=E d/\o.op = .alloc t/\o.guard=O/\P.info? t=E ti/\ti.zero=E zv/\zv.cells.toList=zs/\C.oal t zs=O/\W d n=G/\d < vB/\∀j q,ops[j]?=E q->j≠i->(d∈looks ops q->i∈zz q)/\q.dst≠E d
theorem zxX(h:i∈Ws C P ops n):∃d zs,zxW C P ops n i d zs:=by
 have h:=(Ds.1 h).2;unfold flB at h;split at h
 ·cases h
 ·rename_i o ho;split at h
  ·rename_i d t e1 e2 e3;split at h
   ·rename_i ti hti;split at h
    ·rename_i zv hz;split at h
     ·rename_i hoal;simp only[gf] at h;let⟨h1,h2,h3⟩:=h;refine⟨d,_,o,t,ti,zv,ho,e1,e2,e3,hti,hz,rfl,hoal,h1,by rwa [UN] at h2,λj q hq hne=>?_⟩;have:=Dj.1 h3 j (Dt.2 (Uy.1 hq).1);rw[hq] at this;simp only[UB,gf,Di] at this;rcases this with z | ⟨z1,z2⟩
      ·exact absurd (ge z) hne
      ·refine⟨λhm=>?_,λe=>?_⟩
       ·rcases z1 with z | z
        ·rw[zS.2 hm] at z;cases z
        ·exact zS.1 z
       ·rw[e] at z2;simp at z2
     ·cases h
    ·cases h
   ·cases h
  ·cases h
structure FOK(C:Cod)(P:Program)(ops:Array Oper)(n:Nat)(a:Act)(F:List Fl):Prop where
 op:∀f∈F,zxW C P ops n f.i f.d f.zs
 fl:∀f∈F,f.i∈Ws C P ops n
 val:∀f∈F,a.tmps.getD f.d undef = .pointer (E f.ad)
 nd:(F.map Fl.i).Nodup
def flD(ops:Array Oper)(taken:List Nat)(X:Array Bool)(F:List Fl)(t:Nat):Prop:=znP ops taken X t\/∃f∈F,f.d=t
structure Rl(P:Program)(ops:Array Oper)(n:Nat)(w0:Start)(σ0:FS)(κ:Kp)(taken:List Nat)(X:Array Bool)(F:List Fl)(So S:St C)(a:Act)(w:World):Prop where
 at_:∃st σs,Home C w0 σ0 st σs (frF F)/\At n st σs κ So a w
 eqx:EqX (flD ops taken X F) So S
 fok:FOK C P ops n a F
def zdL(ops:Array Oper)(j:Nat)(a a':Act):Prop:=∀t,(∀o,ops[j]?=E o->o.dst≠E t)->a'.tmps.getD t undef=a.tmps.getD t undef
theorem Vk{v:Value}{t:Nat}(h:dst≠E t):(a.put dst v).tmps.getD t undef=a.tmps.getD t undef:=by
 cases dst with
 |none=>rfl
 |some d=>
  show(a.tmps.setIfInBounds d v).getD t undef=_;rw[Uw,qY (λe=>h (by rw[e])),<- Uw]
theorem zmF{o:Oper}(h:o.wp P a w K Q):o.wp P a w (λa' w'=>K a' w'/\∀t,o.dst≠E t->a'.tmps.getD t undef=a.tmps.getD t undef) Q:=by
 unfold Oper.wp at *
 generalize (execOp a.eval o).run P w=r at *
 cases r with
 |ok n w'=>
  cases n<;>simp only[Oper.upon] at h |-<;>
   first
    |exact⟨h,λt ht=>Vk ht⟩
    |exact Calls.mono h (λe w'' he=>by cases e<;>first | exact⟨he,λt ht=>Vk ht⟩ | exact he)
    |exact Rows.mono h (λ_ _ he=>⟨he,λt ht=>Vk ht⟩)
    |exact h
 |halt x w'=>cases x<;>simp only[Oper.upon] at h |-<;>exact h
theorem zh4(h:wpOp P ops Q j K a w):wpOp P ops Q j (λa' w'=>K a' w'/\zdL ops j a a') a w:=by
 unfold wpOp zdL at *
 cases ho:ops[j]? with
 |none=>grind
 |some o=>
  rw[ho] at h;simp only at h |-
  split
  ·rename_i hw;rw[ju hw] at h;refine h.imp (λh=>Oper.wp_mono (λa' w' hk=>⟨hk.1,λt ht=>hk.2 t (ht o rfl)⟩) (zmF h)) id
  ·rename_i hw;rw[jv hw] at h;exact⟨h,λt ht=>Vk (ht o rfl)⟩
omit [Dfr] in
theorem FOK.next{a':Act}{F:List Fl}(h:FOK C P ops n a F)(ht:zdL ops j a a')(hj:∀f∈F,f.i≠j):FOK C P ops n a' F:=
 ⟨h.op,h.fl,λf hf=>by
  let⟨o,t,ti,zv,_,_,_,_,_,_,_,_,_,_,p⟩:=h.op f hf
  rw[ht f.d λq hq=>(p j q hq (hj f hf).symm).2];exact h.val f hf,h.nd⟩
theorem WfL.deps(hq:ops[j]?=E q)(hk:k∈zz q):∀{cl:List Nat},WfL ops cl->j∈cl->k∈cl:=by
 intro cl
 induction cl with
 |nil=>grind
 |cons i cl ih=>
  intro h hj;let⟨h1,h2⟩:=(show(∀o,ops[i]?=E o->∀j∈zz o,j∈cl)/\WfL ops cl from h);rcases UO.1 hj with e | e
  all_goals grind
omit [Dfr] in
theorem Cfg.flt(h:Cfg P ops n cl taken al S X Fx){o:Oper}(ho:ops[i]?=E o)(hi:i ∉ cl)(hx:∀j∈zz o,onX X j=G):Cfg P ops n cl taken al S (X.setIfInBounds i G) (i::Fx) where
 size:=by simp[h.size]
 sub k hk:=by
  by_cases e:i=k
  ·grind
  ·rw[wV e] at hk;exact(h.sub k hk).imp_right (Do _)
 fon k hk:=by
  rcases UO.1 hk with e | e
  ·subst e;exact⟨ze4 (by rw[h.size];grind),hi⟩
  ·exact⟨YZ (h.fon k e).1,(h.fon k e).2⟩
 wf:=h.wf
 tk k hk hoff:=h.tk k hk (YE hoff)
 inc:=h.inc
 tcl:=h.tcl
 closed k q hq hk j hj:=by
  by_cases e:i=k
  ·subst e;rw[ho] at hq;cases hq;exact YZ (hx j hj)
  ·rw[wV e] at hk;exact YZ (h.closed k q hq hk j hj)
 qv r q hr ho hq:=h.qv r q hr (YE ho) hq
 ds r q d hr ho hq he:=by
  let⟨h1,h2,h3,h4⟩:=h.ds r q d hr (YE ho) hq he;exact⟨h1,h2,h3,λj o hj hne=>⟨λk=>(h4 j o hj hne).1 (YE k),(h4 j o hj hne).2⟩⟩
 anc:=h.anc
theorem Cfg.absorb(h:Cfg P ops n cl taken al S X Fx){Fy:List Nat}{o:Oper}(ho:ops[i]?=E o)(hi:i∈Fx)(hd:∀j∈zz o,j∈cl)(hF:∀k,k∈Fy↔k∈Fx/\k≠i)(hq:∀r q,r∈taken->onX X r=I->ops[r]?=E q->QV P ops S' q):Cfg P ops n (i::cl) taken ((i,yV al (zz o))::al) S' X Fy where
 size:=h.size
 sub k hk:=by
  rcases h.sub k hk with z | z
  ·grind
  grind
 fon k hk:=by
  let⟨h1,h2⟩:=(hF k).1 hk;refine⟨(h.fon k h1).1,λhm=>?_⟩;rcases UO.1 hm with e | e
  ·exact h2 e
  ·exact(h.fon k h1).2 e
 wf:=⟨λo' ho' j hj=>by grind,h.wf⟩
 tk k hk hoff:=by
  rcases UO.1 hk with e | e
  ·subst e;rw[(h.fon k hi).1] at hoff;cases hoff
  ·exact h.tk k e hoff
 inc k hk:=by
  rcases UO.1 hk with e | e
  ·grind
  ·exact h.inc k e
 tcl k hk:=Do _ (h.tcl k hk)
 closed:=h.closed
 qv:=hq
 ds:=h.ds
 anc:=h.anc.add ho
theorem zmb{d:Nat}{t:TypeId}:Y4 P S (E d) (.alloc t)=none:=by unfold Y4;rfl
theorem znR{d:Nat}{t ty:TypeId}:wo qo Γ P d ty S (.alloc t)=x5 P S d t:=by unfold wo;rfl
theorem znS{d:Nat}{t ty:TypeId}{ps:String}{af:Array Edge}{g:Us (Nat×Bool)}:stp qo Γ P n ⟨E d,.alloc t,ty,ps,af,g⟩ S=chk (W d n) (x5 P S d t):=by
 unfold stp;simp only[zmb];unfold Vg;simp only[znR]
theorem zq2 {o:Oper}{d:Nat}{t:TypeId}{zv:Value}{zs:List Value}{out:Out C}(p2:o.dst=E d) (p3:o.op = .alloc t) (p5:P.info? t=E ti) (p6:ti.zero=E zv) (p7:zv.cells.toList=zs) (p8:C.oal t zs=O) (hs:stp qo Γ P n o S=E out) :
    S.heap (nid d 0)=O/\out = .go {env:=upd S.env d (.pc (nid d 0) 0),heap:=upd S.heap (nid d 0) (E (.cell (zs.map yh)))}:=by
  let⟨dst,op,ty,ps,af,g⟩:=o;simp only at p2 p3;subst p2 p3 p7;rw[znS] at hs;let⟨_,hs⟩:=zc hs;unfold x5 at hs;rw[p5] at hs;simp only[p6,p8] at hs;let⟨h0,hs⟩:=zc hs;cases hs;exact⟨Zm h0,rfl⟩
theorem absorb (hgl:C.gl w0.w σ0) {next:List Nat->List Nat->List (Nat×Nat)->St C->Us ρ}{K:XE C->St C->Us ρ}{r:ρ}(hdr:xu (YY qo Γ P n) (tch Γ P) P n ops okB i I cl taken al S K next=E r) {F:List Fl}(hi:i∈F.map Fl.i) {So:St C}
    (hc:Cfg P ops n cl taken al S X (F.map Fl.i)) (hR:Rl P ops n w0 σ0 κ taken X F So S a w):∃S' So' F' al',next (i::cl) taken al' S'=E r/\Cfg P ops n (i::cl) taken al' S' X (F'.map Fl.i)/\Rl P ops n w0 σ0 κ taken X F' So' S' a w:=by
  let⟨o,run,ho,hicl,hd,hgt,hg,h⟩:=Y0 hdr;obtain⟨f,hf,rfl⟩:=Dp.1 hi;obtain⟨F1,F2,rfl⟩:=List.append_of_mem hf;let⟨o',t,ti,zv,p1,p2,p3,p4,p5,p6,p7,p8,p9,p10,p11⟩:=hR.fok.op f hf;rw[ho] at p1;cases p1;have hrun:run=true:=by unfold Xb at hg;grind
  subst hrun;unfold yD at h;rw[Ux] at h;let⟨_,h⟩:=zc h;rw[Dk] at h;have hdeps:∀k∈zz o,onX X k=true:=hc.closed f.i o ho (hc.fon f.i hi).1
  have hanc:∀r',onX X r'=I->qs (yV al (zz o)) r'=false:=λr' hr'=>by
    cases e:qs (yV al (zz o)) r' with
    |false=>rfl
    |true=>
      have this:onX X r'=true:=zdK hc.anc (λk=>onX X k=G) (λk q hk hon=>hc.closed k q hk hon) (λk hk=>by rw[<- hc.size];grind) hdeps r' e;grind
  split at h
  ·cases h
  · rename_i l p htc;let⟨hall,h⟩:=zc h;rw[vN] at h;let⟨out,hs,h⟩:=gc h;obtain⟨h0,rfl⟩:=zq2 p2 p3 p5 p6 p7 p8 hs;have hkeep:=zq0 hs htc;have hnd:=hR.fok.nd;rw[Dv,U3] at hnd;let⟨hnd1,hnd2⟩:=qT.1 ((List.Perm.nodup_iff qK).1 hnd);refine⟨_,{env:=upd So.env f.d (.pc (nid f.d 0) 0),heap:=upd So.heap (nid f.d 0) (E (.cell (f.zs.map yh)))},F1++F2,_,h,hc.absorb ho hi hd (λk=>?_) (λr' q' h1 h2 h3=>?_),?_,?_,?_⟩
    · simp only[Dv,U3,Uu,UO] at hnd1 |-
      constructor
      ·grind
      grind
    ·have:=Dj.1 hall r' h1;rw[hanc r' h2,Dx] at this;exact(hc.qv r' q' h1 h2 h3).keep hkeep h3 this
    · let⟨st,σs,hh,L,b,Z,PV,⟨ν,vs,ids,hA⟩,hinv,hfi⟩:=hR.at_
      have hi2:Inv w0 σ0 Z ((.cell f.ad f.zs::PV)++frF (F1++F2)) w:=(hh.home hinv).sub_own λg k=>Sep.perm (by
        simp only[frF,Dv,U3,List.cons_append];rw[<- UP,<- UP]
        exact qK) k
      let⟨st',hh',hinv'⟩:=Home.make hgl hi2;refine⟨st',Z,hh',L,b,Z,_,?_,hinv',hfi⟩;have hv:look L b f.d = .pointer (E (f.ad.add 0)):=by rw[<- hfi.get,hR.fok.val f hf];simp[Addr.add]
      refine zA.unput (hA.new (d:=f.d) (by rw[hR.eqx.heap];exact h0) (YJ κ f.d 0) (e :=.cell _) (v :=.slice O 0 0) (a:=⟨f.ad,λ_ =>.slice O 0 0⟩) (us:=f.zs) (A :=.pc (nid f.d 0) 0) (u :=.pointer (E (f.ad.add 0))) (λν' h1 h2=>⟨?_,by show nid f.d 0=nid f.d 0;rfl⟩) rfl rfl (λcs hcs=>?_) (by simp[Ent.at,Addr.add])) hv
      ·show Value.pointer (E f.ad) = .pointer (E ((ν'.adr _).a.add 0));rw[h2];simp[Addr.add]
      ·cases hcs;exact⟨wy _,YK _⟩
    · refine⟨?_,λt' ht'=>?_⟩
      ·show upd So.heap _ _=upd S.heap _ _;rw[hR.eqx.heap]
      · show upd So.env _ _ t'=upd S.env _ _ t';by_cases e:t'=f.d
        ·subst e;rw[zq,zq]
        · rw[zr e,zr e];refine hR.eqx.env t' λhD=>ht' ?_
          rcases hD with z | ⟨g,hg1,hg2⟩
          ·exact .inl z
          · refine .inr ⟨g,?_,hg2⟩;rcases Uu.1 hg1 with z | z
            ·grind
            · rcases UO.1 z with z | z
              all_goals grind
    · have hsub:∀g,g∈F1++F2->g∈F1++f::F2:=λg hg=>by
        rcases Uu.1 hg with z | z
        all_goals grind
      exact⟨λg hg=>hR.fok.op g (hsub g hg),λg hg=>hR.fok.fl g (hsub g hg),λg hg=>hR.fok.val g (hsub g hg),by grind⟩
theorem zeH{next:List Nat->List Nat->List (Nat×Nat)->St C->Us ρ}{K:XE C->St C->Us ρ}{r:ρ}(hdr:xu (YY qo Γ P n) (tch Γ P) P n ops okB i G cl taken al S K next=E r){F:List Fl}(hi:i∈F.map Fl.i)(hF:FOK C P ops n a F):False:=by
 let⟨o,run,ho,hicl,hd,hgt,hg,h⟩:=Y0 hdr;obtain⟨f,hf,rfl⟩:=Dp.1 hi;let⟨o',t,ti,zv,p1,p2,p3,p4,_⟩:=hF.op f hf;rw[ho] at p1;cases p1;have hrun:run=true:=by unfold Xb at hg;grind
 subst hrun;unfold yD at h;rw[Dk] at h;let⟨_,h⟩:=zc h;rw[Dk,p2] at h;let⟨h,_⟩:=zc h;rw[p3] at h;cases h
theorem Rl.done{F:List Fl}{So:St C}(hR:Rl P ops n w0 σ0 κ taken X F So S a w)(hF:F=[])(hp:∀t,¬ znP ops taken X t):At n w0 σ0 κ S a w:=by
 subst hF;let⟨st,σs,hh,L,b,Z,PV,hA,hinv,hfi⟩:=hR.at_;have:At n w0 σ0 κ So a w:=⟨L,b,Z,PV,hA,by have:=hh.home hinv;simpa[frF] using this,hfi⟩
 exact this.eqx (hR.eqx.weaken λt ht=>by
  rcases ht with z | ⟨f,hf,_⟩
  all_goals grind)
theorem zsq(h:k≠i):(!M k i)=true:=by
 cases e:M k i with
 |true=>exact absurd (ge e) h
 |false=>rfl
theorem zwC (hgl:C.gl w0.w σ0) (hΓ:∀s∈Γ,s.OK P):∀(fuel:Nat) (ord:List (Nat×Bool)) {cl taken:List Nat}{al:List (Nat×Nat)}{S:St C}{K:XE C->St C->Us ρ}{r:ρ},ZN (YY qo Γ P n) (tch Γ P) P n ops ord cl taken al S K=E r->
    ∀{X:Array Bool} {a:Act} {w:World} {So:St C} {F:List Fl},Cfg P ops n cl taken al S X (F.map Fl.i)->X.toList.count I<=fuel->Rl P ops n w0 σ0 κ taken X F So S a w->wpAny P .any ops (Zi n w0 σ0 κ K r) fuel X a w:=by
  intro fuel;have noF:∀{cl:List Nat} {F:List Fl} {taken al} {S:St C} {X:Array Bool} {a:Act},Cfg P ops n cl taken al S X (F.map Fl.i)->FOK C P ops n a F->(∀i,i < ops.size->i∈cl)->F=[]:=by
    intro cl F taken al S X a hc hF hall;cases F with
    |nil=>rfl
    |cons f F=>
      let⟨o,_,_,_,p1,_⟩:=hF.op f (by simp);exact absurd (hall f.i (Uy.1 p1).1) (hc.fon f.i (by simp)).2
  induction fuel with
  |zero=>
    intro ord
    induction ord with
    |nil=>
      intro cl taken al S K r h X a w So F hc hn hR;let⟨hall,h⟩:=zc h;have hcl:∀i,i < ops.size->i∈cl:=λi hi=>zS.1 (Dj.1 hall i (Dt.2 hi))
      have hon:∀i,i < ops.size->onX X i=true:=λi hi=>by
        cases e:onX X i with
        |true=>rfl
        |false=>have:=zmD (by rw[hc.size];exact hi) e;omega
      refine⟨?_,S,h,hR.done (noF hc hR.fok hcl) λt ht=>zh3 (λi hi=>hon i (hc.inc i (hc.tcl i hi))) t ht⟩;refine List.eq_nil_iff_forall_not_mem.2 λi hi=>?_
      let⟨h1,o,h2,_⟩:=(YN hc.size).1 hi;grind
    |cons io ord ih=>
      intro cl taken al S K r h X a w So F hc hn hR;let⟨i,early⟩:=io;have zero:∀{okB:Bool} {i:Nat} {early:Bool} {next},xu (YY qo Γ P n) (tch Γ P) P n ops okB i early cl taken al S K next=E r->i∈F.map Fl.i:=by
        intro okB i early next h
        let⟨o,run,ho,hi,hd,hgt,hg,h⟩:=Y0 h;by_cases hm:i∈F.map Fl.i
        ·exact hm
        exfalso;have hoff:onX X i=false:=by
          cases e:onX X i with
          |false=>rfl
          |true=>exact((hc.sub i e).elim hi hm).elim
        have:=zmD (by rw[hc.size];grind) hoff;omega
      cases hb:W i 4096 with
      |true=>
        cases hrd:XX ops cl i with
        |true=>
          rw[zc5 hb hrd] at h;cases early with
          |true=>exact(zeH h (zero h) hR.fok).elim
          |false=>
            let⟨S',So',F',al',h',hc',hR'⟩:=absorb hgl h (zero h) hc hR;grind
        |false=>rw[zcx hb hrd] at h;grind
      |false=>
        rw[zc6 hb] at h;cases hrd:XX ops cl ((i - 4096) / 64) && XX ops cl ((i - 4096) % 64) with
        |true=>
          rw[hrd,Dk] at h;have h:=(zaG (zc h).2).1;let⟨S',So',F',al',h',hc',hR'⟩:=absorb hgl h (zero h) hc hR;grind
        |false=>rw[hrd,Ux] at h;grind
  |succ fuel ihf=>
    intro ord;have setX:∀{taken:List Nat} {X:Array Bool} {F:List Fl} {j:Nat} {t:Nat},j ∉ taken->flD ops taken X F t->flD ops taken (X.setIfInBounds j G) F t:=by
      intro taken X F j t hj ht;rcases ht with⟨r',q',h1,h2,h3,h4⟩ | z
      ·refine .inl ⟨r',q',h1,?_,h3,h4⟩;rw[wV (by grind)];exact h2
      ·exact .inr z
    have quiet:∀(ord:List (Nat×Bool)) {cl taken:List Nat} {al:List (Nat×Nat)} {S:St C} {K:XE C->St C->Us ρ} {r:ρ},ZN (YY qo Γ P n) (tch Γ P) P n ops ord cl taken al S K=E r->
        ∀{X:Array Bool} {a:Act} {w:World} {So:St C} {F:List Fl},Cfg P ops n cl taken al S X (F.map Fl.i)->X.toList.count I<=fuel+1->Rl P ops n w0 σ0 κ taken X F So S a w->∀{j:Nat},j∈qB .any ops X->j∈cl->
          wpOp P ops (Zi n w0 σ0 κ K r) j (wpAny P .any ops (Zi n w0 σ0 κ K r) fuel (X.setIfInBounds j G)) a w:=by
      intro ord cl taken al S K r h X a w So F hc hn hR j hj hjc;let⟨hoff,q,hq,hdeps⟩:=(YN hc.size).1 hj;have hjt:=hc.tk j hjc hoff;have hlt:j < X.size:=by rw[hc.size];grind
      let⟨st,σs,hh,hA⟩:=hR.at_;have hjF:∀f∈F,f.i≠j:=λf hf e=>(hc.fon f.i (Dp.2 ⟨f,hf,rfl⟩)).2 (e ▸ hjc)
      have base:=zso (w0:=st) (σ0:=σs) (Q:=Zi n w0 σ0 κ K r) (K:=λa' w'=>∃S1,At n st σs κ S1 a' w'/\EqX (λt=>flD ops taken X F t/\q.dst≠E t) S1 S) hh.gl hΓ hq hA hR.eqx (hc.qv j q hjt hoff hq) (λt ht hp=>?_) (λd e=>(hc.ds j q d hjt hoff hq e).1) λS1 a' w' hA' hX'=>⟨S1,hA',hX'⟩
      · refine wpOp_mono ?_ (zh4 base);rintro a' w' ⟨⟨S1,hA',hX'⟩,ht⟩;refine ihf ord h (hc.hit hjc λq' hq' k hk=>?_) (zg5 hlt hoff hn) ⟨⟨st,σs,hh,hA'⟩,hX'.weaken λt ht=>?_,hR.fok.next ht hjF⟩
        ·grind
        · let⟨ht,hne⟩:=ht;rcases ht with⟨r',q',h1,h2,h3,h4⟩ | z
          · refine .inl ⟨r',q',h1,?_,h3,h4⟩;rw[wV]
            all_goals grind
          ·exact .inr z
      · rcases hp with⟨r',q',h1,h2,h3,h4⟩ | ⟨f,hf,rfl⟩
        · let⟨_,_,k3,k4⟩:=hc.ds r' q' t h1 h2 h3 h4;by_cases e:j=r'
          ·grind
          grind
        ·let⟨o,_,_,_,_,_,_,_,_,_,_,_,_,_,p⟩:=hR.fok.op f hf;exact(hc.fon f.i (Dp.2 ⟨f,hf,rfl⟩)).2 (WfL.deps hq ((p j q hq (hjF f hf).symm).1 ht) hc.wf hjc)
    have float:∀(ord:List (Nat×Bool)) {cl taken:List Nat} {al:List (Nat×Nat)} {S:St C} {K:XE C->St C->Us ρ} {r:ρ},ZN (YY qo Γ P n) (tch Γ P) P n ops ord cl taken al S K=E r->
        ∀{X:Array Bool} {a:Act} {w:World} {So:St C} {F:List Fl},Cfg P ops n cl taken al S X (F.map Fl.i)->X.toList.count I<=fuel+1->Rl P ops n w0 σ0 κ taken X F So S a w->∀{j:Nat},j∈qB .any ops X->j ∉ cl->j∈Ws C P ops n->
          wpOp P ops (Zi n w0 σ0 κ K r) j (wpAny P .any ops (Zi n w0 σ0 κ K r) fuel (X.setIfInBounds j G)) a w:=by
      intro ord cl taken al S K r h X a w So F hc hn hR j hj hjc hjf;let⟨hoff,q,hq,hdeps⟩:=(YN hc.size).1 hj;have hlt:j < X.size:=by rw[hc.size];grind
      let⟨d,zs,hfo⟩:=zxX hjf;let⟨o,t,ti,zv,p1,p2,p3,p4,p5,p6,p7,p8,p9,p10,p11⟩:=id hfo;rw[hq] at p1;cases p1;have hjF:∀f∈F,f.i≠j:=λf hf e=>by
        have:=(hc.fon f.i (Dp.2 ⟨f,hf,rfl⟩)).1;grind
      have hjt:j ∉ taken:=λhm=>hjc (hc.tcl j hm)
      let⟨st,σs,hh,L,b,Z,PV,⟨ν,vs,ids,hA⟩,hinv,hfi⟩:=hR.at_;have base:wpOp P ops (Zi n w0 σ0 κ K r) j (λa' w'=>∃c:Addr,Inv st σs Z (.cell c zs::PV) w'/\Fits n ((d,.pointer (E (c.add 0)))::L) b a') a w:=by
        unfold wpOp;rw[hq];have hw:qE q (yielded ops a.tmps)=true:=by unfold qE;rw[p4]
        simp only[hw,jp];left;let⟨dst,op,ty,ps,af,g⟩:=q;simp only at p2 p3 p4;subst p2 p3 p4;refine zjY (w0:=st) (σ0:=σs) (Z:=Z) (PV:=PV) (L:=L) (b:=b) (p:=E ()) (H:=λ_ L' Z' PV'=>∃c:Addr,L'=(d,.pointer (E (c.add 0)))::L/\Z'=Z/\PV' = .cell c zs::PV) p9 p5 p6 p7 (λc=>⟨c,rfl,rfl,rfl⟩) () rfl a w hinv hfi _ _ ?_;grind
      refine wpOp_mono ?_ (zh4 base);rintro a' w' ⟨⟨c,hi',hf'⟩,ht⟩
      have hi2:Inv w0 σ0 Z (PV++frF (⟨j,d,c,zs⟩::F)) w':=(hh.home hi').sub_own λg k=>Sep.perm (by
        show(Priv.cell c zs::(PV++frF F)).Perm (PV++(Priv.cell c zs::frF F))
        exact qK.symm) k
      let⟨st',hh',hinv'⟩:=Home.make hgl hi2;refine ihf ord h (F:=⟨j,d,c,zs⟩::F) (So:=So.put d .und) (hc.flt hq hjc hdeps) (zg5 hlt hoff hn) ⟨⟨st',Z,hh',_,b,Z,PV,⟨ν,vs,ids,hA.put (v :=.pointer (E (c.add 0))) trivial trivial⟩,hinv',hf'⟩,⟨hR.eqx.heap,λt' ht'=>?_⟩,?_⟩
      · show upd So.env d _ t'=S.env t';by_cases e:t'=d
        ·exact absurd (.inr ⟨_,qG ..,e.symm⟩) ht'
        · rw[zr e];refine hR.eqx.env t' λhD=>ht' ?_
          rcases setX hjt hD with z | ⟨f,hf,hz⟩
          ·exact .inl z
          ·exact .inr ⟨f,Do _ hf,hz⟩
      · have hn:=hR.fok.next ht hjF;refine⟨λf hf=>?_,λf hf=>?_,λf hf=>?_,?_⟩
        · rcases UO.1 hf with z | z
          ·grind
          ·exact hn.op f z
        · rcases UO.1 hf with z | z
          ·grind
          ·exact hn.fl f z
        · rcases UO.1 hf with z | z
          ·subst z;show a'.tmps.getD d undef=_;rw[hf'.get];show(bif M d d then _ else _)=_;simp[Addr.add]
          ·exact hn.val f z
        ·rw[U3];exact qT.2 ⟨λhm=>by grind,hn.nd⟩
    have real:∀{cl taken:List Nat} {al:List (Nat×Nat)} {S:St C} {K:XE C->St C->Us ρ} {r:ρ} {okB:Bool} {j:Nat} {o:Oper} {run:Bool} {next:St C->List Nat->Us ρ},ops[j]?=E o->j ∉ cl->(∀k∈zz o,k∈cl)->Xb ops S o run->yD (YY qo Γ P n) (tch Γ P) P n ops okB cl taken (yV al (zz o)) K j I o run S next=E r->
        ∀{X:Array Bool} {a:Act} {w:World} {So:St C} {F:List Fl},Cfg P ops n cl taken al S X (F.map Fl.i)->X.toList.count I<=fuel+1->Rl P ops n w0 σ0 κ taken X F So S a w->onX X j=I->(∀k∈zz o,onX X k=G)->
        (∀S',next S' taken=E r->∀{X':Array Bool} {a':Act} {w':World} {So':St C} {F':List Fl},Cfg P ops n (j::cl) taken ((j,yV al (zz o))::al) S' X' (F'.map Fl.i)->X'.toList.count I<=fuel->Rl P ops n w0 σ0 κ taken X' F' So' S' a' w'->wpAny P .any ops (Zi n w0 σ0 κ K r) fuel X' a' w')->
          wpOp P ops (Zi n w0 σ0 κ K r) j (wpAny P .any ops (Zi n w0 σ0 κ K r) fuel (X.setIfInBounds j G)) a w:=by
      intro cl taken al S K r okB j o run next ho hjc hd hg h X a w So F hc hn hR hoff hdeps hnext
      have hlt:j < X.size:=by rw[hc.size];grind
      have hjFm:j ∉ F.map Fl.i:=λhm=>by have:=(hc.fon j hm).1;grind
      have hjF:∀f∈F,f.i≠j:=λf hf e=>hjFm (Dp.2 ⟨f,hf,e⟩)
      have hjt:j ∉ taken:=λhm=>hjc (hc.tcl j hm)
      let⟨st,σs,hh,hA⟩:=hR.at_;have hX:=hR.eqx;unfold yD at h;rw[Ux] at h;let⟨_,h⟩:=zc h;have hanc:∀r',onX X r'=I->qs (yV al (zz o)) r'=false:=λr' hr'=>by
        cases e:qs (yV al (zz o)) r' with
        |false=>rfl
        |true=>
          have:=zdK hc.anc (λk=>onX X k=G) (λk q hk hon=>hc.closed k q hk hon) (λk hk=>by rw[<- hc.size];grind) hdeps r' e;grind
      have hfree:∀t∈looks ops o,¬ flD ops taken X F t:=λt ht hD=>by
        rcases hD with⟨r',q',h1,h2,h3,h4⟩ | ⟨f,hf,rfl⟩
        · let⟨_,_,k3,k4⟩:=hc.ds r' q' t h1 h2 h3 h4;have hne:j≠r':=λe=>hjc (e ▸ hc.tcl r' h1)
          grind
        ·let⟨_,_,_,_,_,_,_,_,_,_,_,_,_,_,p⟩:=hR.fok.op f hf;exact(hc.fon f.i (Dp.2 ⟨f,hf,rfl⟩)).2 (hd _ ((p j o ho (hjF f hf).symm).1 ht))
      have hvB:∀t,flD ops taken X F t->t < vB:=λt hD=>by
        rcases hD with⟨r',q',h1,h2,h3,h4⟩ | ⟨f,hf,rfl⟩
        ·exact(hc.ds r' q' t h1 h2 h3 h4).2.1
        ·let⟨_,_,_,_,_,_,_,_,_,_,_,_,_,p,_⟩:=hR.fok.op f hf;exact p
      have hgo:Xb ops So o run:=hg.congr λt ht=>hX.env t (hfree t (WQ ht))
      have keep:∀{l p S'},Keeps S S' o.dst l p->(taken.all λr=>qs (yV al (zz o)) r || zfP ops S l p o.dst r)=G->∀r' q',r'∈taken->onX X r'=I->ops[r']?=E q'->QV P ops S' q':=λhk hall r' q' h1 h2 h3=>by
        have:=Dj.1 hall r' h1;rw[hanc r' h2,Dx] at this;exact(hc.qv r' q' h1 h2 h3).keep hk h3 this
      have fin:∀{S' S1 a' w'},next S' taken=E r->(∀r' q',r'∈taken->onX X r'=I->ops[r']?=E q'->QV P ops S' q')->At n st σs κ S1 a' w'->EqX (flD ops taken X F) S1 S'->zdL ops j a a'->wpAny P .any ops (Zi n w0 σ0 κ K r) fuel (X.setIfInBounds j G) a' w':=λh' hq' hA' hX' ht=>
        hnext _ h' (hc.sync ho hjc hjFm hd hdeps hq') (zg5 hlt hoff hn) ⟨⟨st,σs,hh,hA'⟩,hX'.weaken λt ht=>setX hjt ht,hR.fok.next ht hjF⟩
      have tk0:∀{v:Value},zdL ops j a (a.put o.dst v):=λ{v} t ht=>Vk (ht o ho)
      unfold wpOp;rw[ho];simp only[hgo.wanted hA];cases run with
      |false=>
        simp only[jj,jo];rw[Ux] at h;let⟨hall,h⟩:=zc h;split at h
        · rename_i d hdst;let⟨hdn,h⟩:=zc h;have tk1:zdL ops j a (a.put (E d) undef):=by grind
          rw[hdst];refine fin h (keep (l:=[]) (p:=λ_=>I) ?_ hall) (hA.skip hdn) ⟨hX.heap,λt ht=>?_⟩ tk1
          ·rw[hdst];exact .put
          · show upd So.env d _ t=upd S.env d _ t;by_cases e:t=d
            ·subst e;rw[zq,zq]
            ·rw[zr e,zr e];exact hX.env t ht
        ·rename_i hdst;rw[hdst];exact fin h (keep (l:=[]) (p:=λ_=>I) (.refl S) hall) hA hX λ_ _=>rfl
      |true=>
        simp only[jp];left;rw[Dk] at h;split at h
        ·cases h
        · rename_i l p htc;let⟨hall,h⟩:=zc h;rw[vN] at h;let⟨out,hs,h⟩:=gc h;have hsx:=zAe (q:=qo) (Γ:=Γ) (P:=P) (n:=n) (o:=o) hX hvB (λt ht=>hfree t (Dw _ (zbG ht)));rw[hs] at hsx;let⟨out',hs',hrel⟩:=hsx.inv;let⟨L,b,Z,PV,hAb,hinv,hf⟩:=hA;have base:o.wp P a w (λa' w'=>∃S' S1,out = .go S'/\EqX (flD ops taken X F) S1 S'/\At n st σs κ S1 a' w') (Zi n w0 σ0 κ K r):=by
            refine zkp hΓ n κ st σs hh.gl o So L b Z PV hAb _ hs' a w hinv hf _ _ ?_ ?_
            · intro S1 e L' Z' PV' a' w' hi' hf' hA';subst e;cases out with
              |pan v T=>grind
              |go S'=>exact⟨S',S1,rfl,hrel,L',b,Z',PV',hA',hi',hf'⟩
            · intro v S1 e u Z' PV' w' hi' hA' hp;subst e;cases out with
              |go S'=>grind
              |pan v' S'=>
                obtain⟨rfl,hrel⟩:=hrel;let⟨ν,vs,ids,hA'⟩:=hA';have hi3:Inv w0 σ0 Z' PV' w':=(hh.home hi').sub_own λg k=>by
                  let⟨f1,f2,s1,s2,l1,l2,dd⟩:=k.split;exact s1.mono (.refl _) l1
                refine⟨v,_,h,u,L,b,Z',PV',rfl,hp,⟨ν,vs,ids,hA'.mask (hrel.weaken λt hD=>?_)⟩,hi3,hf⟩;rcases hD with⟨r',q',h1,h2,h3,h4⟩ | ⟨f,hf,rfl⟩
                ·exact qU.2 ⟨q',UG (by rw[qX];exact h3),h4⟩
                ·let⟨q',_,_,_,p1,p2,_⟩:=hR.fok.op f hf;exact qU.2 ⟨q',UG (by rw[qX];exact p1),p2⟩
          refine Oper.wp_mono ?_ (zmF base);rintro a' w' ⟨⟨S',S1,rfl,hrel',hA'⟩,ht⟩;exact fin h (keep (zq0 hs htc) hall) hA' hrel' λt ht'=>ht t (ht' o ho)
    induction ord with
    |nil=>
      intro cl taken al S K r h X a w So F hc hn hR;have h0:=h;let⟨hall,h⟩:=zc h;have hcl:∀i,i < ops.size->i∈cl:=λi hi=>zS.1 (Dj.1 hall i (Dt.2 hi))
      refine⟨λhr=>?_,λj hj=>quiet [] h0 hc hn hR hj (hcl j ?_)⟩
      · have hon:∀i∈taken,onX X i=true:=λi hi=>by
          cases e:onX X i with
          |true=>rfl
          |false=>
            let⟨k,q,k1,k2,k3,k4⟩:=zsp hc.wf hc.inc ⟨i,hc.tcl i hi,e⟩;have:k∈qB .any ops X:=(YN hc.size).2 ⟨k2,q,k3,k4⟩;grind
        exact⟨S,h,hR.done (noF hc hR.fok hcl) λt ht=>zh3 hon t ht⟩
      ·let⟨_,q,hq,_⟩:=(YN hc.size).1 hj;grind
    |cons io ord ih=>
      intro cl taken al S K r h X a w So F hc hn hR;let⟨i,early⟩:=io;have h0:=h;have some_ready:∀{i:Nat} {o:Oper},ops[i]?=E o->i ∉ cl->i ∉ F.map Fl.i->(∀k∈zz o,k∈cl)->qB .any ops X=[]->False:=by
        intro i o ho hi hiF hd hr;have hoff:onX X i=false:=by
          cases e:onX X i with
          |false=>rfl
          |true=>exact((hc.sub i e).elim hi hiF).elim
        by_cases hx:∃k∈cl,onX X k=I
        ·let⟨k,q,k1,k2,k3,k4⟩:=zsp hc.wf hc.inc hx;have:k∈qB .any ops X:=(YN hc.size).2 ⟨k2,q,k3,k4⟩;grind
        · have:i∈qB .any ops X:=(YN hc.size).2 ⟨hoff,o,ho,λk hk=>by
            grind⟩
          grind
      have dn:∀{i k:Nat},i ∉ F.map Fl.i->onX X k=G->k∈cl\/(k∈Ws C P ops n/\k≠i):=λ{i k} hiF hk=>by
        rcases hc.sub k hk with z | z
        ·exact .inl z
        ·let⟨f,hf,e⟩:=Dp.1 z;exact .inr ⟨e ▸ hR.fok.fl f hf,λe'=>hiF (e' ▸ z)⟩
      cases hb:W i 4096 with
      |false=>
        rw[zc6 hb] at h;cases hrd:XX ops cl ((i - 4096) / 64) && XX ops cl ((i - 4096) % 64) with
        |false=>rw[hrd,Ux] at h;grind
        |true=>
        rw[hrd,Dk] at h;let⟨hchk,h⟩:=zc h;generalize (i - 4096) / 64=i1 at h hchk;generalize (i - 4096) % 64=i2 at h hchk;let⟨g1,g2⟩:=zaG h;by_cases hF1:i1∈F.map Fl.i
        ·let⟨S',So',F',al',h',hc',hR'⟩:=absorb hgl g1 hF1 hc hR;grind
        by_cases hF2:i2∈F.map Fl.i
        ·let⟨S',So',F',al',h',hc',hR'⟩:=absorb hgl g2 hF2 hc hR;grind
        let⟨o1,run1,ho1,hi1,hd1,_,hg1,s1⟩:=Y0 g1;let⟨o2,run2,ho2,hi2,hd2,_,hg2,s2⟩:=Y0 g2;refine⟨λhr=>(some_ready ho1 hi1 hF1 hd1 hr).elim,λj hj=>?_⟩;by_cases hjc:j∈cl
        ·grind
        · obtain ⟨hjoff,q,hq,hdeps⟩:=(YN hc.size).1 hj;have hji:(j=i1\/j=i2)\/j∈Ws C P ops n:=by
            have:=Dj.1 hchk j (Dt.2 (Uy.1 hq).1);rw[hq] at this;simp only[UB,Di] at this;rcases this with(z | z) | z | z | z
            ·exact .inl (.inl (ge z))
            ·exact .inl (.inr (ge z))
            ·exact .inr (zS.1 z)
            ·exact absurd (zS.1 z) hjc
            · exfalso
              have:zbH (zz q) (rmL i1 (rmL i2 (Ws C P ops n))++cl)=true:=Dj.2 λk hk=>zS.2 (by
                rcases dn hF1 (hdeps k hk) with z | ⟨z1,z2⟩
                ·grind
                · rcases dn hF2 (hdeps k hk) with z | ⟨z3,z4⟩
                  ·grind
                  ·exact Dw _ (Ds.2 ⟨Ds.2 ⟨z1,zsq z4⟩,zsq z2⟩))
              grind
          rcases hji with(e | e) | e
          ·subst e;grind
          ·subst e;grind
          grind
      |true=>
      cases hrd:XX ops cl i with
      |false=>rw[zcx hb hrd] at h;grind
      |true=>
      rw[zc5 hb hrd] at h;cases early with
      |true=>
        have hiF:i ∉ F.map Fl.i:=λhm=>zeH h hm hR.fok
        let⟨o,run,ho,hi,hd,hgt,hg,h⟩:=Y0 h;have hoff:onX X i=false:=by
          grind
        have hearly:Wr ops n cl taken i o=true:=by
          unfold yD at h;rw[Dk] at h;exact(zc h).1
        have hgl:∀t∈X2 ops o,o.dst≠E t:=λt ht e=>by
          unfold Wr at hearly;rw[e] at hearly;simp only[gf,Di] at hearly;rw[zS.2 (WQ ht)] at hearly;grind
        let⟨he,S',h,hv,hS,hh⟩:=znQ hg hgl h;refine ih h (hc.early ho hi hiF hd he hv hS hh) hn ⟨hR.at_,⟨hR.eqx.heap.trans hh.symm,λt ht=>?_⟩,hR.fok⟩;have hne:o.dst≠E t:=λe=>ht (.inl ⟨i,o,by simp,hoff,ho,e⟩)
        rw[hS t hne];refine hR.eqx.env t λhD=>ht ?_
        rcases hD with⟨r',q',h1,h2⟩ | z
        ·exact .inl ⟨r',q',Do _ h1,h2⟩
        ·exact .inr z
      |false=>
        by_cases hiF:i∈F.map Fl.i
        ·let⟨S',So',F',al',h',hc',hR'⟩:=absorb hgl h hiF hc hR;grind
        let⟨o,run,ho,hi,hd,hgt,hg,h⟩:=Y0 h;have honly:znO ops (Ws C P ops n) cl i=true:=by
          unfold yD at h;rw[Ux] at h;exact(zc h).1
        refine⟨λhr=>(some_ready ho hi hiF hd hr).elim,λj hj=>?_⟩;by_cases hjc:j∈cl
        ·grind
        · obtain ⟨hjoff,q,hq,hdeps⟩:=(YN hc.size).1 hj;have hji:j=i\/j∈Ws C P ops n:=by
            have:=Dj.1 honly j (Dt.2 (Uy.1 hq).1);rw[hq] at this;simp only[UB,Di] at this;rcases this with z | z | z | z
            ·exact .inl (ge z)
            ·exact .inr (zS.1 z)
            ·exact absurd (zS.1 z) hjc
            · exfalso
              have:zbH (zz q) (rmL i (Ws C P ops n)++cl)=true:=Dj.2 λk hk=>zS.2 (by
                rcases dn hiF (hdeps k hk) with z | ⟨z1,z2⟩
                ·grind
                ·exact Dw _ (Ds.2 ⟨z1,zsq z2⟩))
              grind
          rcases hji with e | e
          ·grind
          grind
theorem zmc(hgl:C.gl w0.w σ0)(hΓ:∀s∈Γ,s.OK P){K:XE C->St C->Us ρ}{r:ρ}(h:ZN (YY qo Γ P n) (tch Γ P) P n ops ord [] [] [] S K=E r)(hm:P.follows .mixedOrders=G)(hA:At n w0 σ0 κ S a w):(Code.region id ops G).wp P (Zi n w0 σ0 κ K r) a w:=by
 refine wp_region_any hm ?_;let⟨L,b,Z,PV,hAb,hi,hf⟩:=hA;have h0:∀i,onX (qM ops.size I) i=false:=λi=>by
  unfold onX;rw[Uw];cases e:(qM ops.size I)[i]? with
  |none=>rfl
  |some v=>grind
 refine zwC hgl hΓ _ _ h (X:=qM ops.size I) (F:=[]) ⟨by simp,λi hi=>(by grind),λi hi=>(by cases hi),trivial,λi hi=>(by cases hi),λi hi=>(by cases hi),λi hi=>(by cases hi),λk q _ hk=>(by grind),λr q hr=>(by cases hr),λr q d hr=>(by cases hr),λi m hm=>(by cases hm)⟩ ?_ ⟨⟨w0,σ0,⟨λk=>by simpa[frF] using k,hgl⟩,L,b,Z,PV,hAb,hi.drew,hf⟩,⟨rfl,λ_ _=>rfl⟩,⟨λf hf=>(by cases hf),λf hf=>(by cases hf),λf hf=>(by cases hf),List.nodup_nil⟩⟩;grind
end
end
end Go.Px
