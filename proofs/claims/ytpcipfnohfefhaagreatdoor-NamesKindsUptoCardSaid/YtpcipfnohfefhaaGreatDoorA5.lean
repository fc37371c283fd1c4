/- Part A5: PxM21 PxMK2 PxMQ PxM22 PxMO5 PxM23 PxM24 PxM2 -/
import Derived.Test.YtpcipfnohfefhaaGreatDoorA4
set_option linter.unusedSectionVars false
set_option linter.unusedVariables false
set_option linter.unusedSimpArgs false
namespace Go.Px
variable{K:Act->World->Prop}{Q:Exit->Act->World->Prop}{T0 e f i id j k m off:Nat}{a:Act}{bl:Bl}{dst:G3 Nat}{es:List ESh}{hi lo:G3 Operand}{ins:Sig}{l:List Nat}{okB run:Bool}{ord:List (Nat×Bool)}{p:Nat->Bool}{q:Oper}{s:Sh}{ti:TypeInfo}{w:World}{α:Type}
section
theorem U7:∀ (b:Bool),(false || b)=b:=@Bool.false_or
theorem U6:∀{α:Type _}{a:α}{«as»:List α}(bs:List α),a∈«as»->a∈«as»++bs:=@List.mem_append_left
variable [Dfr]
section
variable {κ:Kp}{C:Cod}{S:St C}{ν:Val}{vs:Nat->List Value}{ids:List Nat}{L:List (Nat×Value)}{b:Nat->Value}{Z:FS}{PV:List Priv}{P:Program}
variable {n:Nat}{w0:Start}{σ0:FS}
def lent:Op->G3 (Operand×List Operand)
 | .call ⟨.value c,args,_⟩=>some (c,args.toList)
 |_=>none
def xO (S:St C) (x:Operand):G3 (Out C):=match S.op x with
 | .ifc t A=>chk (A.base || A.flat) (some (.pan (.ifc t A) S))
 |_=>none
structure Opts where
 fs:Bool
def X0 (q:Opts) (P:Program) (S:St C) (d:Nat) (ty t:TypeId) (x:Operand) (lo hi mx:G3 Operand):G3 (Out C):=match mx with
 |none=>Yf P S d ty t x lo hi
 |_=>none
def xP {D:Nat->Type}(args:List (AV D)):List (AV D)->List (AV D)
 |[.tup ws]=>ws++args
 |caps=>args++caps
def wc (args:List Value):List Value->List Value
 |[.tuple a]=>a.toList++args
 |vs=>args++vs
theorem zlZ {Z:FS}{ν:Val}{p:Nat->Prop}(hone:∀ i,(ν.hdr i).oneCell'=true) {args vals:List Value}{As caps:List (AV C.D)}(hc:zcf caps=true) (ha:VRs C Z ν args As) (hr:VRs C Z ν vals caps) (hoa:AV.oks p As) (hoc:AV.oks p caps) :
    VRs C Z ν (wc args vals) (xP As caps)/\AV.oks p (xP As caps)/\∃ fi ca:Array Value,V9 f vals = .func (.func f) fi ca/\(fi++args.toArray)++ca=(wc args vals).toArray:=by
  have plain:(∀ v∈vals,v.oneCell'=true)\/vals.length≠1->xP As caps=As++caps->VRs C Z ν (wc args vals) (xP As caps)/\AV.oks p (xP As caps)/\∃ fi ca:Array Value,V9 f vals = .func (.func f) fi ca/\(fi++args.toArray)++ca=(wc args vals).toArray:=by
    intro h1 h2;have e1:wc args vals=args++vals:=by
      unfold wc;split
      · rename_i a;rcases h1 with h1 | h1
        ·have:=h1 (.tuple a) (by simp);cases this
        grind
      ·rfl
    have e2:V9 f vals = .func (.func f) #[] vals.toArray:=by
      unfold V9;split
      · rename_i a;rcases h1 with h1 | h1
        ·have:=h1 (.tuple a) (by simp);cases this
        grind
      ·rfl
    rw [e1,h2];exact ⟨ha.append hr,AV.oks_append hoa hoc, #[],vals.toArray,e2,by simp⟩
  match vals,caps,hr with
  |[],[],hr=>exact plain (.inl fun v hv=>by cases hv) rfl
  |[v],[A],hr=>
    by_cases ht:∃ ws,A = .tup ws
    ·obtain ⟨ws,rfl⟩:=ht;obtain ⟨us,e,h2⟩:=hr.1;subst e;exact ⟨h2.append ha,AV.oks_append hoc.1 hoa,us.toArray, #[],rfl,by simp [wc]⟩
    · have hl:A.leaf=true:=by
        unfold zcf at hc;split at hc
        ·grind
        all_goals grind
      refine plain (.inl fun u hu=>by rw [Uw.1 hu];exact hr.1.one hl hone) ?_;unfold xP;grind
  |u::v::l,A::B::cs,hr=>exact plain (.inr (by simp)) (by cases A <;> rfl)
  |[v],A::B::cs,hr=>exact hr.2.elim
  |u::v::l,[A],hr=>exact hr.2.elim
def X1 (q:Opts) (Γ:List (Spec C)) (P:Program) (d:Nat) (ty:TypeId) (S:St C):Op->G3 (Out C)
 | .alloc t=>xN P S d t
 | .box t x=>chk (Yw (S.op x)) (bif C.bz t then zox S d t (zq (S.op x)) else zaX S d (zq (S.op x)))
 | .buildSlice t m parts=>YL P S d t m parts.toList
 | .slice t x lo hi mx=>match yI P S ty (.slice t x lo hi mx) with
  |some A=>some (.go (S.put d A))
  |none=>X0 q P S d ty t x lo hi mx
 | .convert t t' x=>match yI P S ty (.convert t t' x) with
  |some A=>some (.go (S.put d A))
  |none=>none
 | .call ⟨.value c,args,_⟩=>match S.op c with
  | .clo f caps=>chk (zcf caps) (vN Γ S d f (xP (args.toList.map S.op) caps))
  |_=>none
 | .call ⟨.builtin .append,args,ts⟩=>match args.toList,ts.toList with
  |[x,y],[t,t']=>chk (Nat.beq t t') (yJ P S d t x y)
  |_,_=>none
 | .makeMap t none=>x9 S d t
 | .lookup t x y false=>vL P S d t x y
 | .panic x=>xO S x
 |op=>(yI P S ty op).map fun A =>.go (S.put d A)
def vO (q:Opts) (Γ:List (Spec C)) (P:Program) (n:Nat) (o:Oper) (S:St C):G3 (Out C):=match o.dst with
 |some d=>chk (Nat.blt d n) (X1 q Γ P d o.type S o.op)
 |none=>match o.op with
  | .store t x y=>yo P S t x y
  | .mapUpdate t x y z=>XZ P S t x y z
  | .panic x=>xO S x
  |_=>none
theorem zi3 (h:AbsL κ S ν vs ids L b Z PV) {x:Operand}{ty:TypeId}{ps:String}{af:Array Edge}{g:G3 (Nat×Bool)} :
    OpA κ P n w0 σ0 ⟨dst,.panic x,ty,ps,af,g⟩ (xO S x) L b Z PV:=by
  intro out hX a w hi hf K Q hK hP;have hx:=h.op x;unfold xO at hX;split at hX
  · rename_i t A e;obtain ⟨hb,hX⟩:=zb hX;cases hX;rw [e] at hx;have hk:∀ p:Nat->Prop,(AV.ifc t A).ok p:=fun p=>by
      rcases (GO _ _).mp hb with hb | hb
      ·exact vp (A :=.ifc t A) hb
      ·exact w7 (A :=.ifc t A) hb
    obtain ⟨u,e2,e3⟩:=hx;have hrun:(execOp a.eval ⟨dst,.panic x,ty,ps,af,g⟩).run P w = .halt (.panic (.iface t u)) w:=by
      rw [hf.eval];show (execOp (opv L b) ⟨dst,.panic x,ty,ps,af,g⟩).run P w=_;simp only [execOp,e2];rfl
    unfold Oper.wp;rw [hrun];refine hP _ _ rfl (.iface t u) Z PV w hi ⟨ν,vs,ids,h⟩ ⟨hk _,fun ν' _=>VR.congr (ν:=ν) (p:=fun _=>False) (fun _ h=>h.elim) (hk _) ⟨u,rfl,e3⟩⟩
  ·cases hX
theorem ztz (hgl:C.gl w0.w σ0) {Γ:List (Spec C)}(hΓ:∀ s∈Γ,s.OK P) (h:AbsL κ S ν vs ids L b Z PV) {c:Operand}{args:Array Operand}{ts:Array TypeId}{d:Nat}(hn:Nat.blt d n=true) {ty:TypeId}{ps:String}{af:Array Edge}{g:G3 (Nat×Bool)}{f:FuncId}{caps:List (AV C.D)}(hc:S.op c = .clo f caps) :
    OpA κ P n w0 σ0 ⟨some d,.call ⟨.value c,args,ts⟩,ty,ps,af,g⟩ (chk (zcf caps) (vN Γ S d f (xP (args.toList.map S.op) caps))) L b Z PV:=by
  intro out hX a w hi hf K Q hK hP;obtain ⟨hcaps,hX⟩:=zb hX;have hcv:=h.op c;have hco:=h.oks_op c;rw [hc] at hcv hco;obtain ⟨cvs,e1,e2⟩:=hcv;have hla:AV.oks (fun id=>(S.heap id).isSome=true) (args.toList.map S.op):=AV.oks_iff.2 fun A hA=>by
    obtain ⟨x,_,rfl⟩:=U0.1 hA;exact h.oks_op x
  obtain ⟨hr,hl,fi,ca,e3,e4⟩:=zlZ (f:=f) h.one hcaps (zc4 h.toAbs args.toList) e2 hla hco;obtain ⟨fn,hfn,hnm,hb,hcalls⟩:=zoF hgl h hr hl hi hΓ hX;have hrun:(execOp a.eval ⟨some d,.call ⟨.value c,args,ts⟩,ty,ps,af,g⟩).run P w = .ok (.enter f (wc (args.toList.map (opv L b)) cvs).toArray) w:=by
    have ha':args.map (opv L b)=(args.toList.map (opv L b)).toArray:=by grind
    rw [hf.eval,<- e4];simp only [execOp,resolve,e1,e3,ha',Deferred.ofValue,GV,GT,GW,invoke];unfold callFunc;simp only [GV,GX,GW,hfn,hnm,hb,jg,jk,GT]
  unfold Oper.wp;rw [hrun,Oper.upon_enter];refine Calls.mono hcalls ?_;intro e w' hq;cases e with
  |returned v=>
    obtain ⟨S',Z',PV',rfl,hi',hA⟩:=hq;exact hK _ rfl _ Z' PV' _ w' hi' (hf.put (by simpa [GZ] using hn) v) hA
  |panicked chain=>
    grind
  |outgrown=>exact hq.elim
theorem zk0 (h:AbsL κ S ν vs ids L b Z PV) {op:Op}{d:Nat}(hn:Nat.blt d n=true) {ty:TypeId}{ps:String}{af:Array Edge}{g:G3 (Nat×Bool)} :
    OpA κ P n w0 σ0 ⟨some d,op,ty,ps,af,g⟩ ((yI P S ty op).map fun A =>.go (S.put d A)) L b Z PV:=by
  intro out hX;obtain ⟨A,he,rfl⟩:=U4.1 hX;exact Vv h hn he (Vw h he) _ rfl
theorem ztA {q:Opts}{Γ:List (Spec C)}(hΓ:∀ s∈Γ,s.OK P) (n:Nat) (κ:Kp):ziY P n κ (vO q Γ P n):=by
 intro w0 σ0 hgl o S L b Z PV hA out hX;obtain ⟨ν,vs,ids,h⟩:=hA;obtain ⟨dst,op,ty,ps,af,g⟩:=o;cases dst with
 |none=>
  unfold vO at hX;simp only at hX;split at hX
  ·exact zlT h _ hX
  ·exact zkx h _ hX
  ·exact zi3 h _ hX
  ·cases hX
 |some d=>
  obtain ⟨hn,hX⟩:=zb hX;have hX:X1 q Γ P d ty S op=some out:=hX;unfold X1 at hX;split at hX
  ·exact zlS h hn _ hX
  ·obtain ⟨hs,hX⟩:=zb hX;rw [Bool.cond_eq_ite] at hX;split at hX
   ·exact zoy h hn hs _ hX
   ·exact zos h hn hs _ hX
  ·exact zkw h hn _ hX
  ·split at hX
   ·rename_i A he;exact Vv h hn he (Vw h he) _ hX
   ·unfold X0 at hX;split at hX
    ·exact zky h hn _ hX
    ·cases hX
  ·split at hX
   ·rename_i A he;exact Vv h hn he (Vw h he) _ hX
   ·cases hX
  ·split at hX
   ·rename_i f caps hc;exact ztz hgl hΓ h hn hc _ hX
   ·cases hX
  ·split at hX
   ·rename_i args ts x y t t' e1 e2;obtain ⟨ht,hX2⟩:=zb hX;have:=jz ht;subst this;rw [zcg e1,zcg e2];exact zdK h hn _ hX2
   ·cases hX
  ·exact ziU h hn _ hX
  ·exact zow h hn _ hX
  ·exact zi3 h _ hX
  ·exact zk0 h hn _ hX
def zse (n:Nat):G3 Nat->Bool
 |some d=>Nat.blt d n
 |none=>true
def stp (q:Opts) (Γ:List (Spec C)) (P:Program) (n:Nat) (o:Oper) (S:St C):G3 (Out C):=match YU P S o.dst o.op with
 |some k=>chk (zse n o.dst) (vY P S k)
 |none=>vO q Γ P n o S
theorem zi4 {q:Opts}{Γ:List (Spec C)}(hΓ:∀ s∈Γ,s.OK P) (n:Nat) (κ:Kp):ziY P n κ (stp q Γ P n):=by
 intro w0 σ0 hgl o S L b Z PV hA out hX;unfold stp at hX;split at hX
 ·rename_i X hN;obtain ⟨hd,hX2⟩:=zb hX;obtain ⟨ν,vs,ids,h⟩:=hA;obtain ⟨dst,op,ty,ps,af,g⟩:=o;exact zuV h (fun d e=>by subst e;exact hd) hN out hX2
 ·exact ztA hΓ n κ w0 σ0 hgl o S L b Z PV hA out hX
end
omit [Dfr] in
theorem Y8.loopO:Y8 (fun {s β} f x=>loopO f x):=fun f x y h=>WG.1 h
theorem Y8.iter (k:Nat):Y8 (fun {s β} f x=>Z2 f k x):=fun f x y h=>⟨k,h⟩
end
section
variable [Dfr]
section
variable {C:Cod}{S:St C}{P:Program}{ρ:Type}{Γ:List (Spec C)}
theorem zeR {f:XE C->St C->G3 (Out C)}{K:Out C->G3 ρ}{k:XK}{g:Sig}{y:XK.ty C k g}:(yQ k g y f).bind K=yQ k g y fun e Sr=>(f e Sr).bind K:=by
 cases k <;> rfl
theorem Xc {f:XE C->St C->G3 (Out C)}{K:Out C->G3 ρ}:∀ {outs:List (XK×Sig)}{r:zi C outs},(zQ outs r f).bind K=zQ outs r fun e Sr=>(f e Sr).bind K
 |[],r=>r.elim
 |[o],r=>zeR
 |o::o2::l,r=>by
  cases r with
  |inl a=>exact zeR (k:=o.1) (g:=o.2) (y:=a)
  |inr y=>exact Xc (outs:=o2::l) (r:=y)
def vP (s:Spec C) (d:Nat) (S:St C) (x:s.ins.ty C) (K:Out C->G3 ρ):G3 ρ:=
 chk s.ins.es.isEmpty ((s.F x).bind fun r=>zQ s.outs r fun e Sr=>(zau S d s.nr e Sr).bind K)
def za9:(outs:List (XK×Sig))->zi C outs->(XE C->St C->List ESh->α)->α
 |[],y,_=>y.elim
 |[o],y,K=>yQ o.1 o.2 y fun e S=>K e S o.2.es
 |o::o2::r,y,K=>match (y:XK.ty C o.1 o.2⊕zi C (o2::r)) with
  | .inl a=>yQ o.1 o.2 a fun e S=>K e S o.2.es
  | .inr y=>za9 (o2::r) y K
theorem zac {K:XE C->St C->List ESh->α}:∀ {outs:List (XK×Sig)}{r:zi C outs},za9 outs r K=zQ outs r fun e S=>K e S (ye outs r)
 |[],r=>r.elim
 |[o],r=>rfl
 |o::o2::l,r=>by
  cases r with
  |inl a=>rfl
  |inr y=>exact zac (outs:=o2::l) (r:=y)
theorem zeS {k:XK}{g:Sig}{y:XK.ty C k g}:yQ k g y (fun _ _=>(none:G3 α))=none:=by cases k <;> rfl
theorem zcn:∀ {outs:List (XK×Sig)}{r:zi C outs},zQ outs r (fun _ _=>(none:G3 α))=none
 |[],r=>r.elim
 |[o],r=>zeS (k:=o.1) (g:=o.2) (y:=r)
 |o::o2::l,r=>by
  cases r with
  |inl a=>exact zeS (k:=o.1) (g:=o.2) (y:=a)
  |inr y=>exact zcn (outs:=o2::l) (r:=y)
def zba (s:Spec C) (d:Nat) (S2:St C) (bl:Bl) (x:s.ins.ty C) (K:Out C->G3 ρ):G3 ρ:=
 (s.F x).bind fun r=>za9 s.outs r fun e Sr es=>chk (Nat.ble s.ins.es.length es.length) ((wy S2 d s.nr bl es e Sr).bind K)
theorem zdP {s:Spec C}{d:Nat}{S2:St C}{x:s.ins.ty C}{K:Out C->G3 ρ}:zba s d S2 bl x K=(xb s d S2 bl x).bind K:=by
 unfold zba xb;rw [ga];congr 1;funext r;rw [zac,zw,Xc];cases Nat.ble s.ins.es.length (ye s.outs r).length with
 |true=>rfl
 |false=>exact zcn
def zbb (s:Spec C) (d:Nat) (S:St C) (x:s.ins.ty C) (K:Out C->G3 ρ):G3 ρ:=
 (s.F x).bind fun r=>za9 s.outs r fun e Sr es=>chk (zsd e) ((wy S d s.nr [] es e Sr).bind K)
theorem zdQ {s:Spec C}{d:Nat}{x:s.ins.ty C}{K:Out C->G3 ρ}:zbb s d S x K=(yv s d S x).bind K:=by
 unfold zbb yv;rw [ga];congr 1;funext r;rw [zac,Xc];simp only [zw]
def zbc (Γ:List (Spec C)) (S:St C) (d f:Nat) (As:List (AV C.D)) (K:Out C->G3 ρ):G3 ρ:=match Γ with
  |[]=>none
  |s :: Γ=>bif Nat.beq s.f f && (s.view || s.viewO) then wz S As fun Bs=>chk (okX As Bs) (XS s.ins.ts (zeP S As Bs) fun T=>match Yq s.ins T As.length with
     |some (_,_,x)=>bif s.view then vP s d S x K else zbb s d S x K
     |none=>none) else zbc Γ S d f As K
theorem zkC {s:Spec C}{d:Nat}{x:s.ins.ty C}{K:Out C->G3 ρ}:vP s d S x K=(yF s d S x).bind K:=by
 simp only [vP,yF,zw,ga,Xc]
theorem zdR {d:Nat}{As:List (AV C.D)}{K:Out C->G3 ρ}:∀ {Γ:List (Spec C)},zbc Γ S d f As K=(xc Γ S d f As).bind K
 |[]=>rfl
 |s::Γ=>by
  unfold zbc xc;cases (Nat.beq s.f f && (s.view || s.viewO)) with
  |false=>exact zdR
  |true=>
   simp only [Uv];rw [za6];congr 1;funext Bs;rw [zw,za7];congr 1;congr 1;funext T;cases Yq s.ins T As.length with
   |none=>rfl
   |some q=>
    obtain ⟨S2,bl,x⟩:=q;simp only;cases s.view with
    |true=>exact zkC
    |false=>exact zdQ
def vQ (Γ0 Γ:List (Spec C)) (S:St C) (d f:Nat) (As:List (AV C.D)) (K:Out C->G3 ρ):G3 ρ:=match Γ with
 |[]=>zbc Γ0 S d f As K
 |s::Γ=>bif Nat.beq s.f f then (match YA s.ins S As with
  |some (S2,bl,x)=>bif s.view then vP s d S x K else bif s.viewO then zbb s d S x K else zba s d S2 bl x K
  |none=>vQ Γ0 Γ S d f As K) else vQ Γ0 Γ S d f As K
theorem zad {Γ0:List (Spec C)}{d:Nat}{As:List (AV C.D)}{K:Out C->G3 ρ}:∀ {Γ:List (Spec C)},vQ Γ0 Γ S d f As K=(Yr Γ0 Γ S d f As).bind K
 |[]=>zdR
 |s::Γ=>by
  unfold vQ Yr;cases Nat.beq s.f f with
  |false=>exact zad
  |true=>
   simp only [Uv];cases YA s.ins S As with
   |none=>exact zad
   |some q=>
    obtain ⟨S2,bl,x⟩:=q;simp only;cases s.view with
    |true=>
     simp only [Uv,vP,yF,zw,ga,Xc]
    |false=>
     rw [G8,G8];cases s.viewO with
     |true=>simp only [Uv,zdQ]
     |false=>simp only [G8,zdP]
def zk1 (Γ:List (Spec C)) (S:St C) (d f:Nat) (As:List (AV C.D)) (K:Out C->G3 ρ):G3 ρ:=vQ Γ Γ S d f As K
theorem zl0 {d:Nat}{As:List (AV C.D)}{K:Out C->G3 ρ}:zk1 Γ S d f As K=(vN Γ S d f As).bind K:=zad
def eff:Op->Bool
 | .slice _ _ _ _ _=>true
 | .convert _ _ _=>true
 |op=> !rdE op
where
 rdE:Op->Bool
  | .alloc _=>false
  | .box _ _=>false
  | .makeSlice _ _ _=>false
  | .buildSlice _ _ _=>false
  | .call ⟨.value _,_,_⟩=>false
  | .call ⟨.builtin .append,_,_⟩=>false
  | .makeMap _ _=>false
  | .lookup _ _ _ _=>false
  | .panic _=>false
  |_=>true
def Vy (P:Program) (S:St C) (d:Nat) (t:TypeId) (x y:Operand) (K:Out C->G3 ρ):G3 ρ:=
  match P.underlying t with
  |some (.slice e)=>(match P.info? e with
    |some ti=>(match ti.zero with
      |some zv=>chk (Nat.beq ti.size (C.size e) && (Nat.blt 0 (C.size e) && (Nat.beq zv.cells.size (C.size e) && isNone (S.heap (nid d 0)))))
          (match S.op x with
          | .row id=>(match S.heap id with
            |some (.row T s)=>chk (Nat.beq T e) ((za1 S T (S.op y)).bind fun ts=>(zp ti.bytes s ts).bind fun s'=>
                K (.go {env:=upd (S.sub id .und).env d (.row (nid d 0)),heap:=upd (S.sub id .und).heap (nid d 0) (some (.row T s'))}))
            |_=>none)
          | .nils=>(za1 S e (S.op y)).bind fun ts=>(zp ti.bytes ⟨[],false⟩ ts).bind fun s'=>
                K (.go {env:=upd S.env d (.row (nid d 0)),heap:=upd S.heap (nid d 0) (some (.row e s'))})
          |_=>none)
      |none=>none)
    |none=>none)
  |_=>none
theorem zco {d:Nat}{t:TypeId}{x y:Operand}{K:Out C->G3 ρ}:Vy P S d t x y K=(yJ P S d t x y).bind K:=by
 unfold Vy yJ;cases P.underlying t with
 |none=>rfl
 |some td=>
  cases td <;> first | rfl | skip
  rename_i e;simp only;cases P.info? e with
  |none=>rfl
  |some ti=>
   simp only;cases ti.zero with
   |none=>rfl
   |some zv=>
    simp only [zw];congr 1;cases S.op x <;> first | rfl | skip
    ·rename_i id;simp only;cases S.heap id with
     |none=>rfl
     |some en=>
      cases en with
      |cell cs=>rfl
      |row T s=>simp only [zw,ga,jf]
      |obj q T b s=>rfl
      |orow T s g=>rfl
    grind
def zsf {D:Nat->Type}:AV D->Bool
 | .str _=>true
 | .sl _ _ _=>true
 | .nx _ _ _ _=>true
 |_=>false
def zgR (P:Program) (S:St C) (d:Nat) (ty t:TypeId) (A:AV C.D) (x:Operand) (lo hi:G3 Operand) (K:Out C->G3 ρ):G3 ρ:=match A with
 | .row id=>zc7 P (S.frz1 id) ty (.slice t x lo hi none) fun A=>K (.go ((S.frz1 id).put d A))
 |_=>none
def vR (P:Program) (S:St C) (t:TypeId) (x y:Operand) (K:Out C->G3 ρ):G3 ρ:=match P.info? t,S.op x with
 |some ti,.pr _ _ _ _=>go ti (S.frz (AV.rows (S.op y)))
 |_,_=>(yo P S t x y).bind K
where
  go (ti:TypeInfo) (S:St C):G3 ρ:=match S.op x with
    | .pr id T i off=>(match S.heap id with
      |some (.row T' s)=>chk (Nat.beq T T' && (Yw (S.op y) && (Nat.beq ti.size (zq (S.op y)).length && (Nat.ble (off+(zq (S.op y)).length) (C.size T') && Nat.blt 0 (zq (S.op y)).length))))
          ((zd s i).bind fun q=>(C.imp T' ((C.emb T' q).take off++zq (S.op y)++(C.emb T' q).drop (off+(zq (S.op y)).length))).bind fun q'=>
            K (.go {S with heap:=upd S.heap id (some (.row T' (s.set i q')))}))
      |_=>none)
    |_=>none
theorem zkD {x y:Operand}{K:Out C->G3 ρ}:vR.go x y K ti S=(yo.go x y ti S).bind K:=by
 unfold vR.go yo.go;cases S.op x <;> first | rfl | skip
 rename_i id T i off;simp only;cases S.heap id with
 |none=>rfl
 |some e=>
  cases e with
  |cell cs=>rfl
  |row T' s=>simp only [zw,ga,jf]
  |obj q T b s=>rfl
  |orow T s g=>rfl
theorem zkE {t:TypeId}{x y:Operand}{K:Out C->G3 ρ}:vR P S t x y K=(yo P S t x y).bind K:=by
 unfold vR;split
 ·rename_i ti id T i off h1 h2;rw [zkD];unfold yo;rw [h1,h2]
 ·rfl
def zsg (q:Opts) (Γ:List (Spec C)) (P:Program) (n:Nat):yC C:=fun o S _ K=>match o.dst with
 |some d=>chk (Nat.blt d n) (match o.op with
  | .call ⟨.value c,args,_⟩=>(match S.op c with
   | .clo f caps=>chk (zcf caps) (zk1 Γ S d f (xP (args.toList.map S.op) caps) K)
   |_=>none)
  | .call ⟨.builtin .append,args,ts⟩=>(match args.toList,ts.toList with
   |[x,y],[t,t']=>chk (Nat.beq t t') (Vy P S d t x y K)
   |_,_=>none)
  | .slice t x lo hi none=>bif zsf (S.op x) then zc7 P S o.type (.slice t x lo hi none) fun A=>K (.go (S.put d A)) else zgR P S d o.type t (S.op x) x lo hi K
  | .convert t t' x=>(match yI P S o.type (.convert t t' x) with
   |some A=>K (.go (S.put d A))
   |none=>none)
  |op=>bif eff op then (X1 q Γ P d o.type S op).bind K else zc7 P S o.type op fun A=>K (.go (S.put d A)))
 |none=>(match o.op with
  | .store t x y=>vR P S t x y K
  |_=>(vO q Γ P n o S).bind K)
theorem ztB {q:Opts}{d:Nat}{ty:TypeId}{op:Op}(h:eff op=false):X1 q Γ P d ty S op=(yI P S ty op).map fun A =>.go (S.put d A):=by
 unfold X1;split <;> first | (cases h;done) | rfl
theorem zqb {q:Opts}{n:Nat}{o:Oper}{K:Out C->G3 ρ}:zsg q Γ P n o S ρ K=(vO q Γ P n o S).bind K:=by
 obtain ⟨dst,op,ty,ps,af,g⟩:=o;cases dst with
 |none=>cases op <;> first | rfl | exact zkE
 |some d=>
  show chk (Nat.blt d n) _=(chk (Nat.blt d n) (X1 q Γ P d ty S op)).bind K;rw [zw];congr 1;simp only;split
  ·rename_i c args ts;unfold X1;simp only;cases S.op c <;> first | rfl | (simp only [zw];rw [zl0])
  ·rename_i args ts;unfold X1;simp only;generalize args.toList=l;generalize ts.toList=m
   match l,m with
   |[],_=>rfl
   |[_],_=>rfl
   |[x,y],[]=>rfl
   |[x,y],[_]=>rfl
   |[x,y],[t,t']=>simp only [zw,zco]
   |[x,y],_::_::_::_=>rfl
   |_::_::_::_,_=>rfl
  ·rename_i t x lo hi;unfold X1;simp only [X0];cases hf:zsf (S.op x) with
   |false=>
    have he:yI P S ty (.slice t x lo hi none)=none:=by
     show Y7 P S t (S.op x) lo hi=none;revert hf;unfold Y7;cases S.op x <;> intro hf <;> first | (cases hf;done) | skip
     all_goals (split <;> first | rfl | simp_all)
    rw [G8,he];simp only;unfold zgR Yf;cases S.op x <;> first | rfl | skip
    simp only;rw [za2,ga];rfl
   |true=>
    rw [Uv,za2];have hn:Yf P S d ty t x lo hi=none:=by
     unfold Yf;cases hx:S.op x <;> rw [hx] at hf <;> first | (cases hf;done) | rfl
    grind
  ·rename_i t t' x;unfold X1;grind
  ·cases he:eff op with
   |true=>rfl
   |false=>
    rw [G8,za2,ztB he];cases yI P S ty op <;> rfl
def zf2 (P:Program) (S:St C) (d:Nat) (t:TypeId) (x y:Operand) (K:Out C->G3 ρ):G3 ρ:=match x with
 | .tmp tx=>(match S.env tx with
  | .nx id T i .whole=>wF S tx id T i (nid d 1) fun S1=>Vy P S1 d t x y K
  |_=>none)
 |_=>none
theorem zl1 {d:Nat}{t:TypeId}{x y:Operand}{K:Out C->G3 ρ}:zf2 P S d t x y K=(wG P S d t x y).bind K:=by
 unfold zf2 wG;cases x <;> first | rfl | skip
 rename_i tx;simp only;cases S.env tx <;> first | rfl | skip
 rename_i id T i nx;cases nx <;> first | rfl | skip
 simp only [zmu];congr 1;funext S1;exact zco
def zl2 (P:Program) (S:St C) (K:Out C->G3 ρ):KN->G3 ρ
 | .st t x y=>Xe P S t x y K
 | .apn d t t' x y=>chk (Nat.beq t t') (zf2 P S d t x y K)
 | .apo d t t' x y=>chk (Nat.beq t t') (Wf P S d t x y K)
 | .bl d t i m y=>chk (Nat.beq i 0 && Nat.beq m 1) (Xf P S d t y K)
theorem zqc {k:KN}{K:Out C->G3 ρ}:zl2 P S K k=(vY P S k).bind K:=by
 cases k <;> simp only [zl2,vY,zw]
 ·exact zjm
 ·rw [zl1]
 ·rw [zmv]
 ·rw [zjt]
def YM (q:Opts) (Γ:List (Spec C)) (P:Program) (n:Nat):yC C:=fun o S _ K=>match YU P S o.dst o.op with
 |some k=>chk (zse n o.dst) (zl2 P S K k)
 |none=>zsg q Γ P n o S _ K
theorem vq {q:Opts}{n:Nat}{o:Oper}{K:Out C->G3 ρ}:YM q Γ P n o S ρ K=(stp q Γ P n o S).bind K:=by
 unfold YM stp;cases YU P S o.dst o.op with
 |some k=>simp only [zw,zqc]
 |none=>exact zqb
theorem zi5 {q:Opts}{n:Nat}{o:Oper}{K:Out C->G3 ρ}:YM q Γ P n o S ρ K=(YM q Γ P n o S _ some).bind K:=by
 rw [vq,vq,ga];rfl
end
end
section
variable [Dfr]
section
variable {κ:Kp}{C:Cod}{S T:St C}{ν:Val}{vs:Nat->List Value}{ids:List Nat}{L:List (Nat×Value)}{b:Nat->Value}{Z:FS}{PV:List Priv}{P:Program}{ρ:Type}
variable {t t' ty:TypeId}{x y z:Operand}{d:Nat}{ps:String}{af:Array Edge}{g:G3 (Nat×Bool)}{A:AV C.D}{n:Nat}{w0:Start}{σ0:FS}{o:Oper}{D:Nat->Prop}
def zcp (P:Program) (S:St C) (t:TypeId) (m:Nat) (parts:List (Nat×Operand)):G3 (AV C.D):=match P.underlying t with
  |some (.slice e)=>(match P.info? e with
    |some ti=>(match ti.zero with
      |some zv=>chk (Nat.beq ti.size (C.size e) && (Nat.blt 0 (C.size e) && (Nat.ble (m * C.size e) 16777216 && (Nat.beq parts.length m && zc6 parts 0))))
          ((Yd S e (parts.map (·.2))).bind fun xs=>some (.sl e ⟨xs,true⟩ false))
      |none=>none)
    |none=>none)
  |_=>none
theorem zoG (h:AbsL κ S ν vs ids L b Z PV) (hn:Nat.blt d n=true) {parts:Array (Nat×Operand)}(hX:zcp P S t m parts.toList=some A):OpA κ P n w0 σ0 ⟨some d,.buildSlice t m parts,ty,ps,af,g⟩ (some (.go (S.put d A))) L b Z PV:=by
 unfold zcp at hX;split at hX
 ·rename_i e hu;split at hX
  ·rename_i ti hi;split at hX
   ·rename_i zv hz;obtain ⟨hc,hX2⟩:=zb hX;simp only [g9] at hc;obtain ⟨c1,c2,c3,c4,c5⟩:=hc;obtain ⟨xs,hxs,hX3⟩:=jy hX2;cases hX3;obtain ⟨r1,r2,r3⟩:=zch h hxs;have hlen:((parts.toList.map (·.2)).map (opv L b)).length=m:=by
     have:=jz c4;simpa using this
    intro out ho a w hinv hf K Q hK hP;cases ho;refine WR (ρ:=Unit) (p:=some ()) (H:=fun p' L' Z' PV'=>∃ v,L'=(d,v)::L/\Z'=Z/\PV'=Priv.row (zE C e).o e v ⟨xs,true⟩::PV) (T:=(zE C e).o) (vs:=(parts.toList.map (·.2)).map (opv L b)) (xs:=xs) [] PV hn hu hi hz (jz c1) c3 c2 (za0 c5) hlen (fun hh _=>⟨zc.none,zc.none_le _,Ty.rels_o.2 r1,by rw [Uy];exact r2,r3⟩) (fun v=>⟨v,rfl,rfl,rfl⟩) () rfl a w hinv hf K Q ?_;rintro p' L' Z' PV' a' w' hp' hi' hf' ⟨v,rfl,rfl,rfl⟩;obtain ⟨h1,hh,hsub,hle,hi2⟩:=hi'.freeze (m:=0) rfl;have hh:zo (zE C e).o e v ⟨xs,true⟩ Z' h1:=hh;refine hK _ rfl _ _ _ _ _ hi2 hf' ⟨ν,vs,ids,(h.le hle).put (A :=.sl e ⟨xs,true⟩ false) (Rv.of_vrel (hh.fast hle fun b o v e=>x7 b o v e)).vr trivial⟩
   ·cases hX
  ·cases hX
 ·cases hX
def rdQ:Op->Bool
 | .alloc _=>false
 | .box _ _=>false
 | .makeSlice _ _ _=>false
 | .call ⟨.value _,_,_⟩=>false
 | .call ⟨.builtin .append,_,_⟩=>false
 | .panic _=>false
 |_=>true
def evQ (P:Program) (S:St C) (ty:TypeId):Op->G3 (AV C.D)
 | .buildSlice t m parts=>zcp P S t m parts.toList
 |op=>yI P S ty op
def zqd (P:Program) (S:St C) (ty:TypeId) (op:Op) (K:AV C.D->G3 ρ):G3 ρ:=match op with
  | .buildSlice t m parts=>(match P.underlying t with
    |some (.slice e)=>(match P.info? e with
      |some ti=>(match ti.zero with
        |some zv=>chk (Nat.beq ti.size (C.size e) && (Nat.blt 0 (C.size e) && (Nat.ble (m * C.size e) 16777216 && (Nat.beq parts.toList.length m && zc6 parts.toList 0))))
            ((Yd S e (parts.toList.map (·.2))).bind fun xs=>K (.sl e ⟨xs,true⟩ false))
        |none=>none)
      |none=>none)
    |_=>none)
  |op=>zc7 P S ty op K
theorem ztC {op:Op}{K:AV C.D->G3 ρ}:zqd P S ty op K=(evQ P S ty op).bind K:=by
 unfold zqd evQ;split
 ·unfold zcp;cases P.underlying _ with
  |none=>rfl
  |some td=>
   cases td <;> first | rfl | skip
   simp only;cases P.info? _ with
   |none=>rfl
   |some ti=>
    simp only;cases ti.zero with
    |none=>rfl
    |some zv=>simp only [zw,ga,jf]
 ·exact za2
theorem zuI {q:Opts}{Γ:List (Spec C)}(h:AbsL κ S ν vs ids L b Z PV) (hn:Nat.blt d n=true) {op:Op}(hr:rdQ op=true) (he:evQ P S ty op=some A):OpA κ P n w0 σ0 ⟨some d,op,ty,ps,af,g⟩ (some (.go (S.put d A))) L b Z PV:=by
 unfold evQ at he;split at he
 ·exact zoG h hn he
 ·have:=zk0 (P:=P) (n:=n) (w0:=w0) (σ0:=σ0) (ps:=ps) (af:=af) (g:=g) h (op:=op) hn (ty:=ty);rw [he] at this;exact this
theorem zeT:∀ {l:List Operand},(∀ x∈l,S.op x=T.op x)->Yd S e l=Yd T e l
 |[],_=>rfl
 |x::r,h=>by
  unfold Yd;rw [h x (by simp),zeT fun y hy=>h y (by simp [hy])]
end
end
section
variable [Dfr]
section
variable {C:Cod}{S T:St C}{P:Program}
def AV.hid {D:Nat->Type}:AV D->List Nat
 | .row id=>[id]
 | .pc id _=>[id]
 | .pr id _ _ _=>[id]
 | .nx id _ _ _=>[id]
 |_=>[]
def zed (S:St C):Op->List Nat
 | .load _ x=>(S.op x).hid
 | .indexAddr _ x _=>(S.op x).hid
 | .binOp _ _ x _ _=>match S.op x with
  | .row id=>[id]
  | .nx id _ _ _=>[id]
  |_=>[]
 | .call ⟨.builtin .len,args,_⟩=>match args.toList with
  |[x]=>(S.op x).hid
  |_=>[]
 | .slice _ x _ _ _=>match S.op x with
  | .nx id _ _ _=>[id]
  |_=>[]
 |_=>[]
theorem wA {U:Nat}{i:Int}{K:(U:Nat)->Sl (C.D U)->G3 α}(h:S.heap id=T.heap id):zH S id U i K=zH T id U i K:=by
 unfold zH;rw [h]
theorem zoH {t:TypeId}{A:AV C.D}(h:∀ id∈A.hid,S.heap id=T.heap id):xF P S t A=xF P T t A:=by
 cases A <;> first | rfl | (simp only [xF];rw [h _ (by simp [AV.hid])]) | skip
 rename_i id U i x;cases x <;> first | rfl | (simp only [xF];rw [wA (h _ (by simp [AV.hid]))])
theorem zl3 {t:TypeId}{A B:AV C.D}(h:∀ id∈A.hid,S.heap id=T.heap id):Xp P S t A B=Xp P T t A B:=by
 unfold Xp;split
 ·split
  ·cases A <;> first | rfl | (cases B <;> first | rfl | (simp only;rw [h _ (by simp [AV.hid])])) | skip
   rename_i id U i x;cases x <;> cases B <;> first | rfl | (simp only;rw [wA (h _ (by simp [AV.hid]))])
  ·rfl
 ·rfl
 ·rfl
theorem zqe {t:TypeId}{A:AV C.D}(h:∀ id∈A.hid,S.heap id=T.heap id):wu P S t A=wu P T t A:=by
 unfold wu;cases P.underlying t with
 |none=>rfl
 |some td=>
  cases A <;> first | rfl | (cases td <;> first | rfl | (simp only;rw [h _ (by simp [AV.hid])])) | skip
  rename_i id U i x;cases x <;> cases td <;> first | rfl | (simp only;rw [wA (h _ (by simp [AV.hid]))])
theorem zeU {dflt:Int}{o:G3 Operand}(h:∀ x,o=some x->S.op x=T.op x):Zw S dflt o=Zw T dflt o:=by
 cases o with
 |none=>rfl
 |some x=>simp only [Zw];rw [h x rfl]
theorem zl4 {t:TypeId}{A:AV C.D}(h1:∀ x,lo=some x->S.op x=T.op x) (h2:∀ x,hi=some x->S.op x=T.op x) (h3:∀ id U i x,A = .nx id U i x->S.heap id=T.heap id):Y7 P S t A lo hi=Y7 P T t A lo hi:=by
 unfold Y7;have e1:=fun dflt=>zeU (S:=S) (T:=T) (dflt:=dflt) h1
 have e2:=fun dflt=>zeU (S:=S) (T:=T) (dflt:=dflt) h2
 simp only [e1,e2];split
 ·rfl
 ·rfl
 ·split
  ·exact wA (h3 _ _ _ _ rfl)
  ·rfl
 ·rfl
theorem zoI {l:List Operand}(h:∀ x∈l,S.op x=T.op x):l.map S.op=l.map T.op:=Ux h
theorem zl5 {t:TypeId}{parts:List (Nat×Operand)}(h:∀ q∈parts,S.op q.2=T.op q.2):w5 P S t parts=w5 P T t parts:=by
 unfold w5;have:parts.map (fun q=>(q.1,S.op q.2))=parts.map fun q=>(q.1,T.op q.2):=Ux fun q hq=>by rw [h q hq]
 rw [this]
theorem zk2 {ty:TypeId}{op:Op}(hop:∀ x∈op.operands.toList,S.op x=T.op x) (hh:∀ id∈zed S op,S.heap id=T.heap id):yI P S ty op=yI P T ty op:=by
 unfold yI;cases op
 case move x=>simp only;rw [hop x (by simp [Op.operands])]
 case assign x=>simp only;rw [hop x (by simp [Op.operands])]
 case pick c a e=>simp only;rw [hop c (by simp [Op.operands]),hop a (by simp [Op.operands]),hop e (by simp [Op.operands])]
 case nilCheck x=>simp only;rw [hop x (by simp [Op.operands])]
 case binOp bo t x y t'=>
  simp only;unfold xG;rw [<- hop x (by simp [Op.operands]),<- hop y (by simp [Op.operands])];cases yL y with
  |true=>rfl
  |false=>
  simp only [G8];unfold XJ;simp only [zed] at hh;split
  ·grind
  ·rename_i id U i e;rw [e] at hh;split
   ·exact wA (hh id (by simp))
   ·rfl
  ·rfl
 case unOp u t x=>cases u <;> first | rfl | (simp only;rw [hop x (by simp [Op.operands])])
 case convert t t' x=>simp only;rw [hop x (by simp [Op.operands])]
 case makeFunc f fs caps=>
  cases f <;> first | rfl | skip
  simp only;have hfs:=zoI (l:=fs.toList) fun x hx=>hop x (by simp [Op.operands];grind)
  unfold zap;generalize fs.toList=fl at hfs;rw [zoI (l:=caps.toList) fun x hx=>hop x (by simp [Op.operands];grind)];grind
 case makeInterface t x=>simp only;rw [hop x (by simp [Op.operands])]
 case extract x i=>simp only;rw [hop x (by simp [Op.operands])]
 case typeAssert x xt t ok=>simp only;rw [hop x (by simp [Op.operands])]
 case build t parts=>exact zl5 fun q hq=>hop q.2 (by simp [Op.operands];grind)
 case field t x m=>simp only;rw [hop x (by simp [Op.operands])]
 case fieldAddr t x m=>simp only;rw [hop x (by simp [Op.operands])]
 case indexAddr t x y=>
  simp only;rw [<- hop x (by simp [Op.operands]),<- hop y (by simp [Op.operands])];exact zl3 hh
 case load t x=>
  simp only;rw [<- hop x (by simp [Op.operands])];exact zoH hh
 case index t x y=>simp only;rw [hop x (by simp [Op.operands]),hop y (by simp [Op.operands])]
 case slice t x lo hi mx=>
  cases mx with
  |some m=>rfl
  |none=>
   simp only;rw [<- hop x (by simp [Op.operands])];simp only [zed] at hh;exact zl4 (fun y e=>hop y (by subst e;simp [Op.operands])) (fun y e=>hop y (by subst e;simp [Op.operands])) fun id U i x e=>by
    grind
 case call c=>
  obtain ⟨cal,args,ts⟩:=c;cases cal
  case value c=>rfl
  case invoke r m=>rfl
  case builtin bi=>
   have ha:∀ x∈args.toList,S.op x=T.op x:=fun x hx=>hop x (by simp [Op.operands,Call.operands];simpa using hx)
   cases bi <;> first | rfl | skip
   case len=>
    simp only;split
    ·rename_i x t e1 e2;rw [e1] at ha;rw [<- ha x (by simp)];refine zqe fun id hid=>hh id ?_
     simp only [zed,e1];exact hid
    ·rfl
   all_goals grind
 all_goals rfl
structure EqX (D:Nat->Prop) (S T:St C):Prop where
 heap:S.heap=T.heap
 env:∀ t,¬ D t->S.env t=T.env t
variable {D:Nat->Prop}
def zW (D:Nat->Prop):G3 (Out C)->G3 (Out C)->Prop
 |some (.go S),some (.go T)=>EqX D S T
 |some (.pan u S),some (.pan v T)=>u=v/\EqX D S T
 |none,none=>True
 |_,_=>False
omit [Dfr] in
theorem zW.go {S' T':St C}(h:EqX D S' T'):zW D (some (.go S')) (some (.go T')):=h
omit [Dfr] in
theorem zW.none:zW (C:=C) D none none:=trivial
omit [Dfr] in
theorem zW.chk {c:Bool}{x y:G3 (Out C)}(h:zW D x y):zW D (chk c x) (chk c y):=by
 cases c with
 |true=>exact h
 |false=>trivial
omit [Dfr] in
theorem zW.bind {x:G3 α}{f g:α->G3 (Out C)}(h:∀ a,zW D (f a) (g a)):zW D (x.bind f) (x.bind g):=by
 cases x with
 |none=>trivial
 |some a=>exact h a
omit [Dfr] in
theorem EqX.refl (S:St C):EqX D S S:=⟨rfl,fun _ _=>rfl⟩
omit [Dfr] in
theorem EqX.put (h:EqX D S T) (d:Nat) (A:AV C.D) {hp:Nat->G3 (Ent C)}:EqX D {env:=upd S.env d A,heap:=hp} {env:=upd T.env d A,heap:=hp}:=⟨rfl,fun t ht=>by
 show upd S.env d A t=upd T.env d A t;unfold upd;cases Nat.beq t d with
 |true=>rfl
 |false=>exact h.env t ht⟩
omit [Dfr] in
theorem EqX.sub (h:EqX D S T) (id:Nat) (R:AV C.D):EqX D (S.sub id R) (T.sub id R):=by
 refine ⟨?_,fun t ht=>?_⟩
 ·unfold St.sub;simp only;rw [h.heap]
 ·show AV.sub id R (S.env t)=AV.sub id R (T.env t);rw [h.env t ht]
omit [Dfr] in
theorem EqX.frz1 (h:EqX D S T) (id:Nat):EqX D (S.frz1 id) (T.frz1 id):=by
 unfold St.frz1;rw [h.heap];split
 ·exact h.sub _ _
 ·rename_i T0 s g _;cases g.rd with
  |true=>exact h.sub _ _
  |false=>exact h
 ·exact h
omit [Dfr] in
theorem EqX.frz:∀ (l:List Nat) {S T:St C},EqX D S T->EqX D (S.frz l) (T.frz l)
 |[],_,_,h=>h
 |id::r,_,_,h=>EqX.frz r (h.frz1 id)
omit [Dfr] in
theorem EqX.op (h:EqX D S T) {x:Operand}(hx:∀ t,x = .tmp t->¬ D t):S.op x=T.op x:=by
 cases x with
 |tmp t=>exact h.env t (hx t rfl)
 |const v=>rfl
 |global g=>rfl
 |func f=>rfl
def WJ (D:Nat->Prop) (l:List Operand):Prop:=∀ t,Operand.tmp t∈l->¬ D t
omit [Dfr] in
theorem EqX.ops (h:EqX D S T) {l:List Operand}(hl:WJ D l):∀ x∈l,S.op x=T.op x:=fun x hx=>h.op fun t e=>hl t (e ▸ hx)
theorem zk3 (h:EqX D S T) {d:Nat}{cs:List (AV C.D)}:zW D (zaX S d cs) (zaX T d cs):=by
 unfold zaX;rw [h.heap];exact .chk (h.put d _)
theorem zoJ (h:EqX D S T) {d:Nat}{t:TypeId}:zW D (xN P S d t) (xN P T d t):=by
 unfold xN;split
 ·split
  ·split
   ·unfold zot;rw [h.heap];exact .chk (h.put d _)
   ·exact zk3 h
  ·trivial
 ·trivial
theorem zgS:∀ {l:List Operand},(∀ x∈l,S.op x=T.op x)->Yd S e l=Yd T e l
 |[],_=>rfl
 |x::r,h=>by
  unfold Yd;rw [h x (by simp),zgS fun y hy=>h y (Uz _ hy)]
theorem zl6 (h:EqX D S T) {d:Nat}{t:TypeId}{parts:List (Nat×Operand)}(hp:WJ D (parts.map (·.2))):zW D (YL P S d t m parts) (YL P T d t m parts):=by
 unfold YL;have e:parts.map (fun q=>S.op q.2)=parts.map fun q=>T.op q.2:=Ux fun q hq=>h.ops hp _ (U0.2 ⟨q,hq,rfl⟩)
 rw [e];have h':=EqX.frz (AV.rowss (parts.map fun q=>T.op q.2)) h;generalize S.frz _=S' at h' |-
 generalize T.frz _=T' at h' |-
 unfold YL.go;have e2:=fun e=>zgS (e:=e) (h'.ops hp)
 simp only [h'.heap,e2];split
 ·split
  ·split
   ·exact .chk (.bind fun xs=>h'.put d _)
   ·trivial
  ·trivial
 ·trivial
theorem EqX.heap' (h:EqX D S T) {hp:Nat->G3 (Ent C)}:EqX D {S with heap:=hp} {T with heap:=hp}:=⟨rfl,h.env⟩
theorem zoK (h:EqX D S T) {t:TypeId}{x y:Operand}(hx:∀ t,x = .tmp t->¬ D t) (hy:∀ t,y = .tmp t->¬ D t):zW D (yo P S t x y) (yo P T t x y):=by
 unfold yo;have ex:=h.op hx;have ey:=h.op hy;rw [ex,ey,h.heap];split
 ·split
  ·exact .chk h.heap'
  ·trivial
 ·rename_i ti _ _ _ _ _ _;have h':=EqX.frz (AV.rows (T.op y)) h;have ex':=h'.op hx;have ey':=h'.op hy;generalize S.frz _=S' at h' ex' ey' |-
  generalize T.frz _=T' at h' ex' ey' |-
  unfold yo.go;rw [ex',ey',h'.heap];split
  ·split
   ·exact .chk (.bind fun q =>.bind fun q'=>h'.heap')
   ·trivial
  ·trivial
 ·trivial
theorem ztD (h:S.heap=T.heap) {A:AV C.D}:za1 S e A=za1 T e A:=by
 unfold za1;rw [h]
theorem EqX.subRow (h:EqX D S T) (d id T':Nat) (s':Sl (C.D T')):EqX D {env:=upd (S.sub id .und).env d (.row (nid d 0)),heap:=upd (S.sub id .und).heap (nid d 0) (some (.row T' s'))} {env:=upd (T.sub id .und).env d (.row (nid d 0)),heap:=upd (T.sub id .und).heap (nid d 0) (some (.row T' s'))}:=by
 have:=h.sub id .und;exact ⟨by show upd _ _ _=upd _ _ _;rw [this.heap],(this.put d _ (hp:=T.heap)).env⟩
theorem zeV (h:EqX D S T) {d:Nat}{t:TypeId}{x y:Operand}(hx:S.op x=T.op x) (hy:S.op y=T.op y):zW D (yJ P S d t x y) (yJ P T d t x y):=by
 unfold yJ;have e:=fun e A=>ztD (e:=e) (A:=A) h.heap
 simp only [hx,hy,h.heap,e];split
 ·split
  ·split
   ·refine .chk ?_;split
    ·split
     ·exact .chk (.bind fun ts =>.bind fun s'=>EqX.subRow h _ _ _ _)
     ·trivial
    ·exact .bind fun ts =>.bind fun s'=>h.put d _
    ·trivial
   ·trivial
  ·trivial
 ·trivial
end
end
section
variable [Dfr]
section
variable {C:Cod}{S T:St C}{P:Program}{D:Nat->Prop}
omit [Dfr] in
theorem EqX.owk (h:EqX D S T) (id:Nat) (e:Ent C):EqX D (S.owk id e) (T.owk id e):=by
 refine ⟨?_,fun t ht=>?_⟩
 ·unfold St.owk;simp only;rw [h.heap]
 ·show AV.knx _ (S.env t)=AV.knx _ (T.env t);rw [h.env t ht]
theorem EqX.newE (h:EqX D S T) (d i:Nat) (A:AV C.D) (e:G3 (Ent C)):EqX D {env:=upd S.env d A,heap:=upd S.heap i e} {env:=upd T.env d A,heap:=upd T.heap i e}:=by
 rw [h.heap];exact h.put d A
theorem zk4 (h:EqX D S T) {s:Sl (C.D T0)}{g:Own}{i:Int}{cells:List (AV C.D)}:zW D (XU S id T0 s g i off cells some) (XU T id T0 s g i off cells some):=by
 unfold XU;simp only [Wz];split
 ·rw [h.heap];split
  ·exact .chk (.bind fun q =>.bind fun g' =>.bind fun q'=>(h.sub _ _).owk _ _)
  ·trivial
 ·refine .bind fun q=>?_
  split
  ·exact .bind fun g' =>.bind fun q'=>h.owk _ _
  ·trivial
 ·trivial
theorem ztE {y:Operand}{N:Nat}(hy:S.op y=T.op y):vV S ti y off N=vV T ti y off N:=by unfold vV;rw [hy]
theorem zl7 (h:EqX D S T) {t:TypeId}{x y:Operand}(hx:S.op x=T.op x) (hy:S.op y=T.op y):zW D (xu P S t x y) (xu P T t x y):=by
 have e1:=fun ti off N=>ztE (S:=S) (T:=T) (ti:=ti) (y:=y) (off:=off) (N:=N) hy
 unfold xu Xe;rw [hx,hy,h.heap];simp only [e1];split
 ·split
  ·refine .chk ?_;cases xI _ _ _ with
   |true=>exact zk4 h
   |false=>exact .bind fun q =>.bind fun q'=>⟨rfl,h.env⟩
  ·exact .chk (zk4 h)
  ·trivial
 ·split
  ·refine .chk (.bind fun q=>?_);split
   ·exact .chk (.bind fun y0 =>.bind fun y1 =>.bind fun q'=>⟨rfl,h.env⟩)
   ·trivial
  ·trivial
 ·trivial
theorem ztF (h:EqX D S T) {tx:Nat}{i:Int}{gid:Nat}{K K':St C->G3 (Out C)}(hK:∀ S1 T1,EqX D S1 T1->(∀ z,(∀ t,z = .tmp t->t=tx\/¬ D t)->S1.op z=T1.op z)->zW D (K S1) (K' T1)):zW D (wF S tx id T0 i gid K) (wF T tx id T0 i gid K'):=by
 unfold wF;rw [h.heap];split
 ·refine .chk (.bind fun q=>?_);split
  ·refine hK _ _ (h.put tx _) fun z hz=>?_
   cases z with
   |tmp t=>
    show upd S.env tx _ t=upd T.env tx _ t;unfold upd;cases e:Nat.beq t tx with
    |true=>rfl
    |false=>
     simp only [G8];rcases hz t rfl with z | z
     ·subst z;simp at e
     ·exact h.env t z
   |const v=>rfl
   |global g=>rfl
   |func f=>rfl
  ·trivial
 ·trivial
theorem zqf (h:EqX D S T) {d:Nat}{t:TypeId}{x y:Operand}(hx:∀ t,x = .tmp t->¬ D t) (hy:∀ t,y = .tmp t->¬ D t):zW D (wG P S d t x y) (wG P T d t x y):=by
 unfold wG;cases x with
 |tmp tx=>
  simp only;rw [h.env tx (hx tx rfl)];split
  ·exact ztF h fun S1 T1 h1 hz=>zeV h1 (hz _ fun t e =>.inr (hx t e)) (hz _ fun t e =>.inr (hy t e))
  ·trivial
 |const v=>trivial
 |global g=>trivial
 |func f=>trivial
theorem zqg (h:EqX D S T) {d:Nat}{t:TypeId}{x y:Operand}(hx:S.op x=T.op x) (hy:S.op y=T.op y):zW D (wH P S d t x y) (wH P T d t x y):=by
 have hs:=fun id id2 (e:G3 (Ent C))=>((h.sub id .und).sub id2 .und).newE d (nid d 0) (.row (nid d 0)) e
 have hs2:=fun id2 (e:G3 (Ent C))=>(h.sub id2 .und).newE d (nid d 0) (.row (nid d 0)) e
 unfold wH Wf;rw [hx,hy];rw [show isNone (S.heap (nid d 0))=isNone (T.heap (nid d 0)) by rw [h.heap]];split
 ·split
  ·split
   ·refine .chk ?_;split
    ·rw [h.heap];split
     ·split
      ·split
       ·exact .chk (.bind fun ts =>.bind fun s'=>hs _ _ _)
       ·trivial
      ·exact .bind fun ts =>.bind fun s'=>hs2 _ _
      ·trivial
     ·trivial
    ·trivial
   ·trivial
  ·trivial
 ·trivial
theorem zl8 (h:EqX D S T) {d:Nat}{t:TypeId}{y:Operand}(hy:S.op y=T.op y):zW D (xw P S d t y) (xw P T d t y):=by
 have hs2:=fun id2 (e:G3 (Ent C))=>(h.sub id2 .und).newE d (nid d 0) (.row (nid d 0)) e
 unfold xw Xf;rw [hy];rw [show isNone (S.heap (nid d 0))=isNone (T.heap (nid d 0)) by rw [h.heap]];split
 ·split
  ·split
   ·refine .chk ?_;split
    ·rw [show ∀ i,S.heap i=T.heap i from fun i=>by rw [h.heap]];split
     ·exact .bind fun q=>hs2 _ _
     ·trivial
    ·trivial
   ·trivial
  ·trivial
 ·trivial
theorem ztG (h:S.heap=T.heap) {x y:Operand}(hx:S.op x=T.op x) (hy:S.op y=T.op y):zeo S x y=zeo T x y:=by unfold zeo;rw [h,hx,hy]
theorem ztH {x:Operand}(hx:S.op x=T.op x):zen S x=zen T x:=by unfold zen;rw [hx]
theorem zuJ (h:S.heap=T.heap) {x:Operand}(hx:S.op x=T.op x):isO S x=isO T x:=by unfold isO;rw [h,hx]
theorem ztI (h:EqX D S T) {op:Op}(hf:WJ D op.operands.toList):YU P S dst op=YU P T dst op/\∀ k,YU P T dst op=some k->zW D (vY P S k) (vY P T k):=by
 have hop:=h.ops hf;unfold YU;split
 ·rename_i t x y;have hx:=hop x (by simp [Op.operands]);have hy:=hop y (by simp [Op.operands]);rw [ztG h.heap hx hy];refine ⟨rfl,fun k hk=>?_⟩;cases hc:zeo T x y with
  |false=>grind
  |true=>rw [hc] at hk;cases hk;exact zl7 h hx hy
 ·rename_i d args ts;split
  ·rename_i x y t t' e1 e2;have mx:x∈(Op.operands (.call ⟨.builtin .append,args,ts⟩)).toList:=by simp [Op.operands,Call.operands];rw [<- Array.mem_toList_iff,e1];simp
   have my:y∈(Op.operands (.call ⟨.builtin .append,args,ts⟩)).toList:=by simp [Op.operands,Call.operands];rw [<- Array.mem_toList_iff,e1];simp
   have hx:=hop x mx;have hy:=hop y my;rw [ztH hx,zuJ h.heap hy];refine ⟨rfl,fun k hk=>?_⟩;cases hc:zen T x with
   |true=>
    rw [hc] at hk;cases hk;exact .chk (zqf h (fun t e=>hf t (e ▸ mx)) (fun t e=>hf t (e ▸ my)))
   |false=>
    rw [hc,G8] at hk;cases hc2:isO T y with
    |true=>rw [hc2] at hk;cases hk;exact .chk (zqg h hx hy)
    |false=>grind
  grind
 ·rename_i d t m parts;split
  ·rename_i i y e1;have hy:=hop y (by simp [Op.operands];exact ⟨i,by rw [<- Array.mem_toList_iff,e1];simp⟩);rw [hy];refine ⟨rfl,fun k hk=>?_⟩;cases hc:(C.own (we P t) && zcE (zq (T.op y)) (C.nst (we P t))) with
   |true=>rw [hc] at hk;cases hk;exact .chk (zl8 h hy)
   |false=>grind
  grind
 grind
end
end
section
variable [Dfr]
section
variable {C:Cod}{S T:St C}{P:Program}{D:Nat->Prop}
def WK (D:Nat->Prop) (ts:List (Nat×Sh)):Prop:=∀ q∈ts,¬ D q.1
theorem zsh (h:EqX D S T):∀ {ts:List (Nat×Sh)},WK D ts->fzT S ts=fzT T ts
 |[],_=>rfl
 |(t,s)::ts,hf=>by
  unfold fzT;rw [h.env t (hf (t,s) (by simp)),zsh h fun q hq=>hf q (Uz _ hq)]
theorem ztJ {t:Nat}{p:Nat}(h:EqX D S T) (ht:¬ D t):EqX D (nilA1 es t s p S) (nilA1 es t s p T):=by
 unfold nilA1;rw [h.env t ht,h.heap];split
 ·split
  ·cases isNone (T.heap _) with
   |true=>exact h.put t _
   |false=>exact h
  ·exact h
 ·exact h
theorem zoL {t:Nat}(ht:¬ D t):∀ (l:List Sh) (p:Nat) {S T:St C},EqX D S T->EqX D (nilA es t l p S) (nilA es t l p T)
 |[],_,S,T,h=>h
 |s::l,p,S,T,h=>zoL ht l _ (ztJ h ht)
theorem zav:∀ (ts:List (Nat×Sh)) {S T:St C},EqX D S T->WK D ts->EqX D (nilT es ts S) (nilT es ts T)
 |[],S,T,h,_=>h
 |(t,s)::ts,S,T,h,hf=>by
  unfold nilT;rw [h.env t (hf (t,s) (by simp)),h.heap];have hf':WK D ts:=fun q hq=>hf q (Uz _ hq)
  split
  ·split
   ·cases isNone (T.heap _) with
    |true=>exact zav ts (h.put t _) hf'
    |false=>exact zav ts h hf'
   ·exact zav ts h hf'
  ·exact zav ts (zoL (hf _ (List.mem_cons_self ..)) _ 0 h) hf'
  ·exact zav ts h hf'
theorem zee (h:S.heap=T.heap) :WL S bl=WL T bl:=by
 funext k;unfold WL;rw [h]
theorem zk5 (h:EqX D S T):∀ {ts:List (Nat×Sh)}{bl:Bl},WK D ts->ze6 S ts bl=ze6 T ts bl
 |[],bl,_=>rfl
 |(t,s)::ts,bl,hf=>by
  unfold ze6;rw [h.env t (hf (t,s) (by simp)),zk5 h fun q hq=>hf q (Uz _ hq)]
theorem zk6 (h:S.heap=T.heap):∀ {es:List ESh}{k:Nat}{bl:Bl},ze7 S es k bl=ze7 T es k bl
 |[],k,bl=>rfl
 |e::es,k,bl=>by
  unfold ze7;rw [zee h,zk6 h]
theorem Vz (h:EqX D S T) {g:Sig}(hf:WK D g.ts):Zu g m S=Zu g m T:=by
 unfold Zu;rw [zk5 h hf,zk6 h.heap]
theorem zsi (h:S.heap=T.heap) :∀ {es:List ESh}{k:Nat},fzE S bl es k=fzE T bl es k
 |[],k=>rfl
 |e::es,k=>by
  unfold fzE;rw [zee h,zsi h]
theorem zuK (h:EqX D S T) {p:Nat}:EqX D (nil1 es id s p S) (nil1 es id s p T):=by
 unfold nil1;rw [h.heap];split
 ·split
  ·cases isNone (T.heap _) with
   |true=>exact h.heap'
   |false=>exact h
  ·exact h
 ·exact h
theorem zoM:∀ (l:List Sh) (p:Nat) {S T:St C},EqX D S T->EqX D (nilC es id l p S) (nilC es id l p T)
 |[],p,S,T,h=>h
 |s::l,p,S,T,h=>zoM l _ (zuK h)
theorem zoN {all:List ESh}:∀ (es:List ESh) (k:Nat) {S T:St C},EqX D S T->EqX D (nilE all bl es k S) (nilE all bl es k T)
 |[],k,S,T,h=>h
 |e::es,k,S,T,h=>by
  refine zoN es _ ?_;unfold ze9;split
  ·exact zoM _ 0 h
  ·exact h
theorem zoO (h:EqX D S T) {g:Sig}(hf:WK D g.ts):EqX D (g.prep m S) (g.prep m T):=by
 unfold Sig.prep;rw [zsh h hf];have h':=zav (es:=g.es) g.ts (EqX.frz (fzT T g.ts) h) hf;generalize nilT g.es g.ts (S.frz _)=S' at h' |-
 generalize nilT g.es g.ts (T.frz _)=T' at h' |-
 simp only;rw [Vz h' hf];have h2:=zoN (all:=g.es) (bl:=Zu g m T') g.es 0 h';generalize nilE g.es _ g.es 0 S'=S2 at h2 |-
 generalize nilE g.es _ g.es 0 T'=T2 at h2 |-
 rw [Vz h2 hf,zsi h2.heap];exact EqX.frz _ h2
theorem zoP (h:S.heap=T.heap) :∀ {es:List ESh}{k:Nat},zel S m es k=zel T m es k
 |[],_=>rfl
 |e::es,k=>by unfold zel;rw [h,zoP h]
theorem zi6 (h:EqX D S T) {g:Sig}(hf:WK D g.ts):YC g m S bl=YC g m T bl:=by
 unfold YC;rw [zoP h.heap,zee h.heap,show g.ts.map (fun t=>S.env t.1)=g.ts.map fun t=>T.env t.1 from Ux fun q hq=>h.env _ (hf q hq)]
theorem zoQ (h:EqX D S T) (As:List (AV C.D)):EqX D (virt S As) (virt T As):=⟨h.heap,fun t ht=>by
 show (bif Nat.blt t vB then S.env t else _)=(bif Nat.blt t vB then T.env t else _)
 rw [h.env t ht]⟩
theorem zi7 (h:EqX D S T):EqX D (unvirt S) (unvirt T):=⟨h.heap,fun t ht=>by
 show (bif Nat.blt t vB then S.env t else _)=(bif Nat.blt t vB then T.env t else _)
 rw [h.env t ht]⟩
theorem zk7 (h:EqX D S T):EqX (fun t=>D (vB+t)) (YT S) (YT T):=⟨h.heap,fun t ht=>h.env _ ht⟩
theorem zeW (hD:∀ t,D t->t < vB) {g:Sig}:WK D g.shift.ts:=fun q hq=>by
 obtain ⟨p,hp,rfl⟩:=U0.1 hq;grind
def zhu (D:Nat->Prop) :G3 (St C×Bl×ins.ty C)->G3 (St C×Bl×ins.ty C)->Prop
 |some (S,bl,x),some (T,bl',x')=>EqX D S T/\bl=bl'/\x=x'
 |none,none=>True
 |_,_=>False
theorem zoR (hp0:EqX D S T) (hD:∀ t,D t->t < vB) {N:Nat}:zhu D (Yq ins S N) (Yq ins T N):=by
 unfold Yq;have hf:=zeW hD (g:=ins);have hp:=zoO hp0 (g:=ins.shift) (m:=0) hf;have hb:=Vz hp (g:=ins.shift) (m:=0) hf;have hg:∀ bl,YC ins 0 (YT (ins.shift.prep 0 S)) bl=YC ins 0 (YT (ins.shift.prep 0 T)) bl:=fun bl=>zi6 (zk7 hp) fun q hq hd=>by
  grind
 simp only [hb,hg];cases Nat.beq N ins.ts.length && Nat.ble ins.es.length 64 with
 |false=>trivial
 |true=>
  show zhu D (Option.map _ _) (Option.map _ _);cases YC ins 0 (YT (ins.shift.prep 0 T)) (Zu ins.shift 0 (ins.shift.prep 0 T)) with
  |none=>trivial
  |some x=>exact ⟨hp,rfl,rfl⟩
theorem zqh (h:EqX D S T) (hD:∀ t,D t->t < vB) {As:List (AV C.D)}:zhu D (YA ins S As) (YA ins T As):=by
 unfold YA;have hv:=zoQ h As;have hf:=zeW hD (g:=ins);have hp:=zoO hv (g:=ins.shift) (m:=0) hf;have hb:=Vz hp (g:=ins.shift) (m:=0) hf;have hg:∀ bl,YC ins 0 (YT (ins.shift.prep 0 (virt S As))) bl=YC ins 0 (YT (ins.shift.prep 0 (virt T As))) bl:=fun bl=>zi6 (zk7 hp) fun q hq hd=>by
  grind
 simp only [hb,hg];cases Nat.beq As.length ins.ts.length && Nat.ble ins.es.length 64 with
 |false=>trivial
 |true=>
  show zhu D (Option.map _ _) (Option.map _ _);cases YC ins 0 (YT (ins.shift.prep 0 (virt T As))) (Zu ins.shift 0 (ins.shift.prep 0 (virt T As))) with
  |none=>trivial
  |some x=>exact ⟨hp,rfl,rfl⟩
theorem zgT (h:EqX D S T) {Sr:St C}{d:Nat}:EqX D (Zt S Sr d bl es) (Zt T Sr d bl es):=by
 refine ⟨?_,fun t ht=>?_⟩
 ·unfold Zt;simp only;rw [h.heap]
 ·show AV.kill _ (AV.knx _ (S.env t))=AV.kill _ (AV.knx _ (T.env t));rw [h.env t ht]
theorem zef (h:S.heap=T.heap) {Sr:St C}{d:Nat}:∀ {k:Nat},vM S Sr d bl k=vM T Sr d bl k
 |0=>rfl
 |k+1=>by unfold vM;rw [h,zef h]
theorem zcq {outs:List (XK×Sig)}{r:zi C outs}{f g:XE C->St C->G3 (Out C)}(h:∀ e Sr,zW D (f e Sr) (g e Sr)):zW D (zQ outs r f) (zQ outs r g):=by
 have hf:zQ outs r (fun _ _=>True):=by
  revert r
  induction outs with
  |nil=>intro r;exact r.elim
  |cons o l ih=>
   have one:∀ y:XK.ty C o.1 o.2,yQ o.1 o.2 y (fun _ _=>True):=fun y=>by
    obtain ⟨k,g⟩:=o;cases k <;> trivial
   cases l with
   |nil=>intro r;exact one r
   |cons o2 l=>
    intro r;cases r with
    |inl a=>exact one a
    |inr y=>exact ih (r:=y)
 revert r
 induction outs with
 |nil=>intro r;exact r.elim
 |cons o l ih=>
  have one:∀ y:XK.ty C o.1 o.2,zW D (yQ o.1 o.2 y f) (yQ o.1 o.2 y g):=fun y=>by
   obtain ⟨k,sg⟩:=o;cases k <;> exact h _ _
  cases l with
  |nil=>intro r _;exact one r
  |cons o2 l=>
   intro r hr;cases r with
   |inl a=>exact one a
   |inr y=>exact ih (r:=y) hr
theorem zoS (h:EqX D S T) {s:Spec C}{d:Nat}{x:s.ins.ty C}:zW D (xb s d S bl x) (xb s d T bl x):=by
 unfold xb;refine .bind fun r =>.chk (zcq fun e Sr=>?_)
 unfold wy;rw [zef h.heap];refine .chk ?_;have hm:=zi7 (zgT h (Sr:=Sr) (d:=d) (bl:=bl) (es:=ye s.outs r));cases e with
 |ret=>exact ⟨hm.heap,(hm.put d _ (hp:=fun _=>none)).env⟩
 |pan A=>exact ⟨rfl,hm⟩
 |normal=>trivial
 |exit i=>trivial
theorem zgU (h:EqX D S T) {s:Spec C}{d:Nat}{x:s.ins.ty C}:zW D (yv s d S x) (yv s d T x):=by
 unfold yv;refine .bind fun r=>zcq fun e Sr =>.chk ?_
 unfold wy;rw [zef h.heap];refine .chk ?_;have hm:=zi7 (zgT h (Sr:=Sr) (d:=d) (bl:=[]) (es:=ye s.outs r));cases e with
 |ret=>exact ⟨hm.heap,(hm.put d _ (hp:=fun _=>none)).env⟩
 |pan A=>exact ⟨rfl,hm⟩
 |normal=>trivial
 |exit i=>trivial
theorem zgV (h:EqX D S T) {s:Spec C}{d:Nat}{x:s.ins.ty C}:zW D (yF s d S x) (yF s d T x):=by
 unfold yF;refine .chk (.bind fun r=>zcq fun e Sr=>?_);unfold zau;cases e with
 |ret=>exact .chk ⟨h.heap,(h.put d _ (hp:=fun _=>none)).env⟩
 |pan A=>exact .chk ⟨rfl,h⟩
 |normal=>trivial
 |exit i=>trivial
theorem zl9 (h:S.heap=T.heap) {i:Int}{K:(U:Nat)->Sl (C.D U)->G3 α}:zH S id T0 i K=zH T id T0 i K:=by
 unfold zH;rw [h]
omit [Dfr] in
mutual
theorem zuL (h:S.heap=T.heap):∀ {A:AV C.D}{K:AV C.D->G3 α},WV S A K=WV T A K
 | .nx id T i .whole,K=>zl9 h
 | .agg cs,K=>zf3 h (As:=cs)
 | .nx _ _ _ (.part _ _ _),K=>rfl
 | .nx _ _ _ (.elem _ _ _),K=>rfl
 | .int _ _,K=>rfl
 | .bool _,K=>rfl
 | .str _,K=>rfl
 | .tup _,K=>rfl
 | .sl _ _ _,K=>rfl
 | .row _,K=>rfl
 | .pc _ _,K=>rfl
 | .pr _ _ _ _,K=>rfl
 | .pz _ _ _,K=>rfl
 | .pnil,K=>rfl
 | .nils,K=>rfl
 | .clo _ _,K=>rfl
 | .nilf,K=>rfl
 | .ifc _ _,K=>rfl
 | .nili,K=>rfl
 | .und,K=>rfl
theorem zf3 (h:S.heap=T.heap):∀ {As:List (AV C.D)}{K:List (AV C.D)->G3 α},wz S As K=wz T As K
 |[],K=>rfl
 |A::As,K=>by
  show WV S A _=WV T A _;rw [zuL h (A:=A)];congr 1;funext B;exact zf3 h (As:=As)
end
omit [Dfr] in
mutual
theorem zuM:∀ {A:AV C.D}{f g:AV C.D->G3 (Out C)},(∀ B,zW D (f B) (g B))->zW D (WV T A f) (WV T A g)
 | .nx id T0 i .whole,f,g,h=>by
  show zW D (zH T id T0 i _) (zH T id T0 i _);unfold zH;split
  ·refine .chk (.bind fun q=>?_);split
   ·exact h _
   ·trivial
  ·trivial
 | .agg cs,f,g,h=>zf4 (As:=cs) fun Bs=>h _
 | .nx _ _ _ (.part _ _ _),f,g,h=>h _
 | .nx _ _ _ (.elem _ _ _),f,g,h=>h _
 | .int _ _,f,g,h=>h _
 | .bool _,f,g,h=>h _
 | .str _,f,g,h=>h _
 | .tup _,f,g,h=>h _
 | .sl _ _ _,f,g,h=>h _
 | .row _,f,g,h=>h _
 | .pc _ _,f,g,h=>h _
 | .pr _ _ _ _,f,g,h=>h _
 | .pz _ _ _,f,g,h=>h _
 | .pnil,f,g,h=>h _
 | .nils,f,g,h=>h _
 | .clo _ _,f,g,h=>h _
 | .nilf,f,g,h=>h _
 | .ifc _ _,f,g,h=>h _
 | .nili,f,g,h=>h _
 | .und,f,g,h=>h _
theorem zf4:∀ {As:List (AV C.D)}{f g:List (AV C.D)->G3 (Out C)},(∀ Bs,zW D (f Bs) (g Bs))->zW D (wz T As f) (wz T As g)
 |[],f,g,h=>h _
 |A::As,f,g,h=>zuM (A:=A) fun B=>zf4 (As:=As) fun Bs=>h _
end
theorem ztK (h:EqX D S T) (hD:∀ t,D t->t < vB) (As Bs:List (AV C.D)):EqX D (zeP S As Bs) (zeP T As Bs):=by
 have h1:=EqX.frz (AV.nxss As) (zoQ h As);refine ⟨h1.heap,fun t ht=>?_⟩;show (bif Nat.blt t vB then _ else match zab As Bs (t - vB) with | some B=>B | none=>_)=(bif Nat.blt t vB then _ else match zab As Bs (t - vB) with | some B=>B | none=>_);rw [h1.env t ht]
theorem zf5 (hD:∀ t,D t->t < vB):∀ {ts:List (Nat×Sh)}{S T:St C}{f g:St C->G3 (Out C)},EqX D S T->(∀ S1 T1,EqX D S1 T1->zW D (f S1) (g T1))->zW D (XS ts S f) (XS ts T g)
 |[],S,T,f,g,h,k=>k _ _ h
 |(t,s)::ts,S,T,f,g,h,k=>by
  unfold XS;have hn:¬ D (vB+t):=fun hd=>by grind
  have hc:∀ id,Xb S id=Xb T id:=fun id=>by unfold Xb;rw [h.heap]
  rw [h.env _ hn];split
  ·rename_i T0 o id off _;rw [hc];have h1:=EqX.frz (Xb T id) h;rw [h1.heap];split
   ·refine .bind fun q=>zf5 hD ?_ k
    have h2:=h1.sub id .und;rw [h2.heap];exact h2.put (vB+t) _
   ·trivial
  ·exact zf5 hD h k
theorem zgW (h:EqX D S T) (hD:∀ t,D t->t < vB) {d:Nat}{As:List (AV C.D)}:∀ {Γ:List (Spec C)},zW D (xc Γ S d f As) (xc Γ T d f As)
 |[]=>trivial
 |s::Γ=>by
  unfold xc;cases (Nat.beq s.f f && (s.view || s.viewO)) with
  |false=>exact zgW h hD
  |true=>
   simp only [Uv];rw [zf3 h.heap];refine zf4 fun Bs =>.chk (zf5 hD (ztK h hD As Bs) fun S1 T1 h1=>?_)
   have hl:=zoR h1 hD (ins:=s.ins) (N:=As.length);generalize Yq s.ins S1 As.length=a at hl;generalize Yq s.ins T1 As.length=b at hl
   match a,b,hl with
   |none,none,_=>trivial
   |some (S2,bl,x),some (T2,_,_),⟨h2,rfl,rfl⟩=>
    show zW D (bif s.view then yF s d S x else yv s d S x) (bif s.view then yF s d T x else yv s d T x);cases s.view with
    |true=>exact zgV h
    |false=>exact zgU h
theorem zcr (h:EqX D S T) (hD:∀ t,D t->t < vB) {Γ0:List (Spec C)}{d:Nat}{As:List (AV C.D)}:∀ {Γ:List (Spec C)},zW D (Yr Γ0 Γ S d f As) (Yr Γ0 Γ T d f As)
 |[]=>zgW h hD
 |s::Γ=>by
  unfold Yr;cases Nat.beq s.f f with
  |false=>exact zcr h hD
  |true=>
   simp only [Uv];have hl:=zqh h hD (ins:=s.ins) (As:=As);generalize YA s.ins S As=a at hl;generalize YA s.ins T As=b at hl
   match a,b,hl with
   |none,none,_=>exact zcr h hD
   |some (S2,bl,x),some (T2,_,_),⟨h2,rfl,rfl⟩=>
    show zW D (bif s.view then yF s d S x else bif s.viewO then yv s d S x else xb s d S2 bl x) (bif s.view then yF s d T x else bif s.viewO then yv s d T x else xb s d T2 bl x);cases s.view with
    |true=>exact zgV h
    |false=>
     cases s.viewO with
     |true=>exact zgU h
     |false=>exact zoS h2
theorem zqi (h:EqX D S T) (hD:∀ t,D t->t < vB) {d:Nat}{As:List (AV C.D)}{Γ:List (Spec C)}:zW D (vN Γ S d f As) (vN Γ T d f As):=zcr h hD
theorem zi8 (h:EqX D S T) {ty:TypeId}{op:Op}(hf:WJ D op.operands.toList):yI P S ty op=yI P T ty op:=zk2 (h.ops hf) fun id _=>by rw [h.heap]
omit [Dfr] in
theorem zW.map {x:G3 (AV C.D)}{d:Nat}(h:EqX D S T):zW D (x.map fun A =>.go (S.put d A)) (x.map fun A =>.go (T.put d A)):=by
 cases x with
 |none=>trivial
 |some A=>exact ⟨h.heap,(h.put d A (hp:=fun _=>Option.none)).env⟩
theorem zgX (h:EqX D S T) {x:Operand}(hx:S.op x=T.op x):zW D (xO S x) (xO T x):=by
 unfold xO;rw [hx];split
 ·exact .chk ⟨rfl,h⟩
 ·trivial
theorem zma (h:EqX D S T) {d:Nat}{ty t:TypeId}{x:Operand}(hx:S.op x=T.op x) (hf:WJ D (Op.slice t x lo hi none).operands.toList):zW D (Yf P S d ty t x lo hi) (Yf P T d ty t x lo hi):=by
 unfold Yf;rw [hx];split
 ·rename_i id e;have h1:=EqX.frz1 h id;rw [zi8 h1 hf];exact .bind fun A=>⟨h1.heap,(h1.put d A (hp:=fun _=>none)).env⟩
 ·trivial
theorem zmb (h:EqX D S T) {q:Opts}{d:Nat}{ty t:TypeId}{x:Operand}{mx:G3 Operand}(hf:WJ D (Op.slice t x lo hi mx).operands.toList):zW D (X0 q P S d ty t x lo hi mx) (X0 q P T d ty t x lo hi mx):=by
 have hop:=h.ops hf;have hx:S.op x=T.op x:=hop x (by simp [Op.operands]);unfold X0;split
 ·exact zma h hx hf
 ·trivial
theorem zkF (h:EqX D S T) {d:Nat}{t:TypeId}:zW D (x9 S d t) (x9 T d t):=by
 unfold x9;rw [h.heap];split
 ·exact .chk (h.put d _)
 ·split
  ·exact .chk (h.put d _)
  ·trivial
theorem zqj (h:EqX D S T) {d:Nat}{t:TypeId}{x y:Operand}(hx:S.op x=T.op x) (hy:S.op y=T.op y):zW D (vL P S d t x y) (vL P T d t x y):=by
 unfold vL;rw [hx,hy,h.heap];split
 ·split
  ·split
   ·split
    ·exact .chk ⟨h.heap,(h.put d _ (hp:=fun _=>none)).env⟩
    ·trivial
   ·trivial
  ·split
   ·split
    ·exact .chk ⟨h.heap,(h.put d _ (hp:=fun _=>none)).env⟩
    ·trivial
   ·trivial
  ·trivial
 ·trivial
theorem zmc (h:EqX D S T) {t:TypeId}{x y z:Operand}(hx:S.op x=T.op x) (hy:S.op y=T.op y) (hz:S.op z=T.op z):zW D (XZ P S t x y z) (XZ P T t x y z):=by
 unfold XZ;rw [hx,hy,hz,h.heap];split
 ·split
  ·split
   ·split
    ·exact .chk ⟨rfl,h.env⟩
    ·trivial
   ·trivial
  ·split
   ·split
    ·exact .chk ⟨rfl,h.env⟩
    ·trivial
   ·trivial
  ·trivial
 ·trivial
theorem zuN {q:Opts}{Γ:List (Spec C)}{n:Nat}{o:Oper}(h:EqX D S T) (hD:∀ t,D t->t < vB) (hf:WJ D o.op.operands.toList):zW D (vO q Γ P n o S) (vO q Γ P n o T):=by
 obtain ⟨dst,op,ty,ps,af,g⟩:=o;have hop:=h.ops hf;simp only at hf hop;unfold vO;cases dst with
 |none=>
  simp only;split
  ·rename_i t x y;exact zoK h (fun t e=>hf t (by simp [Op.operands,e])) (fun t e=>hf t (by simp [Op.operands,e]))
  ·rename_i t x y z;exact zmc h (hop x (by simp [Op.operands])) (hop y (by simp [Op.operands])) (hop z (by simp [Op.operands]))
  ·rename_i x;exact zgX h (hop x (by simp [Op.operands]))
  ·trivial
 |some d=>
  simp only;refine .chk ?_;have rd:∀ op',op'=op->zW D ((yI P S ty op').map fun A =>.go (S.put d A)) ((yI P T ty op').map fun A =>.go (T.put d A)):=fun op' e=>by
   subst e;rw [zi8 h hf];exact .map h
  unfold X1;split
  ·exact zoJ h
  ·rename_i t x;rw [hop x (by simp [Op.operands])];refine .chk ?_;cases C.bz t with
   |true=>exact .bind fun q=>zW.map (x:=some (.pz _ q 0)) h
   |false=>exact zk3 h
  ·rename_i t m parts;exact zl6 h (by simpa [Op.operands] using hf)
  ·rename_i t x lo hi mx;rw [zi8 h hf];split
   ·exact ⟨h.heap,(h.put d _ (hp:=fun _=>none)).env⟩
   ·exact zmb h hf
  ·rename_i t t' x;have hx:=hop x (by simp [Op.operands]);grind
  ·rename_i c args ts;have ha:args.toList.map S.op=args.toList.map T.op:=Ux fun x hx=>hop x (by simp [Op.operands,Call.operands];grind)
   rw [hop c (by simp [Op.operands,Call.operands]),ha];split
   ·exact zW.chk (zqi h hD)
   ·trivial
  ·rename_i args ts;split
   ·rename_i x y t t' e1 e2;have ha:∀ z∈args.toList,S.op z=T.op z:=fun z hz=>hop z (by simp [Op.operands,Call.operands];simpa using hz)
    rw [e1] at ha;exact .chk (zeV h (ha x (by simp)) (ha y (by simp)))
   ·trivial
  ·exact zkF h
  ·rename_i t x y;exact zqj h (hop x (by simp [Op.operands])) (hop y (by simp [Op.operands]))
  ·rename_i x;exact zgX h (hop x (by simp [Op.operands]))
  grind
theorem zwP {q:Opts}{Γ:List (Spec C)}{n:Nat}{o:Oper}(h:EqX D S T) (hD:∀ t,D t->t < vB) (hf:WJ D o.op.operands.toList):zW D (stp q Γ P n o S) (stp q Γ P n o T):=by
 obtain ⟨h1,h2⟩:=ztI (P:=P) (dst:=o.dst) h hf;unfold stp;rw [h1];cases hk:YU P T o.dst o.op with
 |some k=>exact .chk (h2 k hk)
 |none=>exact zuN h hD hf
end
end
section
variable [Dfr]
def xo (id:Nat):Nat:=id+1099511627776
mutual
def AV.avoid {D:Nat->Type}(l:List Nat):AV D->Bool
 | .row id=> !zA id l
 | .pc id _=> !zA id l
 | .pr id _ _ _=> !zA id l
 | .nx id _ _ _=> !zA id l && !zA (xo id) l
 | .agg cs=>AV.avoids l cs
 | .tup cs=>AV.avoids l cs
 | .clo _ cs=>AV.avoids l cs
 | .ifc _ A=>AV.avoid l A
 |_=>true
def AV.avoids {D:Nat->Type}(l:List Nat):List (AV D)->Bool
 |[]=>true
 |A::As=>AV.avoid l A && AV.avoids l As
end
omit [Dfr] in
mutual
theorem zcs {D:Nat->Type}{R:AV D}(hm:zA id l=true):∀ {A:AV D},A.avoid l=true->AV.sub id R A=A
 | .row j,h=>by
  unfold AV.sub;cases e:Nat.beq j id with
  |true=>
   have:=jz e;subst this;simp only [AV.avoid,hm] at h;cases h
  |false=>rfl
 | .pc j o,h=>by
  unfold AV.sub;cases e:Nat.beq j id with
  |true=>
   have:=jz e;subst this;simp only [AV.avoid,hm] at h;cases h
  |false=>rfl
 | .pr j _ _ _,h=>by
  unfold AV.sub;cases e:Nat.beq j id with
  |true=>
   have:=jz e;subst this;simp only [AV.avoid,hm] at h;cases h
  |false=>rfl
 | .nx j _ _ _,h=>by
  unfold AV.sub;cases e:Nat.beq j id with
  |true=>
   have:=jz e;subst this;simp only [AV.avoid,hm] at h;cases h
  |false=>rfl
 | .agg cs,h=>by unfold AV.sub;rw [wB hm h]
 | .tup cs,h=>by unfold AV.sub;rw [wB hm h]
 | .clo f cs,h=>by unfold AV.sub;rw [wB hm h]
 | .ifc t A,h=>by unfold AV.sub;rw [zcs hm (A:=A) h]
 | .int _ _,_=>rfl
 | .bool _,_=>rfl
 | .str _,_=>rfl
 | .sl _ _ _,_=>rfl
 | .pz _ _ _,_=>rfl
 | .pnil,_=>rfl
 | .nils,_=>rfl
 | .nilf,_=>rfl
 | .nili,_=>rfl
 | .und,_=>rfl
theorem wB {D:Nat->Type}{R:AV D}(hm:zA id l=true):∀ {A:List (AV D)},AV.avoids l A=true->AV.subs id R A=A
 |[],_=>rfl
 |A::As,h=>by
  simp only [AV.avoids,g9] at h;unfold AV.subs;rw [zcs hm h.1,wB hm h.2]
end
omit [Dfr] in
mutual
theorem zbd {D:Nat->Type}(hp:∀ i,p i=true->zA i l=true):∀ {A:AV D},A.avoid l=true->AV.kill p A=A
 | .row j,h=>by
  unfold AV.kill;cases e:p j with
  |true=>simp only [AV.avoid,hp j e] at h;cases h
  |false=>rfl
 | .pc j o,h=>by
  unfold AV.kill;cases e:p j with
  |true=>simp only [AV.avoid,hp j e] at h;cases h
  |false=>rfl
 | .pr j _ _ _,h=>by
  unfold AV.kill;cases e:p j with
  |true=>simp only [AV.avoid,hp j e] at h;cases h
  |false=>rfl
 | .nx j _ _ _,h=>by
  unfold AV.kill;cases e:p j with
  |true=>simp only [AV.avoid,hp j e] at h;cases h
  |false=>rfl
 | .agg cs,h=>by unfold AV.kill;rw [XL hp h]
 | .tup cs,h=>by unfold AV.kill;rw [XL hp h]
 | .clo f cs,h=>by unfold AV.kill;rw [XL hp h]
 | .ifc t A,h=>by unfold AV.kill;rw [zbd hp (A:=A) h]
 | .int _ _,_=>rfl
 | .bool _,_=>rfl
 | .str _,_=>rfl
 | .sl _ _ _,_=>rfl
 | .pz _ _ _,_=>rfl
 | .pnil,_=>rfl
 | .nils,_=>rfl
 | .nilf,_=>rfl
 | .nili,_=>rfl
 | .und,_=>rfl
theorem XL {D:Nat->Type}(hp:∀ i,p i=true->zA i l=true):∀ {A:List (AV D)},AV.avoids l A=true->AV.kills p A=A
 |[],_=>rfl
 |A::As,h=>by
  simp only [AV.avoids,g9] at h;unfold AV.kills;rw [zbd hp h.1,XL hp h.2]
end
omit [Dfr] in
mutual
theorem VA {D:Nat->Type}(hp:∀ i,p i=true->zA (xo i) l=true):∀ {A:AV D},A.avoid l=true->AV.knx p A=A
 | .row j,h=>rfl
 | .pc j o,h=>rfl
 | .pr j _ _ _,h=>rfl
 | .nx j _ _ _,h=>by
  unfold AV.knx;cases e:p j with
  |true=>simp only [AV.avoid,hp j e,Um,Bool.and_false] at h;cases h
  |false=>rfl
 | .agg cs,h=>by unfold AV.knx;rw [Xs hp h]
 | .tup cs,h=>by unfold AV.knx;rw [Xs hp h]
 | .clo f cs,h=>by unfold AV.knx;rw [Xs hp h]
 | .ifc t A,h=>by unfold AV.knx;rw [VA hp (A:=A) h]
 | .int _ _,_=>rfl
 | .bool _,_=>rfl
 | .str _,_=>rfl
 | .sl _ _ _,_=>rfl
 | .pz _ _ _,_=>rfl
 | .pnil,_=>rfl
 | .nils,_=>rfl
 | .nilf,_=>rfl
 | .nili,_=>rfl
 | .und,_=>rfl
theorem Xs {D:Nat->Type}(hp:∀ i,p i=true->zA (xo i) l=true):∀ {A:List (AV D)},AV.avoids l A=true->AV.knxs p A=A
 |[],_=>rfl
 |A::As,h=>by
  simp only [AV.avoids,g9] at h;unfold AV.knxs;rw [VA hp h.1,Xs hp h.2]
end
section
variable {C:Cod}{S T:St C}{P:Program}
def Ent.avoid (l:List Nat):Ent C->Bool
 | .cell cs=>AV.avoids l cs
 | .row _ _=>true
 | .obj _ _ _ _=>true
 | .orow _ _ _=>true
def zi9 (l:List Nat):G3 (Ent C)->Bool
 |some e=>e.avoid l
 |none=>true
structure Keeps (S T:St C) (d:G3 Nat) (l:List Nat) (p:Nat->Bool):Prop where
 env:∀ t,t < vB->d≠some t->(S.env t).avoid l=true->T.env t=S.env t
 heap:∀ id,p id=false->zi9 l (S.heap id)=true->T.heap id=S.heap id
omit [Dfr] in
theorem Keeps.refl (S:St C) {d:G3 Nat}:Keeps S S d l p:=⟨fun _ _ _ _=>rfl,fun _ _ _=>rfl⟩
omit [Dfr] in
theorem Keeps.trans {U:St C}{d:G3 Nat}(h:Keeps S T d l p) (k:Keeps T U d l p):Keeps S U d l p:=
 ⟨fun t h1 h2 h3=>by have e:=h.env t h1 h2 h3;rw [k.env t h1 h2 (by grind),e],fun id h1 h2=>by have e:=h.heap id h1 h2;rw [k.heap id h1 (by grind),e]⟩
omit [Dfr] in
theorem Keeps.sub {R:AV C.D}{d:G3 Nat}(hm:zA id l=true) (hp:p id=true):Keeps S (S.sub id R) d l p:=by
 refine ⟨fun t _ _ h=>zcs hm h,fun j hj h=>?_⟩;show (bif Nat.beq j id then none else (S.heap j).map (Ent.sub id R))=S.heap j;cases e:Nat.beq j id with
 |true=>have:=jz e;grind
 |false=>
  simp only [G8];cases hs:S.heap j with
  |none=>rfl
  |some en=>
   rw [hs] at h;cases en with
   |row T s=>rfl
   |obj q T b s=>rfl
   |orow T s g=>rfl
   |cell cs=>show some (Ent.cell (AV.subs id R cs))=_;rw [wB hm h]
theorem zbe (S:St C) (id:Nat):(∃ R,S.frz1 id=S.sub id R)\/S.frz1 id=S:=by
 unfold St.frz1;split
 ·grind
 all_goals grind
omit [Dfr] in
theorem Keeps.frz {d:G3 Nat}:∀ (r:List Nat) {S:St C},(∀ id∈r,zA id l=true/\p id=true)->Keeps S (S.frz r) d l p
 |[],S,_ =>.refl S
 |id::r,S,h=>by
  have h1:=h id (by simp);have k:Keeps S (S.frz1 id) d l p:=by
   rcases zbe S id with ⟨R,e⟩ | e
   ·rw [e];exact .sub h1.1 h1.2
   ·rw [e];exact .refl S
  exact k.trans (Keeps.frz r fun j hj=>h j (Uz _ hj))
theorem Keeps.new {d:Nat}{A:AV C.D}{e:G3 (Ent C)}(hp:p id=true):Keeps S {env:=upd S.env d A,heap:=upd S.heap id e} (some d) l p:=
 ⟨fun t _ h2 _=>zm fun e=>h2 (by rw [e]),fun j hj _=>zm fun e=>by grind⟩
omit [Dfr] in
theorem Keeps.ent {e:G3 (Ent C)}{d:G3 Nat}(hp:p id=true):Keeps S {S with heap:=upd S.heap id e} d l p:=
 ⟨fun t _ _ _=>rfl,fun j hj _=>zm fun e=>by grind⟩
omit [Dfr] in
theorem Keeps.put {d:Nat}{A:AV C.D}:Keeps S (S.put d A) (some d) l p:=⟨fun t _ h2 _=>zm fun e=>h2 (by rw [e]),fun j _ _=>rfl⟩
omit [Dfr] in
theorem Keeps.virt {As:List (AV C.D)}{d:G3 Nat}:Keeps S (virt S As) d l p:=⟨fun t ht _ _=>by
 show (bif Nat.blt t vB then S.env t else _)=_
 rw [show Nat.blt t vB=true from by rw [GZ];exact ht];rfl,fun j _ _=>rfl⟩
omit [Dfr] in
theorem Keeps.unvirt {d:G3 Nat}:Keeps S (unvirt S) d l p:=⟨fun t ht _ _=>by
 show (bif Nat.blt t vB then S.env t else _)=_
 rw [show Nat.blt t vB=true from by rw [GZ];exact ht];rfl,fun j _ _=>rfl⟩
omit [Dfr] in
theorem Keeps.nilA1 {t q:Nat}{d:G3 Nat}(hp:∀ id,1048576<=id->p id=true) (ht:vB<=t):Keeps S (nilA1 es t s q S) d l p:=by
 unfold Px.nilA1;split
 ·split
  ·cases isNone (S.heap _) with
   |true=>
    refine ⟨fun t' ht' _ _=>zm fun e=>?_,fun j hj _=>zm fun e=>?_⟩
    all_goals grind
   |false=>exact .refl S
  ·exact .refl S
 ·exact .refl S
omit [Dfr] in
theorem Keeps.nilA {t:Nat}{d:G3 Nat}(hp:∀ id,1048576<=id->p id=true) (ht:vB<=t):∀ (sl:List Sh) (q:Nat) {S:St C},Keeps S (nilA es t sl q S) d l p
 |[],q,S =>.refl S
 |s::sl,q,S=>(Keeps.nilA1 hp ht).trans (Keeps.nilA hp ht sl _)
omit [Dfr] in
theorem Keeps.nilT {d:G3 Nat}(hp:∀ id,1048576<=id->p id=true):∀ (ts:List (Nat×Sh)) {S:St C},(∀ q∈ts,vB<=q.1)->Keeps S (nilT es ts S) d l p
 |[],S,_ =>.refl S
 |(t,s)::ts,S,hts=>by
  have hts':∀ q∈ts,vB<=q.1:=fun q hq=>hts q (Uz _ hq)
  unfold Px.nilT;split
  ·split
   ·cases isNone (S.heap _) with
    |false=>exact Keeps.nilT hp ts hts'
    |true=>
     refine Keeps.trans ?_ (Keeps.nilT hp ts hts');refine ⟨fun t' ht' _ _=>zm fun e=>?_,fun j hj _=>zm fun e=>?_⟩
     ·have:=hts _ (List.mem_cons_self ..);grind
     grind
   ·exact Keeps.nilT hp ts hts'
  ·exact (Keeps.nilA hp (hts _ (List.mem_cons_self ..)) _ 0).trans (Keeps.nilT hp ts hts')
  ·exact Keeps.nilT hp ts hts'
omit [Dfr] in
theorem Keeps.nil1 {q:Nat}{d:G3 Nat}(hp:∀ id,1048576<=id->p id=true) (hid:p id=true):Keeps S (nil1 es id s q S) d l p:=by
 unfold Px.nil1;split
 ·split
  ·cases isNone (S.heap _) with
   |true=>
    refine ⟨fun _ _ _ _=>rfl,fun j hj _=>?_⟩;show upd (upd S.heap _ _) id _ j=S.heap j;have e1:j≠id:=fun e=>by grind
    rw [zm e1];exact zm fun e=>by grind
   |false=>exact .refl S
  ·exact .refl S
 ·exact .refl S
omit [Dfr] in
theorem Keeps.nilC {d:G3 Nat}(hp:∀ id,1048576<=id->p id=true) (hid:p id=true):∀ (sl:List Sh) (q:Nat) {S:St C},Keeps S (nilC es id sl q S) d l p
 |[],q,S =>.refl S
 |s::sl,q,S=>(Keeps.nil1 hp hid).trans (Keeps.nilC hp hid sl _)
omit [Dfr] in
theorem Keeps.nilE {all:List ESh}{d:G3 Nat}(hp:∀ id,1048576<=id->p id=true) (hb:∀ id,Z5 id bl=true->p id=true):∀ (es:List ESh) (k:Nat) {S:St C},Keeps S (nilE all bl es k S) d l p
 |[],k,S =>.refl S
 |e::es,k,S=>by
  refine Keeps.trans ?_ (Keeps.nilE hp hb es _);unfold ze9;split
  ·rename_i id e';exact Keeps.nilC hp (hb id (xQ e')) _ 0
  ·exact .refl S
def zsj (g:Sig) (m:Nat) (S:St C):Bl:=Zu g m (nilT g.es g.ts (S.frz (fzT S g.ts)))
def zeX (g:Sig) (m:Nat) (S:St C):List Nat:=
 let S1:=nilT g.es g.ts (S.frz (fzT S g.ts))
 let S2:=nilE g.es (Zu g m S1) g.es 0 S1
 fzT S g.ts++fzE S2 (Zu g m S2) g.es 0
omit [Dfr] in
theorem Keeps.prep {g:Sig}{d:G3 Nat}(hp:∀ id,1048576<=id->p id=true) (hts:∀ q∈g.ts,vB<=q.1) (hb:∀ id,Z5 id (zsj g m S)=true->p id=true) (hf:∀ id∈zeX g m S,zA id l=true/\p id=true):Keeps S (g.prep m S) d l p:=by
 unfold Sig.prep;simp only;refine (Keeps.frz _ fun id hid=>hf id (by unfold zeX;grind)).trans ((Keeps.nilT hp g.ts hts).trans ((Keeps.nilE hp hb g.es 0).trans (Keeps.frz _ fun id hid=>hf id (by unfold zeX;grind))))
theorem zaw (d k:Nat) (hk:k < 64):nid d k / 64=d+1:=by unfold nid;omega
theorem Keeps.merge {Sr:St C}{d:Nat}(hg:∀ id∈Yk es bl,zA id l=true/\p id=true) (hb:∀ id,Z5 id bl=true->p id=true) (hn:∀ k,k < 64->p (nid d k)=true) (hes:es.length<=64) (hx:∀ id,Z5 id bl=true->zA (xo id) l=true):Keeps S (Zt S Sr d bl es) (some d) l p:=by
 have hg':∀ i,zA i (Yk es bl)=true->zA i l=true:=fun i hi=>(hg i (zN.1 hi)).1
 refine ⟨fun t _ _ h=>by show AV.kill _ (AV.knx _ (S.env t))=_;rw [VA (fun id hid=>hx id (by grind)) h,zbd hg' h],fun j hj h=>?_⟩;have e1:(Zt S Sr d bl es).heap j=bif zA j (Yk es bl) then none else (S.heap j).map fun e=>Ent.kill (fun i=>zA i (Yk es bl)) (Ent.knx (fun i=>Z5 i bl && !zA i (kpL Sr bl 0)) e):=by
  refine WU fun k e he hge=>?_
  rw [GY];intro e';unfold xa at e';split at e'
  ·rename_i id hid;subst e';rw [hb _ (xQ hid)] at hj;cases hj
  grind
 rw [e1];cases hm:zA j (Yk es bl) with
 |true=>rw [(hg j (zN.1 hm)).2] at hj;cases hj
 |false=>
  simp only [G8];cases hs:S.heap j with
  |none=>rfl
  |some en=>
   rw [hs] at h;cases en with
   |row T s=>rfl
   |obj q T b s=>rfl
   |orow T s g=>rfl
   |cell cs=>show some (Ent.cell (AV.kills _ (AV.knxs _ cs)))=_;rw [Xs (fun id hid=>hx id (by grind)) h,XL hg' h]
abbrev Tch:=List Nat×(Nat->Bool)
def zct (d:Nat):G3 Tch:=some ([],fun i=>Nat.beq (i / 64) (d+1))
def zbf:Bl->List Nat
 |[]=>[]
 |some id::r=>xo id::zbf r
 |none::r=>zbf r
theorem zeg:∀ {bl:Bl},Z5 id bl=true->xo id∈zbf bl
 |some a::r,h=>by
  simp only [Z5,GO] at h;rcases h with h | h
  ·rw [jz h];simp [zbf]
  ·exact Uz _ (zeg h)
 |none::r,h=>zeg (bl:=r) h
 |[],h=>by cases h
def zoT (id:Nat) (l:List Nat):G3 Tch:=some (l,fun i=>Nat.beq i id || zA i l)
def vt (Γ:List (Spec C)) (S:St C) (d f:Nat) (As:List (AV C.D)):G3 Tch:=match Γ with
 |[]=>some ([],fun i=>Nat.beq (i / 64) (d+1))
 |s::Γ=>bif Nat.beq s.f f then (match YA s.ins S As with
  |some (S2,bl,x)=>bif s.view then some ([],fun _=>false) else bif s.viewO then chk (s.outs.all fun o=>Nat.ble o.2.es.length 64) (some ([],fun i=>Nat.beq (i / 64) (d+1))) else go s bl (zsj s.ins.shift 0 (virt S As)) (zeX s.ins.shift 0 (virt S As)++((s.outs.flatMap fun o=>Yk o.2.es bl)++zbf bl))
  |none=>vt Γ S d f As) else vt Γ S d f As
where
 go (s:Spec C) (bl b1:Bl) (l:List Nat):G3 Tch:=chk (s.outs.all fun o=>Nat.ble o.2.es.length 64) (some (l,fun i=>zA i l || (Z5 i bl || (Nat.beq (i / 64) (d+1) || (Nat.ble 1048576 i || Z5 i b1)))))
def zqk (Γ:List (Spec C)) (P:Program) (o:Oper) (S:St C):G3 Tch:=match o.dst with
 |none=>match o.op with
  | .store t x y=>(match S.op x with
   | .pc id _=>zoT id []
   | .pr id _ _ _=>zoT id (AV.rows (S.op y))
   |_=>none)
  | .mapUpdate _ x _ _=>(match S.op x with
   | .row id=>some ([],fun i=>Nat.beq i id)
   |_=>none)
  |_=>some ([],fun _=>false)
 |some d=>match o.op with
  | .alloc _=>zct d
  | .box _ _=>zct d
  | .makeSlice _ _ _=>zct d
  | .makeMap _ _=>zct d
  | .buildSlice _ _ parts=>go d (AV.rowss (parts.toList.map fun q=>S.op q.2))
  | .call ⟨.value c,args,_⟩=>(match S.op c with
   | .clo f caps=>vt Γ S d f (xP (args.toList.map S.op) caps)
   |_=>none)
  | .call ⟨.builtin .append,args,_⟩=>(match args.toList with
   |[x,y]=>(match S.op x with
    | .row id=>go d [id]
    | .nils=>zct d
    |_=>none)
   |_=>none)
  | .slice _ x _ _ _=>go d (S.op x).hid
  | .panic _=>some ([],fun _=>false)
  |_=>some ([],fun _=>false)
where
 go (d:Nat) (l:List Nat):G3 Tch:=some (l,fun i=>zA i l || Nat.beq (i / 64) (d+1))
theorem ZX (h:id∈l):zA id l=true:=zN.2 h
theorem WW (d:Nat):Nat.beq (nid d 0 / 64) (d+1)=true:=by rw [zaw d 0 (by omega)];simp
theorem VB:∀ {outs:List (XK×Sig)}{r:zi C outs},∃ o∈outs,ye outs r=o.2.es
 |[],r=>r.elim
 |[o],r=>⟨o,by simp,rfl⟩
 |o::o2::l,r=>by
  cases r with
  |inl a=>exact ⟨o,by simp,rfl⟩
  |inr y=>
   obtain ⟨o',h1,h2⟩:=VB (outs:=o2::l) (r:=y);exact ⟨o',Uz _ h1,h2⟩
theorem Xd {K:XE C->St C->G3 α}{z:α}{outs:List (XK×Sig)}{r:zi C outs}(h:zQ outs r K=some z):∃ e S,K e S=some z:=by
 have hq:zQ outs r (fun _ _=>True):=by
  clear h;revert r
  induction outs with
  |nil=>intro r;exact r.elim
  |cons o l ih=>
   have one:∀ y:XK.ty C o.1 o.2,yQ o.1 o.2 y (fun _ _=>True):=fun y=>by
    obtain ⟨k,g⟩:=o;cases k <;> trivial
   cases l with
   |nil=>intro r;exact one r
   |cons o2 l=>
    intro r;cases r with
    |inl a=>exact one a
    |inr y=>exact ih (r:=y)
 obtain ⟨e,S,h1,_⟩:=Xa h hq;grind
theorem zhp {s:Spec C}(hvo:s.viewO=true) {d:Nat}{x:s.ins.ty C}{S':St C}(h:yv s d S x=some (.go S')):Keeps S S' (some d) [] fun i=>Nat.beq (i / 64) (d+1):=by
 simp only [Spec.viewO,g9] at hvo;unfold yv at h;obtain ⟨r,_,h⟩:=jy h;obtain ⟨e,Sr,h⟩:=Xd h;obtain ⟨_,h⟩:=zb h;unfold wy at h;obtain ⟨_,h⟩:=zb h;cases e with
 |normal=>cases h
 |exit i=>cases h
 |pan A=>cases h
 |ret=>
  cases h;obtain ⟨o,ho,he⟩:=VB (outs:=s.outs) (r:=r);have hg:Yk (ye s.outs r) []=[]:=by cases ye s.outs r <;> rfl
  have hc:=Uu.1 hvo.2 o ho;simp only [g9] at hc;refine Keeps.trans (.merge (fun id hid=>?_) (fun id hid=>?_) (fun k hk=>?_) ?_ (fun id hid=>?_)) (Keeps.trans .unvirt .put)
  ·grind
  ·cases hid
  ·simp only [zaw d k hk,Nat.beq_refl]
  ·rw [he];exact Uf hc.2
  ·cases hid
theorem zhq {s:Spec C}{d:Nat}{x:s.ins.ty C}{S':St C}(h:yF s d S x=some (.go S')):Keeps S S' (some d) l p:=by
 obtain ⟨_,h⟩:=zb h;obtain ⟨r,_,h⟩:=jy h;obtain ⟨e,Sr,h⟩:=Xd h;unfold zau at h;cases e with
 |normal=>cases h
 |exit i=>cases h
 |pan A=>obtain ⟨_,h⟩:=zb h;cases h
 |ret=>obtain ⟨_,h⟩:=zb h;cases h;exact .put
theorem zbZ {d:Nat}{As:List (AV C.D)}{S':St C}:∀ {Γ:List (Spec C)},xc Γ S d f As=some (.go S')->Keeps S S' (some d) [] fun i=>Nat.beq (i / 64) (d+1)
 |[],h=>by cases h
 |s::Γ,h=>by
  unfold xc at h;cases hf:(Nat.beq s.f f && (s.view || s.viewO)) with
  |false=>rw [hf] at h;exact zbZ h
  |true=>
   rw [hf,Uv] at h;obtain ⟨Bs,h,_⟩:=za5 h;obtain ⟨_,h⟩:=zb h;obtain ⟨T,h,_⟩:=W8 h;split at h
   ·rename_i S2 bl x hl;cases hv:s.view with
    |true=>rw [hv] at h;exact zhq h
    |false=>
     rw [hv] at h;simp only [g9,GO,hv] at hf;exact zhp (by grind) h
   ·cases h
theorem zae {Γ0:List (Spec C)}{d:Nat}{As:List (AV C.D)}{S':St C}:∀ {Γ:List (Spec C)},Yr Γ0 Γ S d f As=some (.go S')->vt Γ S d f As=some (l,p)->Keeps S S' (some d) l p
 |[],h,ht=>by cases ht;exact zbZ h
 |s::Γ,h,ht=>by
  unfold Yr at h;unfold vt at ht;cases hf:Nat.beq s.f f with
  |false=>rw [hf] at h ht;exact zae h ht
  |true=>
   rw [hf] at h ht;simp only [Uv] at h ht;split at h
   ·rename_i S2 bl x hl;rw [hl] at ht;simp only at ht;cases hv:s.view with
    |true=>
     rw [hv] at h ht;cases ht;simp only [Uv] at h;obtain ⟨_,h⟩:=zb h;obtain ⟨r,_,h⟩:=jy h;obtain ⟨e,Sr,h⟩:=Xd h;unfold zau at h;cases e with
     |normal=>cases h
     |exit i=>cases h
     |pan A=>obtain ⟨_,h⟩:=zb h;cases h
     |ret=>obtain ⟨_,h⟩:=zb h;cases h;exact .put
    |false=>
    rw [hv] at h ht;rw [G8] at h ht;cases hv2:s.viewO with
    |true=>
     rw [hv2] at h ht;rw [Uv] at h ht;obtain ⟨hc,ht⟩:=zb ht;cases ht;unfold yv at h;obtain ⟨r,_,h⟩:=jy h;obtain ⟨e,Sr,h⟩:=Xd h;obtain ⟨_,h⟩:=zb h;unfold wy at h;obtain ⟨_,h⟩:=zb h;cases e with
     |normal=>cases h
     |exit i=>cases h
     |pan A=>cases h
     |ret=>
      cases h;obtain ⟨o,ho,he⟩:=VB (outs:=s.outs) (r:=r);have hg:Yk (ye s.outs r) []=[]:=by cases ye s.outs r <;> rfl
      refine Keeps.trans (.merge (fun id hid=>?_) (fun id hid=>?_) (fun k hk=>?_) ?_ (fun id hid=>?_)) (Keeps.trans .unvirt .put)
      ·grind
      ·cases hid
      ·simp only [zaw d k hk,Nat.beq_refl]
      ·rw [he];exact Uf (Uu.1 hc o ho)
      ·cases hid
    |false=>
    rw [hv2] at h ht;simp only [G8] at h ht;obtain ⟨hc,ht⟩:=zb ht;cases ht;unfold YA at hl;obtain ⟨_,hl⟩:=zb hl;obtain ⟨x',hx,he⟩:=U4.1 hl;cases he;unfold xb at h;obtain ⟨r,_,h⟩:=jy h;obtain ⟨_,h⟩:=zb h;obtain ⟨e,Sr,h⟩:=Xd h;unfold wy at h;obtain ⟨_,h⟩:=zb h;cases e with
    |normal=>cases h
    |exit i=>cases h
    |pan A=>cases h
    |ret=>
     cases h;obtain ⟨o,ho,he⟩:=VB (outs:=s.outs) (r:=r);refine Keeps.trans .virt (Keeps.trans (.prep (g:=s.ins.shift) (m:=0) (fun id h=>?_) (fun q hq=>?_) (fun id hid=>?_) (fun id hid=>?_)) (Keeps.trans (.merge (fun id hid=>?_) (fun id hid=>?_) (fun k hk=>?_) ?_ (fun id hid=>?_)) (Keeps.trans .unvirt .put)))
     ·simp [Nat.ble_eq,h]
     ·obtain ⟨p,hp,rfl⟩:=U0.1 hq;grind
     ·grind
     ·have:=ZX (U6 ((s.outs.flatMap fun o=>Yk o.2.es (Zu s.ins.shift 0 (s.ins.shift.prep 0 (virt S As))))++zbf (Zu s.ins.shift 0 (s.ins.shift.prep 0 (virt S As)))) hid);grind
     ·have:id∈zeX s.ins.shift 0 (virt S As)++((s.outs.flatMap fun o=>Yk o.2.es (Zu s.ins.shift 0 (s.ins.shift.prep 0 (virt S As))))++zbf (Zu s.ins.shift 0 (s.ins.shift.prep 0 (virt S As)))):=List.mem_append_right _ (U6 _ (List.mem_flatMap.2 ⟨o,ho,by grind⟩));have:=ZX this;grind
     ·grind
     ·simp only [zaw d k hk,Nat.beq_refl,Bool.true_or,Bool.or_true]
     ·rw [he];exact Uf (Uu.1 hc o ho)
     ·exact ZX (List.mem_append_right _ (List.mem_append_right _ (zeg hid)))
   ·rename_i hl;rw [hl] at ht;exact zae h ht
theorem zmd {d:Nat}{As:List (AV C.D)}{S':St C}{Γ:List (Spec C)}(h:vN Γ S d f As=some (.go S')) (ht:vt Γ S d f As=some (l,p)):Keeps S S' (some d) l p:=zae h ht
theorem zdS {d:Nat}{cs:List (AV C.D)}{S':St C}(h:zaX S d cs=some (.go S')) (hp:p (nid d 0)=true):Keeps S S' (some d) l p:=by
 obtain ⟨_,h⟩:=zb h;cases h;exact .new hp
theorem zf6 {d:Nat}{ty t:TypeId}{x:Operand}{S':St C}(h:Yf P S d ty t x lo hi=some (.go S')):Keeps S S' (some d) (S.op x).hid fun i=>zA i (S.op x).hid || Nat.beq (i / 64) (d+1):=by
 unfold Yf at h;split at h
 ·rename_i id ex;obtain ⟨A,_,h⟩:=jy h;cases h;rw [ex];have hid:zA id (AV.hid (.row (D:=C.D) id))=true:=ZX (by simp [AV.hid])
  have:=Keeps.frz (d:=some d) (l:=AV.hid (.row (D:=C.D) id)) (p:=fun i=>zA i (AV.hid (.row (D:=C.D) id)) || Nat.beq (i / 64) (d+1)) [id] (S:=S) (fun j hj=>by
   grind)
  exact Keeps.trans this .put
 ·cases h
theorem ztL {q:Opts}{Γ:List (Spec C)}{n:Nat}{o:Oper}{S':St C}(h:vO q Γ P n o S=some (.go S')) (ht:zqk Γ P o S=some (l,p)):Keeps S S' o.dst l p:=by
 obtain ⟨dst,op,ty,ps,af,g⟩:=o;unfold vO at h;unfold zqk at ht;cases dst with
 |none=>
  simp only at h ht |-
  split at h
  ·rename_i t x y;simp only at ht;unfold yo at h;split at h
   ·rename_i ti id off hi ex;rw [ex] at ht;cases ht;split at h
    ·obtain ⟨_,h⟩:=zb h;cases h;exact .ent (by simp)
    ·cases h
   ·rename_i ti id T i off hi ex;rw [ex] at ht;cases ht;refine Keeps.trans (.frz (AV.rows (S.op y)) fun j hj=>⟨ZX hj,by rw [ZX hj];simp⟩) ?_;have hx:(S.frz (AV.rows (S.op y))).op x = .pr id T i off\/¬ (S.frz (AV.rows (S.op y))).op x = .pr id T i off:=Classical.em _;have key:∀ (S1:St C),(∀ id' T' i' off',S1.op x = .pr id' T' i' off'->id'=id)->yo.go x y ti S1=some (.go S')->Keeps S1 S' none (AV.rows (S.op y)) fun i=>Nat.beq i id || zA i (AV.rows (S.op y)):=by
     intro S1 hk h;unfold yo.go at h;split at h
     ·rename_i id' T' i' off' ex';have:=hk _ _ _ _ ex';subst this;split at h
      ·obtain ⟨_,h⟩:=zb h;obtain ⟨q,_,h⟩:=jy h;obtain ⟨q',_,h⟩:=jy h;cases h;exact .ent (by simp)
      ·cases h
     ·cases h
    refine key _ ?_ h;intro id' T' i' off' e';cases x with
    |const v=>exact absurd ex (by cases v <;> (try (intro h;cases h;done)) <;> (simp only [St.op,zaR,yd];grind))
    |global g=>cases ex
    |func f=>cases ex
    |tmp tt=>
     have e1:S.env tt = .pr id T i off:=ex;have e2:(S.frz (AV.rows (S.op y))).env tt = .pr id' T' i' off':=e';have frzpr:∀ (r:List Nat) (S1:St C),(∀ a b c d,S1.env tt = .pr a b c d->a=id)->(∀ R,S1.env tt=R->(∃ a b c d,R = .pr a b c d)\/R = .und)->(∀ a b c d,(S1.frz r).env tt = .pr a b c d->a=id):=by
      intro r
      induction r with
      |nil=>intro S1 h1 _;exact h1
      |cons j r ih=>
       intro S1 h1 h2;refine ih (S1.frz1 j) ?_ ?_
       ·intro a b c d e;rcases zbe S1 j with ⟨R0,e0⟩ | e0
        ·rw [e0] at e;have e:AV.sub j R0 (S1.env tt)=_:=e;rcases h2 _ rfl with ⟨a',b',c',d',h⟩ | h
         ·rw [h] at e;unfold AV.sub at e;cases hb:Nat.beq a' j with
          |true=>grind
          |false=>grind
         ·rw [h] at e;cases e
        grind
       ·intro R e;rcases zbe S1 j with ⟨R0,e0⟩ | e0
        ·rw [e0] at e;have e:AV.sub j R0 (S1.env tt)=_:=e;rcases h2 _ rfl with ⟨a',b',c',d',h⟩ | h
         ·rw [h] at e;unfold AV.sub at e;cases hb:Nat.beq a' j with
          |true=>grind
          |false=>grind
         ·rw [h] at e;exact .inr e.symm
        grind
     grind
   ·cases h
  ·rename_i t x y z;simp only at ht;unfold XZ at h;split at h
   ·split at h
    ·rename_i id v hk ex ez;rw [ex] at ht;cases ht;split at h
     ·rename_i q T b s k es ey;split at h
      ·obtain ⟨_,h⟩:=zb h;cases h;exact .ent (by simp)
      ·cases h
     ·cases h
    ·rename_i id v hk ex ez;rw [ex] at ht;cases ht;split at h
     ·rename_i q T b s k es ey;split at h
      ·obtain ⟨_,h⟩:=zb h;cases h;exact .ent (by simp)
      ·cases h
     ·cases h
    ·cases h
   ·cases h
  ·rename_i x;unfold xO at h;split at h
   ·obtain ⟨_,h⟩:=zb h;cases h
   ·cases h
  ·cases h
 |some d=>
  simp only at h ht |-
  obtain ⟨_,h⟩:=zb h;unfold X1 at h;have pan:∀ x,xO S x=some (.go S')->False:=fun x h=>by
   unfold xO at h;split at h
   ·obtain ⟨_,h⟩:=zb h;cases h
   ·cases h
  split at h
  ·cases ht;unfold xN at h;split at h
   ·split at h
    ·split at h
     ·obtain ⟨_,h⟩:=zb h;cases h;exact .new (WW d)
     ·exact zdS h (WW d)
    ·cases h
   ·cases h
  ·cases ht;obtain ⟨_,h⟩:=zb h;rw [Bool.cond_eq_ite] at h;split at h
   ·obtain ⟨q,_,h⟩:=jy h;cases h;exact .put
   ·exact zdS h (WW d)
  ·rename_i t m parts;cases ht;unfold YL at h;refine Keeps.trans (.frz _ fun j hj=>⟨ZX hj,by simp only [ZX hj,Bool.true_or]⟩) ?_;generalize S.frz _=S1 at h |-
   unfold YL.go at h;split at h
   ·split at h
    ·split at h
     ·obtain ⟨_,h⟩:=zb h;obtain ⟨q,_,h⟩:=jy h;cases h;exact .new (by simp only [WW,Bool.or_true])
     ·cases h
    ·cases h
   ·cases h
  ·rename_i t x lo hi mx;cases ht;split at h
   ·cases h;exact .put
   ·unfold X0 at h;split at h
    ·exact zf6 h
    ·cases h
  ·cases ht;split at h
   ·cases h;exact .put
   ·cases h
  ·rename_i c args ts _;simp only at ht;split at h
   ·rename_i f caps ec;rw [ec] at ht;exact zmd (zb h).2 ht
   ·cases h
  ·rename_i args ts _;simp only at ht;split at h
   ·rename_i x y t t' e1 e2;rw [e1] at ht;simp only at ht;obtain ⟨_,h⟩:=zb h;unfold yJ at h;split at h
    ·split at h
     ·split at h
      ·obtain ⟨_,h⟩:=zb h;split at h
       ·rename_i id ex;rw [ex] at ht;cases ht;have hid:zA id [id]=true:=ZX (by simp);split at h
        ·obtain ⟨_,h⟩:=zb h;obtain ⟨q,_,h⟩:=jy h;obtain ⟨q',_,h⟩:=jy h;cases h;exact Keeps.trans (.sub hid (by grind)) (.new (by simp only [WW,Bool.or_true]))
        ·cases h
       ·rename_i ex;rw [ex] at ht;cases ht;obtain ⟨q,_,h⟩:=jy h;obtain ⟨q',_,h⟩:=jy h;cases h;exact .new (WW d)
       ·cases h
      ·cases h
     ·cases h
    ·cases h
   ·cases h
  ·cases ht;unfold x9 at h;split at h
   ·obtain ⟨_,h⟩:=zb h;cases h;exact .new (WW d)
   ·split at h
    ·obtain ⟨_,h⟩:=zb h;cases h;exact .new (WW d)
    ·cases h
  ·cases ht;unfold vL at h;split at h
   ·split at h
    ·split at h
     ·split at h
      ·obtain ⟨_,h⟩:=zb h;cases h;exact .put
      ·cases h
     ·cases h
    ·split at h
     ·split at h
      ·obtain ⟨_,h⟩:=zb h;cases h;exact .put
      ·cases h
     ·cases h
    ·cases h
   ·cases h
  ·grind
  ·obtain ⟨A,_,h⟩:=U4.1 h;cases h;exact .put
omit [Dfr] in
theorem Keeps.owk {e:Ent C}{d:G3 Nat}(hm:zA (xo id) l=true) (hp:p id=true):Keeps S (S.owk id e) d l p:=by
 have hx:∀ i,Nat.beq i id=true->zA (xo i) l=true:=fun i hi=>by rw [jz hi];exact hm
 refine ⟨fun t _ _ h=>VA hx h,fun j hj h=>?_⟩;show (bif Nat.beq j id then some e else (S.heap j).map (Ent.knx _))=S.heap j;cases e1:Nat.beq j id with
 |true=>have:=jz e1;grind
 |false=>
  simp only [G8];cases hs:S.heap j with
  |none=>rfl
  |some en=>
   rw [hs] at h;cases en with
   |row T s=>rfl
   |obj q T b s=>rfl
   |orow T s g=>rfl
   |cell cs=>show some (Ent.cell (AV.knxs _ cs))=_;rw [Xs hx h]
def zuO:KN->G3 Nat
 | .st _ _ _=>none
 | .apn d _ _ _ _=>some d
 | .apo d _ _ _ _=>some d
 | .bl d _ _ _ _=>some d
theorem zoU {op:Op}{k:KN}(h:YU P S dst op=some k):zuO k=dst:=by
 unfold YU at h;split at h
 ·cases hc:zeo S _ _ with
  |true=>rw [hc] at h;cases h;rfl
  |false=>grind
 ·split at h
  ·rename_i x y _ _ _ _;cases hc:zen S x with
   |true=>rw [hc] at h;cases h;rfl
   |false=>
    rw [hc,G8] at h;cases hc2:isO S y with
    |true=>rw [hc2] at h;cases h;rfl
    |false=>grind
  ·cases h
 ·split at h
  ·cases hc:(C.own (we P _) && zcE (zq (S.op _)) (C.nst (we P _))) with
   |true=>rw [hc] at h;cases h;rfl
   |false=>grind
  ·cases h
 ·cases h
def zf7 (S:St C):KN->G3 Tch
 | .st _ x y=>(match S.op x with
  | .pr id T _ off=>some (bif xI off (zq (S.op y)).length (C.nst T) then xo id::AV.rowss (zq (S.op y)) else [],fun i=>Nat.beq i id || zA i (AV.rowss (zq (S.op y))))
  | .nx id _ _ _=>some ([],fun i=>Nat.beq i id)
  |_=>none)
 | .apn d _ _ x _=>(match S.op x with
  | .nx id _ _ _=>some ([xo id,nid d 1],fun i=>Nat.beq i id || Nat.beq (i / 64) (d+1))
  |_=>none)
 | .apo d _ _ x y=>(match S.op x,S.op y with
  | .row id,.row id2=>some ([id,id2],fun i=>zA i [id,id2] || Nat.beq (i / 64) (d+1))
  | .nils,.row id2=>some ([id2],fun i=>zA i [id2] || Nat.beq (i / 64) (d+1))
  |_,_=>none)
 | .bl d _ _ _ y=>some (AV.rowss (zq (S.op y)),fun i=>zA i (AV.rowss (zq (S.op y))) || Nat.beq (i / 64) (d+1))
theorem zf8 {D:Nat->Type}:∀ {cs:List (AV D)}{k:Nat},cs[k]?=some (.row id)->id∈AV.rowss cs
 |A::cs,0,h=>by
  simp at h;subst h;simp [AV.rowss,AV.rows]
 |A::cs,k+1,h=>by
  have:=zf8 (cs:=cs) (k:=k) (by simpa using h);simp only [AV.rowss,G5];grind
 |[],k,h=>by simp at h
theorem zdT {s:Sl (C.D T0)}{g:Own}{i:Int}{cells:List (AV C.D)}{S':St C}(h:XU S id T0 s g i off cells some=some (.go S')) (hx:zA (xo id) l=true) (hp:p id=true) (hr:∀ id2,id2∈AV.rowss cells->zA id2 l=true/\p id2=true) {d:G3 Nat}:Keeps S S' d l p:=by
 unfold XU at h;simp only [Wz] at h;split at h
 ·rename_i id2 hc;split at h
  ·obtain ⟨_,h⟩:=zb h;obtain ⟨q,_,h⟩:=jy h;obtain ⟨g',_,h⟩:=jy h;obtain ⟨q',_,h⟩:=jy h;cases h;obtain ⟨r1,r2⟩:=hr id2 (zf8 hc);exact Keeps.trans (.sub r1 r2) (.owk hx hp)
  ·cases h
 ·obtain ⟨q,_,h⟩:=jy h;split at h
  ·obtain ⟨g',_,h⟩:=jy h;obtain ⟨q',_,h⟩:=jy h;cases h;exact .owk hx hp
  ·cases h
 ·cases h
theorem zcu {gid d:Nat}{t:TypeId}{x y:Operand}{S':St C}(h:yJ P S d t x y=some (.go S')) (hx:S.op x = .row gid) (hm:zA gid l=true) (hp:p gid=true) (hd:p (nid d 0)=true):Keeps S S' (some d) l p:=by
 unfold yJ at h;split at h
 ·split at h
  ·split at h
   ·obtain ⟨_,h⟩:=zb h;rw [hx] at h;simp only at h;split at h
    ·obtain ⟨_,h⟩:=zb h;obtain ⟨_,_,h⟩:=jy h;obtain ⟨_,_,h⟩:=jy h;cases h;exact Keeps.trans (.sub hm hp) (.new hd)
    ·cases h
   ·cases h
  ·cases h
 ·cases h
theorem zuP (d:Nat):Nat.beq (nid d 1 / 64) (d+1)=true:=by rw [zaw d 1 (by omega)];simp
theorem zme {k:KN}{S':St C}(h:vY P S k=some (.go S')) (ht:zf7 S k=some (l,p)):Keeps S S' (zuO k) l p:=by
 cases k with
 |st t x y=>
  simp only [vY] at h;simp only [zf7] at ht;unfold xu Xe at h;split at h
  ·rename_i ti id T i off hi ex;rw [ex] at ht;cases ht;split at h
   ·rename_i T' s g hs;obtain ⟨hc,h⟩:=zb h;simp only [g9] at hc;obtain rfl:=jz hc.1;cases hin:xI off (zq (S.op y)).length (C.nst T) with
    |true=>
     rw [hin] at h;simp only [Uv] at h |-
     exact zdT h (by simp [zA]) (by simp) fun id2 h2=>⟨by simp [zA,ZX h2],by simp [ZX h2]⟩
    |false=>
     rw [hin] at h;simp only [G8] at h |-
     obtain ⟨q,_,h⟩:=jy h;obtain ⟨q',_,h⟩:=jy h;cases h;exact .ent (by simp)
   ·rename_i T' s hs;obtain ⟨hc,h⟩:=zb h;simp only [g9] at hc;obtain rfl:=jz hc.1;rw [hc.2.2];simp only [Uv];exact zdT h (by simp [zA]) (by simp) fun id2 h2=>⟨by simp [zA,ZX h2],by simp [ZX h2]⟩
   ·cases h
  ·rename_i ti id T i U k off hi ex;rw [ex] at ht;cases ht;split at h
   ·obtain ⟨_,h⟩:=zb h;obtain ⟨q,_,h⟩:=jy h;split at h
    ·obtain ⟨_,h⟩:=zb h;obtain ⟨_,_,h⟩:=jy h;obtain ⟨_,_,h⟩:=jy h;obtain ⟨_,_,h⟩:=jy h;cases h;exact .ent (by simp)
    ·cases h
   ·cases h
  ·cases h
 |apn d t t' x y=>
  simp only [vY] at h;simp only [zf7] at ht;have h:=(zb h).2;unfold wG at h;cases x with
  |const v=>cases h
  |global g=>cases h
  |func f=>cases h
  |tmp tx=>
   simp only at h;split at h
   ·rename_i id T i ex;have ht:(match S.env tx with | .nx id _ _ _=>some ([xo id,nid d 1],fun i=>Nat.beq i id || Nat.beq (i / 64) (d+1)) | _=>none)=some (l,p):=ht;rw [ex] at ht;cases ht;unfold wF at h;split at h
    ·obtain ⟨hc,h⟩:=zb h;simp only [g9] at hc;obtain ⟨_,_,h⟩:=jy h;split at h
     ·have k2:=zcu (gid:=nid d 1) (l:=[xo id,nid d 1]) (p:=fun i=>Nat.beq i id || Nat.beq (i / 64) (d+1)) h (by show upd S.env tx _ tx=_;rw [zl]) (by simp [zA]) (by simp [zuP]) (by simp [WW]);refine Keeps.trans ⟨fun t ht hd ha=>?_,fun j hj _=>?_⟩ k2
      ·show upd S.env tx _ t=S.env t;by_cases e:t=tx
       ·subst e;rw [ex] at ha;simp [AV.avoid,zA] at ha
       ·rw [zm e]
      ·show upd (upd S.heap id _) (nid d 1) _ j=S.heap j;rw [zm fun e=>by subst e;simp [zuP] at hj,zm fun e=>by subst e;simp at hj]
     ·cases h
    ·cases h
   ·cases h
 |apo d t t' x y=>
  simp only [vY] at h;simp only [zf7] at ht;obtain ⟨_,h⟩:=zb h;unfold wH Wf at h;split at h
  ·split at h
   ·split at h
    ·obtain ⟨_,h⟩:=zb h;split at h
     ·rename_i id2 ey;rw [ey] at ht;split at h
      ·split at h
       ·rename_i id ex;rw [ex] at ht;cases ht;split at h
        ·obtain ⟨_,h⟩:=zb h;obtain ⟨_,_,h⟩:=jy h;obtain ⟨_,_,h⟩:=jy h;cases h;exact Keeps.trans (.sub (by simp [zA]) (by simp [zA])) (Keeps.trans (.sub (by simp [zA]) (by simp [zA])) (.new (by simp [WW])))
        ·cases h
       ·rename_i ex;rw [ex] at ht;cases ht;obtain ⟨_,_,h⟩:=jy h;obtain ⟨_,_,h⟩:=jy h;cases h;exact Keeps.trans (.sub (by simp [zA]) (by simp [zA])) (.new (by simp [WW]))
       ·cases h
      ·cases h
     ·cases h
    ·cases h
   ·cases h
  ·cases h
 |bl d t i m y=>
  simp only [vY] at h;simp only [zf7] at ht;cases ht;obtain ⟨_,h⟩:=zb h;unfold xw Xf at h;split at h
  ·split at h
   ·split at h
    ·obtain ⟨_,h⟩:=zb h;split at h
     ·rename_i id2 hc;split at h
      ·obtain ⟨_,_,h⟩:=jy h;cases h;have hm:=ZX (zf8 hc);exact Keeps.trans (.sub hm (by simp [hm])) (.new (by simp [WW]))
      ·cases h
     ·cases h
    ·cases h
   ·cases h
  ·cases h
def tch (Γ:List (Spec C)) (P:Program) (o:Oper) (S:St C):G3 Tch:=match YU P S o.dst o.op with
 |some k=>zf7 S k
 |none=>zqk Γ P o S
theorem zoV {q:Opts}{Γ:List (Spec C)}{n:Nat}{o:Oper}{S':St C}(h:stp q Γ P n o S=some (.go S')) (ht:tch Γ P o S=some (l,p)):Keeps S S' o.dst l p:=by
 unfold stp at h;unfold tch at ht;cases hk:YU P S o.dst o.op with
 |some k=>
  rw [hk] at h ht;obtain ⟨_,h⟩:=zb h;rw [<- zoU hk];exact zme h ht
 |none=>rw [hk] at h ht;exact ztL h ht
end
variable [Dfr]
def zax:List Operand->List Nat
 |[]=>[]
 | .tmp t::r=>t::zax r
 |_::r=>zax r
theorem zbg {t:Nat}:∀ {l:List Operand},Operand.tmp t∈l->t∈zax l
 |x::r,h=>by
  rcases Ua.1 h with h | h
  ·subst h;simp [zax]
  ·have:=zbg h;cases x <;> simp [zax,this]
def XM (ops:Array Oper) (o:Oper):List Nat:=match o.guard with
 |none=>[]
 |some (j,_)=>match (ops[j]?).bind (·.dst) with
  |some d=>[d]
  |none=>[]
def looks (ops:Array Oper) (o:Oper):List Nat:=zax o.op.operands.toList++XM ops o
def zy (o:Oper):List Nat:=(o.after.toList.filter (Region.binds .any)).map (·.on)
theorem zmf {o:Oper}{e:Edge}(h:e∈o.after) (hb:Region.binds .any e=true):e.on∈zy o:=U0.2 ⟨e,U2.2 ⟨by simpa using h,hb⟩,rfl⟩
def zbh (l cl:List Nat):Bool:=l.all fun j=>zA j cl
def zc9:List (Nat×Nat)->Nat->Nat
 |[],_=>0
 |(i,m)::r,j=>bif Nat.beq i j then m else zc9 r j
def yK (al:List (Nat×Nat)):List Nat->Nat
 |[]=>0
 |j::ds=>Nat.lor (Nat.lor (Nat.shiftLeft 1 j) (zc9 al j)) (yK al ds)
section
variable {C:Cod}{ρ:Type}
def zeY (S:St C) (l:List Nat) (dst:G3 Nat) (t:Nat):Bool:=(S.env t).avoid l && (Nat.blt t vB && (match dst with | some d=> !Nat.beq t d | none=>true))
def zeZ (ops:Array Oper) (S:St C) (l:List Nat) (p:Nat->Bool) (dst:G3 Nat) (r:Nat):Bool:=match ops[r]? with
 |some q=>(looks ops q).all (zeY S l dst) && ((match q.dst with | some d=>zeY S l dst d | none=>true) && (zed S q.op).all fun id=> !p id && zi9 l (S.heap id))
 |none=>true
def zcv (S:St C) (l:List Nat):St C:={S with env:=fun t=>bif zA t l then .und else S.env t}
def zuQ (ops:Array Oper):List Nat:=ops.toList.filterMap (·.dst)
def w8 (ops:Array Oper) (n:Nat) (cl:List Nat) (taken:List Nat) (i:Nat) (o:Oper):Bool:=match o.dst with
  |none=>true
  |some d=>Nat.blt d n && (Nat.blt d vB && (!zA d (looks ops o) &&
      ((List.range ops.size).all fun j=>Nat.beq j i || (match ops[j]? with
        |none=>true
        |some q=>(bif zA j cl then (!zA j taken || !zA d (looks ops q)) else (!zA d (looks ops q) || zA i (zy q))) && (match q.dst with
            |some d'=> !Nat.beq d d'
            |none=>true)))))
def flB (C:Cod) (P:Program) (ops:Array Oper) (n j:Nat):Bool:=match ops[j]? with
  |none=>false
  |some o=>(match o.dst,o.op,o.guard with
    |some d,.alloc t,none=>(match P.info? t with
      |some ti=>(match ti.zero with
        |some zv=>(match C.oal t zv.cells.toList with
          |none=>Nat.blt d n && (Nat.blt d vB && (List.range ops.size).all fun j'=>Nat.beq j' j || (match ops[j']? with
              |none=>true
              |some q=>(!zA d (looks ops q) || zA j (zy q)) && (match q.dst with
                |some d'=> !Nat.beq d d'
                |none=>true)))
          |some _=>false)
        |none=>false)
      |none=>false)
    |_,_,_=>false)
def w9 (C:Cod) (P:Program) (ops:Array Oper) (n:Nat):List Nat:=(List.range ops.size).filter (flB C P ops n)
def rmL (i:Nat) (l:List Nat):List Nat:=l.filter fun j=> !Nat.beq j i
def zmg (ops:Array Oper) (fl cl:List Nat) (i:Nat):Bool:=(List.range ops.size).all fun j=>Nat.beq j i || (zA j fl || (zA j cl || (match ops[j]? with
 |none=>true
 |some q=> !zbh (zy q) (rmL i fl++cl))))
def zoW (ops:Array Oper) (fl cl:List Nat) (i i2:Nat):Bool:=(List.range ops.size).all fun j=>(Nat.beq j i || Nat.beq j i2) || (zA j fl || (zA j cl || (match ops[j]? with
 |none=>true
 |some q=> !zbh (zy q) (rmL i (rmL i2 fl)++cl))))
open Classical in
noncomputable def yM (a b:G3 α):G3 α:=if a=b then a else none
theorem ZC (a:G3 α):yM a a=a:=by unfold yM;grind
theorem zaf {a b:G3 α}{r:α}(h:yM a b=some r):a=some r/\b=some r:=by
 unfold yM at h;grind
def yw (stp:yC C) (tc:Oper->St C->G3 Tch) (P:Program) (n:Nat) (ops:Array Oper) (okB:Bool) (cl taken:List Nat) (m:Nat) (K:XE C->St C->G3 ρ) (i:Nat) (early:Bool) (o:Oper) (run:Bool) (S:St C) (next:St C->List Nat->G3 ρ):G3 ρ:=
  bif early then chk (w8 ops n cl taken i o) (bif run then (match o.dst with
      |some d=>chk (rdQ o.op) (zqd P S o.type o.op fun A=>next (S.put d A) (i::taken))
      |none=>none)
    else (match o.dst with
      |some d=>next (S.put d (.tup [])) (i::taken)
      |none=>next S (i::taken)))
  else chk okB (bif run then (match tc o S with
      |none=>none
      |some (l,p)=>chk (taken.all fun r=>Nat.testBit m r || zeZ ops S l p o.dst r) (stp o S _ fun out=>match out with
        | .go S'=>next S' taken
        | .pan v S'=>K (.pan v) (zcv S' (zuQ ops))))
    else chk (taken.all fun r=>Nat.testBit m r || zeZ ops S [] (fun _=>false) o.dst r) (match o.dst with
      |some d=>chk (Nat.blt d n) (next (S.put d (.tup [])) taken)
      |none=>next S taken))
def xd (stp:yC C) (tc:Oper->St C->G3 Tch) (P:Program) (n:Nat) (ops:Array Oper) (okB:Bool) (i:Nat) (early:Bool) (cl taken:List Nat) (al:List (Nat×Nat)) (S:St C) (K:XE C->St C->G3 ρ) (next:List Nat->List Nat->List (Nat×Nat)->St C->G3 ρ):G3 ρ:=match ops[i]? with
    |none=>none
    |some o=>chk (!zA i cl && zbh (zy o) cl) (match o.guard with
      |none=>yw stp tc P n ops okB cl taken (yK al (zy o)) K i early o true S fun S tk=>next (i::cl) tk ((i,yK al (zy o))::al) S
      |some (j,want)=>chk (zA j (zy o)) (match (ops[j]?).bind (·.dst) with
        |none=>none
        |some dg=>match S.env dg with
          | .bool q=>if q=true then yw stp tc P n ops okB cl taken (yK al (zy o)) K i early o want (S.put dg (.bool true)) (fun S tk=>next (i::cl) tk ((i,yK al (zy o))::al) S)
              else yw stp tc P n ops okB cl taken (yK al (zy o)) K i early o (!want) (S.put dg (.bool false)) (fun S tk=>next (i::cl) tk ((i,yK al (zy o))::al) S)
          | .tup []=>yw stp tc P n ops okB cl taken (yK al (zy o)) K i early o false S fun S tk=>next (i::cl) tk ((i,yK al (zy o))::al) S
          |_=>none))
def XG (ops:Array Oper) (cl:List Nat) (i:Nat):Bool:=match ops[i]? with
 |some o=> !zA i cl && zbh (zy o) cl
 |none=>false
noncomputable def ZH (stp:yC C) (tc:Oper->St C->G3 Tch) (P:Program) (n:Nat) (ops:Array Oper):List (Nat×Bool)->List Nat->List Nat->List (Nat×Nat)->St C->(XE C->St C->G3 ρ)->G3 ρ
  |[],cl,taken,al,S,K=>chk (zbh (List.range ops.size) cl) (K .normal S)
  |(i,early)::ord,cl,taken,al,S,K=>bif Nat.blt i 4096 then
      (bif XG ops cl i then xd stp tc P n ops (zmg ops (w9 C P ops n) cl i) i early cl taken al S K fun cl tk al S=>ZH stp tc P n ops ord cl tk al S K
      else ZH stp tc P n ops ord cl taken al S K)
    else bif XG ops cl ((i - 4096) / 64) && XG ops cl ((i - 4096) % 64) then chk (zoW ops (w9 C P ops n) cl ((i - 4096) / 64) ((i - 4096) % 64)) (yM
      (xd stp tc P n ops true ((i - 4096) / 64) false cl taken al S K fun cl tk al S=>ZH stp tc P n ops ord cl tk al S K)
      (xd stp tc P n ops true ((i - 4096) % 64) false cl taken al S K fun cl tk al S=>ZH stp tc P n ops ord cl tk al S K))
    else ZH stp tc P n ops ord cl taken al S K
end
variable [Dfr]
section
variable {κ:Kp}{C:Cod}{S S1:St C}{n:Nat}{w0:Start}{σ0:FS}{P:Program}{ρ:Type}{ops:Array Oper}{D:Nat->Prop}{Γ:List (Spec C)}{qo:Opts}
def xT (ops:Array Oper) (S:St C) (q:Oper) (run:Bool):Prop:=match q.guard with
 |none=>run=true
 |some (j,want)=>∃ dg,(ops[j]?).bind (·.dst)=some dg/\((∃ b,S.env dg = .bool b/\run=(b == want))\/(S.env dg = .tup []/\run=false))
def QV (P:Program) (ops:Array Oper) (S:St C) (q:Oper):Prop:=∃ run,xT ops S q run/\match run with
 |true=>rdQ q.op=true/\∃ d,q.dst=some d/\evQ P S q.type q.op=some (S.env d)
 |false=>∀ d,q.dst=some d->S.env d = .tup []
theorem xT.congr (h:xT ops S q run) (he:∀ t∈XM ops q,S1.env t=S.env t):xT ops S1 q run:=by
 unfold xT XM at *
 cases hg:q.guard with
 |none=>grind
 |some jw=>
  obtain ⟨j,want⟩:=jw;rw [hg] at h he;simp only at h he |-
  grind
theorem Wx {t:Nat}(h:t∈XM ops q):t∈looks ops q:=List.mem_append_right _ h
theorem zcw {ty:TypeId}(he:∀ t∈looks ops q,S1.env t=S.env t) (hh:∀ id∈zed S q.op,S1.heap id=S.heap id):evQ P S1 ty q.op=evQ P S ty q.op:=by
 have hop:∀ x∈q.op.operands.toList,S.op x=S1.op x:=fun x hx=>by
  cases x with
  |tmp t=>exact (he t (U6 _ (zbg hx))).symm
  |const v=>rfl
  |global g=>rfl
  |func f=>rfl
 unfold evQ;split
 ·rename_i t m parts e;rw [e] at hop;have:∀ e,Yd S1 e (parts.toList.map (·.2))=Yd S e (parts.toList.map (·.2)):=fun e=>zeT (S:=S1) (T:=S) fun x hx=>(hop x (by simpa [Op.operands] using hx)).symm
  unfold zcp;grind
 ·exact (zk2 (S:=S) (T:=S1) hop fun id hid=>(hh id hid).symm).symm
theorem QV.congr (h:QV P ops S q) (he:∀ t∈looks ops q,S1.env t=S.env t) (hd:∀ d,q.dst=some d->S1.env d=S.env d) (hh:∀ id∈zed S q.op,S1.heap id=S.heap id):QV P ops S1 q:=by
 obtain ⟨run,hg,h⟩:=h;refine ⟨run,hg.congr fun t ht=>he t (Wx ht),?_⟩;cases run with
 |true=>
  obtain ⟨h1,d,h2,h3⟩:=h;exact ⟨h1,d,h2,by rw [zcw he hh,h3,hd d h2]⟩
 |false=>grind
theorem zcx {t:Nat}(hk:Keeps S S1 dst l p) (h:zeY S l dst t=true):S1.env t=S.env t:=by
 simp only [zeY,g9] at h;obtain ⟨h1,h2,h3⟩:=h;refine hk.env t (by rwa [GZ] at h2) (fun e=>?_) h1;rw [e] at h3;simp at h3
omit [Dfr] in
theorem QV.keep {r:Nat}(h:QV P ops S q) (hk:Keeps S S1 dst l p) (hq:ops[r]?=some q) (hr:zeZ ops S l p dst r=true):QV P ops S1 q:=by
 unfold zeZ at hr;rw [hq] at hr;simp only [g9] at hr;obtain ⟨h1,h2,h3⟩:=hr;refine h.congr (fun t ht=>zcx hk (Uu.1 h1 t ht)) (fun d e=>?_) fun id hid=>?_
 ·rw [e] at h2;exact zcx hk h2
 ·have:=Uu.1 h3 id hid;simp only [g9,Ut] at this;exact hk.heap id this.1 this.2
theorem xT.wanted (h:xT ops S q run) (hA:At n w0 σ0 κ S a w):Region.wanted q (yielded ops a.tmps)=run:=by
 unfold xT at h;unfold Region.wanted;cases hg:q.guard with
 |none=>grind
 |some jw=>
  obtain ⟨j,want⟩:=jw;rw [hg] at h;simp only at h |-
  obtain ⟨dg,e,h⟩:=h;have hy:=hA.yield e;rcases h with ⟨b,h1,h2⟩ | ⟨h1,h2⟩
  ·rw [hy.1 b h1,h2];simp
  grind
theorem At.eqx (h:At n w0 σ0 κ S a w) (e:EqX (fun _=>False) S S1):At n w0 σ0 κ S1 a w:=by
 have:S=S1:=by
  obtain ⟨e1,h1⟩:=S;obtain ⟨e2,h2⟩:=S1;have a1:h1=h2:=e.heap;have a2:e1=e2:=funext fun t=>e.env t fun h=>h
  rw [a1,a2]
 grind
theorem zql (hgl:C.gl w0.w σ0) (hΓ:∀ s∈Γ,s.OK P) {r:Nat}{So:St C}(hq:ops[r]?=some q) (hA:At n w0 σ0 κ So a w) (hX:EqX D So S) (hv:QV P ops S q) (hl:∀ t∈looks ops q,¬ D t) (hn:∀ d,q.dst=some d->Nat.blt d n=true) 
    (hK:∀ S1 a' w',At n w0 σ0 κ S1 a' w'->EqX (fun t=>D t/\q.dst≠some t) S1 S->K a' w'):wpOp P ops Q r K a w:=by
  obtain ⟨run,hg,hv⟩:=hv;have hg':xT ops So q run:=hg.congr fun t ht=>hX.env t (hl t (Wx ht))
  have hput:∀ d A,q.dst=some d->S.env d=A->EqX (fun t=>D t/\q.dst≠some t) (So.put d A) S:=fun d A e eA=>⟨hX.heap,fun t ht=>by
    show upd So.env d A t=S.env t;by_cases h:t=d
    ·subst h;rw [zl,eA]
    · rw [zm h]
      exact hX.env t fun hd=>ht ⟨hd,fun e'=>h (by grind)⟩⟩
  unfold wpOp;rw [hq];simp only [hg'.wanted hA];cases run with
  |true=>
    simp only [jl];left;obtain ⟨hr,d,hd,he⟩:=hv;obtain ⟨L,b,Z,PV,hAb,hi,hf⟩:=hA;have hev:evQ P So q.type q.op=some (S.env d):=by
      rw [<- he];exact zcw (ops:=ops) (fun t ht=>hX.env t (hl t ht)) fun id _=>by rw [hX.heap]
    obtain ⟨ν,vs,ids,hAb⟩:=hAb;have hok:=zuI (P:=P) (n:=n) (w0:=w0) (σ0:=σ0) (q:=⟨false⟩) (Γ:=Γ) (ps:=q.pos) (af:=q.after) (g:=q.guard) hAb (hn d hd) hr hev;have hqe:q=⟨some d,q.op,q.type,q.pos,q.after,q.guard⟩:=by
      cases q;grind
    rw [<- hqe] at hok;refine hok _ rfl a w hi hf K Q ?_ ?_
    ·intro S' e L' Z' PV' a' w' hi' hf' hA';cases e;exact hK _ _ _ ⟨L',b,Z',PV',hA',hi',hf'⟩ (hput d _ hd rfl)
    grind
  |false=>
    simp only [jg,jk];cases hd:q.dst with
    |none=>
      refine hK So _ _ hA ⟨hX.heap,fun t ht=>hX.env t fun h=>ht ⟨h,by rw [hd];simp⟩⟩
    |some d=>exact hK _ _ _ (hA.skip (hn d hd)) (hput d _ hd (hv d hd))
def WfL (ops:Array Oper):List Nat->Prop
 |[]=>True
 |i::cl=>(∀ o,ops[i]?=some o->∀ j∈zy o,j∈cl)/\WfL ops cl
def ze0 (ops:Array Oper) (al:List (Nat×Nat)):Prop:=∀ i m,(i,m)∈al->∀ o,ops[i]?=some o->∀ X:Nat->Prop,(∀ k q,ops[k]?=some q->X k->∀ j∈zy q,X j)->(∀ j,X j->j < ops.size)->X i->∀ a,Nat.testBit m a=true->X a
theorem zgY:∀ {al:List (Nat×Nat)}{j a:Nat},Nat.testBit (zc9 al j) a=true->∃ m,(j,m)∈al/\Nat.testBit m a=true
 |[],j,a,h=>by simp [zc9] at h
 |(i,m)::r,j,a,h=>by
  unfold zc9 at h;cases e:Nat.beq i j with
  |true=>rw [e] at h;have:=jz e;grind
  |false=>
   rw [e] at h;obtain ⟨m',h1,h2⟩:=zgY h;grind
theorem zja {a:Nat}(h:Nat.testBit (Nat.shiftLeft 1 j) a=true):a=j:=by
 have h:Nat.testBit (1 <<< j) a=true:=h;rw [Nat.one_shiftLeft,Nat.testBit_two_pow] at h;grind
theorem zda {al:List (Nat×Nat)}(hal:ze0 ops al) (X:Nat->Prop) (hX:∀ k q,ops[k]?=some q->X k->∀ j∈zy q,X j) (hin:∀ j,X j->j < ops.size):∀ {ds:List Nat},(∀ j∈ds,X j)->∀ a,Nat.testBit (yK al ds) a=true->X a
 |[],_,a,h=>by simp [yK] at h
 |j::ds,hd,a,h=>by
  have h:Nat.testBit (((Nat.shiftLeft 1 j) ||| (zc9 al j)) ||| (yK al ds)) a=true:=h;rw [Nat.testBit_or,Nat.testBit_or,GO,GO] at h;rcases h with (h | h) | h
  ·rw [zja h];grind
  ·obtain ⟨m,h1,h2⟩:=zgY h;have hj:=hd j (by simp);obtain ⟨o,ho⟩:∃ o,ops[j]?=some o:=⟨ops[j]'(hin j hj),Array.getElem?_eq_getElem _⟩
   exact hal j m h1 o ho X hX hin hj a h2
  ·exact zda hal X hX hin (fun k hk=>hd k (Uz _ hk)) a h
end
variable [Dfr]
abbrev onX (X:Array Bool) (k:Nat):Bool:=X.getD k false
theorem zeh {X:Array Bool}(h:i < X.size):onX (X.setIfInBounds i true) i=true:=by
 unfold onX;rw [G7];simp [h]
theorem wC {X:Array Bool}(h:i≠k):onX (X.setIfInBounds i true) k=onX X k:=by
 unfold onX;rw [G7,Array.getElem?_setIfInBounds_ne h,<- G7]
theorem YN {X:Array Bool}(h:onX X k=true):onX (X.setIfInBounds i true) k=true:=by
 by_cases e:i=k
 ·subst e;rcases Nat.lt_or_ge i X.size with z | z
  ·exact zeh z
  grind
 ·rw [wC e];exact h
theorem Ys {X:Array Bool}(h:onX (X.setIfInBounds i true) k=false):onX X k=false:=by
 cases e:onX X k with
 |false=>rfl
 |true=>rw [YN e] at h;cases h
theorem zf9 {X:Array Bool}(hi:i < X.size) (h:onX X i=false) {fuel:Nat}(hc:X.toList.count false<=fuel+1):(X.setIfInBounds i true).toList.count false<=fuel:=by
 rw [Array.toList_setIfInBounds,List.count_set (by simpa using hi)];have h0:X.toList[i]'(by simpa using hi)=false:=by
  unfold onX at h;rw [G7] at h;grind
 grind
theorem zk8 {X:Array Bool}(hi:i < X.size) (h:onX X i=false):0 < X.toList.count false:=by
 rw [List.count_pos_iff];have h0:X.toList[i]'(by simpa using hi)=false:=by
  unfold onX at h;rw [G7] at h;grind
 grind
section
variable {Fx:List Nat}{κ:Kp}{C:Cod}{S S':St C}{n:Nat}{w0:Start}{σ0:FS}{P:Program}{ρ:Type}{ops:Array Oper}{Γ:List (Spec C)}{qo:Opts}{cl taken:List Nat}{al:List (Nat×Nat)}{X:Array Bool}
structure Cfg (P:Program) (ops:Array Oper) (n:Nat) (cl taken:List Nat) (al:List (Nat×Nat)) (S:St C) (X:Array Bool) (Fx:List Nat):Prop where
 size:X.size=ops.size
 sub:∀ i,onX X i=true->i∈cl\/i∈Fx
 fon:∀ i∈Fx,onX X i=true/\i ∉ cl
 wf:WfL ops cl
 tk:∀ i∈cl,onX X i=false->i∈taken
 inc:∀ i∈cl,i < ops.size
 tcl:∀ i∈taken,i∈cl
 closed:∀ k q,ops[k]?=some q->onX X k=true->∀ j∈zy q,onX X j=true
 qv:∀ r q,r∈taken->onX X r=false->ops[r]?=some q->QV P ops S q
 ds:∀ r q d,r∈taken->onX X r=false->ops[r]?=some q->q.dst=some d->Nat.blt d n=true/\d < vB/\d ∉ looks ops q/\∀ j o,ops[j]?=some o->j≠r->(onX X j=false->d∈looks ops o->r∈zy o)/\o.dst≠some d
 anc:ze0 ops al
def zmh (ops:Array Oper) (taken:List Nat) (X:Array Bool) (t:Nat):Prop:=∃ r q,r∈taken/\onX X r=false/\ops[r]?=some q/\q.dst=some t
theorem Cfg.hit (h:Cfg P ops n cl taken al S X Fx) (hi:i∈cl) (hd:∀ q,ops[i]?=some q->∀ j∈zy q,onX X j=true):Cfg P ops n cl taken al S (X.setIfInBounds i true) Fx where
 size:=by simp [h.size]
 sub k hk:=by
  by_cases e:i=k
  ·grind
  ·rw [wC e] at hk;exact h.sub k hk
 fon k hk:=⟨YN (h.fon k hk).1,(h.fon k hk).2⟩
 wf:=h.wf
 tk k hk ho:=h.tk k hk (Ys ho)
 inc:=h.inc
 tcl:=h.tcl
 closed k q hq hk j hj:=by
  by_cases e:i=k
  ·subst e;exact YN (hd q hq j hj)
  ·rw [wC e] at hk;exact YN (h.closed k q hq hk j hj)
 qv r q hr ho hq:=h.qv r q hr (Ys ho) hq
 ds r q d hr ho hq he:=by
  obtain ⟨h1,h2,h3,h4⟩:=h.ds r q d hr (Ys ho) hq he;exact ⟨h1,h2,h3,fun j o hj hne=>⟨fun k=>(h4 j o hj hne).1 (Ys k),(h4 j o hj hne).2⟩⟩
 anc:=h.anc
omit [Dfr] in
theorem ze0.add (h:ze0 ops al) {o:Oper}(ho:ops[i]?=some o):ze0 ops ((i,yK al (zy o))::al):=by
 intro j m hm q hq Y hY hin hj a ha;rcases Ua.1 hm with e | e
 ·cases e;rw [ho] at hq;cases hq;exact zda h Y hY hin (hY i o ho hj) a ha
 ·exact h j m e q hq Y hY hin hj a ha
theorem Cfg.sync (h:Cfg P ops n cl taken al S X Fx) {o:Oper}(ho:ops[i]?=some o) (hi:i ∉ cl) (hiF:i ∉ Fx) (hd:∀ j∈zy o,j∈cl) (hx:∀ j∈zy o,onX X j=true) (hq:∀ r q,r∈taken->onX X r=false->ops[r]?=some q->QV P ops S' q):Cfg P ops n (i::cl) taken ((i,yK al (zy o))::al) S' (X.setIfInBounds i true) Fx where
 size:=by simp [h.size]
 sub k hk:=by
  by_cases e:i=k
  ·subst e;simp
  ·rw [wC e] at hk;exact (h.sub k hk).imp_left (Uz _)
 fon k hk:=⟨YN (h.fon k hk).1,fun hm=>by
  rcases Ua.1 hm with e | e
  ·grind
  ·exact (h.fon k hk).2 e⟩
 wf:=⟨fun o' ho' j hj=>by grind,h.wf⟩
 tk k hk hoff:=by
  rcases Ua.1 hk with e | e
  ·subst e;rw [zeh (by rw [h.size];grind)] at hoff;cases hoff
  ·exact h.tk k e (Ys hoff)
 inc k hk:=by
  rcases Ua.1 hk with e | e
  ·grind
  ·exact h.inc k e
 tcl k hk:=Uz _ (h.tcl k hk)
 closed k q hq hk j hj:=by
  by_cases e:i=k
  ·subst e;rw [ho] at hq;cases hq;exact YN (hx j hj)
  ·rw [wC e] at hk;exact YN (h.closed k q hq hk j hj)
 qv r q hr hoff hq':=hq r q hr (Ys hoff) hq'
 ds r q d hr hoff hq he:=by
  obtain ⟨h1,h2,h3,h4⟩:=h.ds r q d hr (Ys hoff) hq he;exact ⟨h1,h2,h3,fun j o hj hne=>⟨fun k=>(h4 j o hj hne).1 (Ys k),(h4 j o hj hne).2⟩⟩
 anc:=h.anc.add ho
omit [Dfr] in
theorem Cfg.early (h:Cfg P ops n cl taken al S X Fx) {o:Oper}(ho:ops[i]?=some o) (hi:i ∉ cl) (hiF:i ∉ Fx) (hd:∀ j∈zy o,j∈cl) (he:w8 ops n cl taken i o=true) (hv:QV P ops S' o) (hS:∀ t,o.dst≠some t->S'.env t=S.env t) (hh:S'.heap=S.heap) :
    Cfg P ops n (i::cl) (i::taken) ((i,yK al (zy o))::al) S' X Fx:=by
  have he2:∀ d,o.dst=some d->Nat.blt d n=true/\d < vB/\d ∉ looks ops o/\∀ j q,ops[j]?=some q->j≠i->(j∈cl->j∈taken->d ∉ looks ops q)/\(j ∉ cl->d∈looks ops q->i∈zy q)/\q.dst≠some d:=fun d e=>by
    unfold w8 at he;rw [e] at he;simp only [g9,Ut] at he;obtain ⟨h1,h2,h3,h4⟩:=he;refine ⟨h1,by rwa [GZ] at h2,fun hm=>(by rw [zN.2 hm] at h3;cases h3),fun j q hj hne=>?_⟩;have:=Uu.1 h4 j (U3.2 (G9.1 hj).1);rw [hj] at this;simp only [GO,g9] at this;rcases this with z | ⟨z1,z2⟩
    ·exact absurd (jz z) hne
    · refine ⟨fun hc ht hm=>?_,fun hc hm=>?_,fun e'=>?_⟩
      ·rw [zN.2 hc,Uv,zN.2 ht,zN.2 hm] at z1;cases z1
      · have:zA j cl=false:=by
          cases e:zA j cl with
          |false=>rfl
          |true=>exact absurd (zN.1 e) hc
        rw [this,G8,zN.2 hm] at z1;exact zN.1 (by simpa using z1)
      ·rw [e'] at z2;simp at z2
  refine ⟨h.size,fun k hk=>(h.sub k hk).imp_left (Uz _),fun k hk=>⟨(h.fon k hk).1,fun hm=>(by
    rcases Ua.1 hm with e | e
    ·grind
    ·exact (h.fon k hk).2 e)⟩,⟨fun o' ho' j hj=>by grind,h.wf⟩,fun k hk hoff=>?_,fun k hk=>?_,fun k hk=>?_,h.closed,fun r q hr hoff hq=>?_,fun r q d hr hoff hq e=>?_,h.anc.add ho⟩
  · rcases Ua.1 hk with e | e
    ·subst e;simp
    ·exact Uz _ (h.tk k e hoff)
  · rcases Ua.1 hk with e | e
    ·grind
    ·exact h.inc k e
  · rcases Ua.1 hk with e | e
    ·subst e;simp
    ·exact Uz _ (h.tcl k e)
  · rcases Ua.1 hr with e | e
    ·grind
    · have hne:r≠i:=fun e'=>hi (e' ▸ h.tcl r e)
      refine (h.qv r q e hoff hq).congr (fun t ht=>?_) (fun d ed=>?_) fun id _=>by rw [hh]
      ·exact hS t fun e'=>((he2 t e').2.2.2 r q hq hne).1 (h.tcl r e) e ht
      grind
  · rcases Ua.1 hr with e' | e'
    · subst e';rw [ho] at hq;cases hq;obtain ⟨h1,h2,h3,h4⟩:=he2 d e;refine ⟨h1,h2,h3,fun j o' hj hne=>⟨fun hoff' hm=>?_,(h4 j o' hj hne).2.2⟩⟩;by_cases hc:j∈cl
      ·exact absurd hm ((h4 j o' hj hne).1 hc (h.tk j hc hoff'))
      grind
    ·exact h.ds r q d e' hoff hq e
theorem zqm:∀ {cl:List Nat},WfL ops cl->(∀ i∈cl,i < ops.size)->(∃ i∈cl,onX X i=false)->∃ i q,i∈cl/\onX X i=false/\ops[i]?=some q/\∀ j∈zy q,onX X j=true
 |[],_,_,⟨i,h,_⟩=>by cases h
 |i::cl,⟨h1,h2⟩,hin,hex=>by
  by_cases hx:∃ i∈cl,onX X i=false
  ·obtain ⟨j,q,k1,k2,k3,k4⟩:=zqm h2 (fun j hj=>hin j (Uz _ hj)) hx;grind
  ·have hall:∀ j∈cl,onX X j=true:=fun j hj=>by
    grind
   obtain ⟨j,hj,hoff⟩:=hex;rcases Ua.1 hj with e | e
   ·subst e;have hlt:=hin j (by simp);exact ⟨j,ops[j],by simp,hoff,Array.getElem?_eq_getElem hlt,fun k hk=>hall k (h1 _ (Array.getElem?_eq_getElem hlt) k hk)⟩
   grind
theorem YB (hs:X.size=ops.size) :i∈Region.ready .any ops X↔onX X i=false/\∃ o,ops[i]?=some o/\∀ j∈zy o,onX X j=true:=by
 rw [mem_ready];constructor
 ·rintro ⟨h1,o,h2,h3⟩;have hlt:i < X.size:=by grind
  refine ⟨by grind,o,h2,fun j hj=>?_⟩;obtain ⟨e,he,rfl⟩:=U0.1 hj;grind
 ·rintro ⟨h1,o,h2,h3⟩;have hlt:i < X.size:=by grind
  exact ⟨by grind,o,h2,fun e he hb=>h3 e.on (zmf he hb)⟩
theorem zgZ (hall:∀ i∈taken,onX X i=true):∀ t,¬ zmh ops taken X t:=fun t ⟨r,q,h1,h2,_⟩=>by grind
theorem EqX.weaken {D D':Nat->Prop}{So:St C}(h:EqX D So S) (hD:∀ t,D t->D' t):EqX D' So S:=⟨h.heap,fun t ht=>h.env t fun hd=>ht (hD t hd)⟩
theorem AbsL.mask {L:List (Nat×Value)}{b:Nat->Value}{Z:FS}{PV:List Priv}{ν:Val}{vs:Nat->List Value}{ids:List Nat}{So:St C}(h:AbsL κ So ν vs ids L b Z PV) (e:EqX (fun t=>t∈l) So S):AbsL κ (zcv S l) ν vs ids L b Z PV:=by
 have hh:(zcv S l).heap=So.heap:=e.heap.symm;have henv:∀ t,(zcv S l).env t = .und\/(zcv S l).env t=So.env t:=fun t=>by
  show (bif zA t l then AV.und else S.env t)=_\/(bif zA t l then AV.und else S.env t)=_;cases hm:zA t l with
  |true=>exact .inl rfl
  |false=>
   refine .inr (e.env t fun hd=>?_).symm;rw [zN.2 hd] at hm;cases hm
 refine ⟨⟨h.nd,fun id=>by rw [hh];exact h.dom id,by rw [h.pv,hh],fun id cs hc=>h.cell id cs (by grind),fun t=>?_,h.one⟩,fun t=>?_,fun id cs hc=>?_,fun k hk hs=>have q:=h.keep k hk (by grind);⟨q.1,q.2.1,fun hf=>q.2.2 (by grind)⟩⟩
 ·rcases henv t with z | z
  ·rw [z];trivial
  ·rw [z];exact h.env t
 ·rcases henv t with z | z
  ·rw [z];trivial
  ·rw [z,hh];exact h.live t
 ·rw [hh] at hc |-;exact h.livec id cs hc
theorem zk9 {d:Nat}{A:AV C.D}(h:S.env d=A):S.put d A=S:=by
 unfold St.put;have:upd S.env d A=S.env:=by
  funext t;by_cases e:t=d
  ·subst e;rw [zl,h]
  ·rw [zm e]
 rw [this]
theorem zW.inv {D:Nat->Prop}{x:G3 (Out C)}{out:Out C}(h:zW D x (some out)):∃ out',x=some out'/\match out',out with
    | .go S,.go T=>EqX D S T
    | .pan u S,.pan v T=>u=v/\EqX D S T
    |_,_=>False:=by
  match x,out,h with
  |some (.go S),.go T,h=>exact ⟨_,rfl,h⟩
  |some (.pan u S),.pan v T,h=>exact ⟨_,rfl,h⟩
  |some (.go S),.pan v T,h=>exact h.elim
  |some (.pan u S),.go T,h=>exact h.elim
theorem YO {early:Bool}{next:List Nat->List Nat->List (Nat×Nat)->St C->G3 ρ}{K:XE C->St C->G3 ρ}{r:ρ}{stp:yC C}{tc:Oper->St C->G3 Tch}(h:xd stp tc P n ops okB i early cl taken al S K next=some r) :
    ∃ o run,ops[i]?=some o/\i ∉ cl/\(∀ j∈zy o,j∈cl)/\(∀ t∈XM ops o,∃ j,j∈zy o/\(ops[j]?).bind (·.dst)=some t)/\xT ops S o run/\yw stp tc P n ops okB cl taken (yK al (zy o)) K i early o run S (fun S tk=>next (i::cl) tk ((i,yK al (zy o))::al) S)=some r:=by
  unfold xd at h;split at h
  ·cases h
  · rename_i o ho;obtain ⟨hc,h⟩:=zb h;simp only [g9,Ut] at hc;have h1:i ∉ cl:=fun hm=>by rw [zN.2 hm] at hc;cases hc.1
    have h2:∀ j∈zy o,j∈cl:=fun j hj=>zN.1 (Uu.1 hc.2 j hj)
    split at h
    ·rename_i hg;exact ⟨o,true,ho,h1,h2,fun t ht=>(by unfold XM at ht;grind),(by unfold xT;rw [hg]),h⟩
    · rename_i j want hg;obtain ⟨hj,h⟩:=zb h;have hj:=zN.1 hj;split at h
      ·cases h
      · rename_i dg hdg;have hgt:∀ t∈XM ops o,∃ j,j∈zy o/\(ops[j]?).bind (·.dst)=some t:=fun t ht=>by
          unfold XM at ht;rw [hg] at ht;grind
        have hgr:∀ {run:Bool},((∃ b,S.env dg = .bool b/\run=(b == want))\/(S.env dg = .tup []/\run=false))->xT ops S o run:=fun {run} k=>by
          unfold xT;grind
        split at h
        · rename_i q e;cases q with
          |true=>
            rw [jr rfl,zk9 e] at h;exact ⟨o,want,ho,h1,h2,hgt,hgr (.inl ⟨true,e,by simp⟩),h⟩
          |false=>
            rw [js (by simp),zk9 e] at h;grind
        all_goals grind
theorem zcy {early:Bool}{K:XE C->St C->G3 ρ}{stp:yC C}{tc:Oper->St C->G3 Tch}(hi:Nat.blt i 4096=true) (hr:XG ops cl i=true):ZH stp tc P n ops ((i,early)::ord) cl taken al S K=xd stp tc P n ops (zmg ops (w9 C P ops n) cl i) i early cl taken al S K fun cl tk al S=>ZH stp tc P n ops ord cl tk al S K:=by
 show (bif Nat.blt i 4096 then (bif XG ops cl i then _ else _) else _)=_;rw [hi,hr,Uv,Uv]
theorem zb0 {early:Bool}{K:XE C->St C->G3 ρ}{stp:yC C}{tc:Oper->St C->G3 Tch}(hi:Nat.blt i 4096=true) (hr:XG ops cl i=false):ZH stp tc P n ops ((i,early)::ord) cl taken al S K=ZH stp tc P n ops ord cl taken al S K:=by
 show (bif Nat.blt i 4096 then (bif XG ops cl i then _ else _) else _)=_;rw [hi,hr,Uv,G8]
theorem zcz {early:Bool}{K:XE C->St C->G3 ρ}{stp:yC C}{tc:Oper->St C->G3 Tch}(hi:Nat.blt i 4096=false):ZH stp tc P n ops ((i,early)::ord) cl taken al S K=(bif XG ops cl ((i - 4096) / 64) && XG ops cl ((i - 4096) % 64) then chk (zoW ops (w9 C P ops n) cl ((i - 4096) / 64) ((i - 4096) % 64)) (yM
      (xd stp tc P n ops true ((i - 4096) / 64) false cl taken al S K fun cl tk al S=>ZH stp tc P n ops ord cl tk al S K)
      (xd stp tc P n ops true ((i - 4096) % 64) false cl taken al S K fun cl tk al S=>ZH stp tc P n ops ord cl tk al S K))
    else ZH stp tc P n ops ord cl taken al S K):=by
  show (bif Nat.blt i 4096 then (bif XG ops cl i then _ else _) else _)=_;rw [hi,G8]
theorem zmi {o:Oper}{K:XE C->St C->G3 ρ}{r:ρ}{stp:yC C}{tc:Oper->St C->G3 Tch}{next:St C->List Nat->G3 ρ}(hg:xT ops S o run) (hgl:∀ t∈XM ops o,o.dst≠some t)
    {okB:Bool} (h:yw stp tc P n ops okB cl taken m K i true o run S next=some r):w8 ops n cl taken i o=true/\∃ S',next S' (i::taken)=some r/\QV P ops S' o/\(∀ t,o.dst≠some t->S'.env t=S.env t)/\S'.heap=S.heap:=by
  unfold yw at h;rw [Uv] at h;obtain ⟨he,h⟩:=zb h;refine ⟨he,?_⟩;have hlook:∀ d,o.dst=some d->d ∉ looks ops o:=fun d e hm=>by
    unfold w8 at he;rw [e] at he;simp only [g9,Ut] at he;rw [zN.2 hm] at he;cases he.2.2.1
  have hput:∀ d A t,o.dst=some d->o.dst≠some t->(S.put d A).env t=S.env t:=fun d A t e k=>zm fun e'=>k (by rw [e,e'])
  cases run with
  |true=>
    rw [Uv] at h;split at h
    · rename_i d hd;obtain ⟨hr,h⟩:=zb h;rw [ztC] at h;obtain ⟨A,hA,h⟩:=jy h;refine ⟨_,h,⟨true,hg.congr fun t ht=>hput d A t hd (hgl t ht),hr,d,hd,?_⟩,fun t k=>hput d A t hd k,rfl⟩;rw [zcw (ops:=ops) (S:=S) (fun t ht=>hput d A t hd fun e=>?_) fun id _=>rfl,hA]
      ·show some A=some (upd S.env d A d);rw [zl]
      grind
    ·cases h
  |false=>
    rw [G8] at h;split at h
    ·rename_i d hd;refine ⟨_,h,⟨false,hg.congr fun t ht=>hput d _ t hd (hgl t ht),fun d' e=>?_⟩,fun t k=>hput d _ t hd k,rfl⟩;rw [hd] at e;cases e;exact zl
    ·rename_i hd;exact ⟨_,h,⟨false,hg,fun d' e=>by grind⟩,fun t _=>rfl,rfl⟩
theorem Sep.perm {Z:FS}{A B:List Priv}(p:A.Perm B):∀ {h:zc},Sep Z A h->Sep Z B h:=by
 induction p with
 |nil=>grind
 |cons x _ ih=>
  intro h k;obtain ⟨h1,h2,k1,k2,l1,l2,d⟩:=k.uncons;exact .cons k1 (ih k2) l1 l2 d
 |swap x y l=>
  intro h k;obtain ⟨h1,h2,k1,k2,l1,l2,d⟩:=k.uncons;obtain ⟨g1,g2,m1,m2,n1,n2,e⟩:=k2.uncons;have d1:h1.disj g2:=d.mono (.refl _) n2;exact .cons (h2:=h1.or g2) m1 (.cons k1 m2 (zc.le_or _ _) (zc.le_or_right d1) d1) (n1.trans l2) (zc.or_le l1 (n2.trans l2)) ((zc.or_disj (d.mono (.refl _) n1) e.symm).symm)
 |trans _ _ i1 i2=>grind
omit [Dfr] in
structure Home (C:Cod) (w0:Start) (σ0:FS) (st:Start) (σs:FS) (FR:List Priv):Prop where
 home:∀ {Z PV w},Inv st σs Z PV w->Inv w0 σ0 Z (PV++FR) w
 gl:C.gl st.w σs
theorem Home.make (hgl:C.gl w0.w σ0) {A B:List Priv}{Z:FS}(hi:Inv w0 σ0 Z (A++B) w):∃ st,Home C w0 σ0 st Z B/\Inv st Z Z A w:=by
 obtain ⟨gg,hs,hg⟩:=hi.own;obtain ⟨f1,f2,s1,s2,l1,l2,dd⟩:=hs.split;exact ⟨⟨w,f1⟩,⟨fun {τ PV w'} k=>hi.call hg s2 l1 l2 dd k,C.glm hi.le hi.ext hgl⟩,.start hi.sub s1 (hg.sub.mono l1) (hg.mono l1).apart⟩
structure Fl where
 i:Nat
 d:Nat
 ad:Addr
 zs:List Value
def frF (F:List Fl):List Priv:=F.map fun f =>.cell f.ad f.zs
def zuR (C:Cod) (P:Program) (ops:Array Oper) (n i d:Nat) (zs:List Value):Prop:=
 ∃ o t ti zv,ops[i]?=some o/\o.dst=some d/\o.op = .alloc t/\o.guard=none/\P.info? t=some ti/\ti.zero=some zv/\zv.cells.toList=zs/\C.oal t zs=none/\Nat.blt d n=true/\d < vB/\∀ j q,ops[j]?=some q->j≠i->(d∈looks ops q->i∈zy q)/\q.dst≠some d
theorem zuS (h:i∈w9 C P ops n):∃ d zs,zuR C P ops n i d zs:=by
 have h:=(U2.1 h).2;unfold flB at h;split at h
 ·cases h
 ·rename_i o ho;split at h
  ·rename_i d t e1 e2 e3;split at h
   ·rename_i ti hti;split at h
    ·rename_i zv hz;split at h
     ·rename_i hoal;simp only [g9] at h;obtain ⟨h1,h2,h3⟩:=h;refine ⟨d,_,o,t,ti,zv,ho,e1,e2,e3,hti,hz,rfl,hoal,h1,by rwa [GZ] at h2,fun j q hq hne=>?_⟩;have:=Uu.1 h3 j (U3.2 (G9.1 hq).1);rw [hq] at this;simp only [GO,g9,Ut] at this;rcases this with z | ⟨z1,z2⟩
      ·exact absurd (jz z) hne
      ·refine ⟨fun hm=>?_,fun e=>?_⟩
       ·rcases z1 with z | z
        ·rw [zN.2 hm] at z;cases z
        ·exact zN.1 z
       ·rw [e] at z2;simp at z2
     ·cases h
    ·cases h
   ·cases h
  ·cases h
structure FOK (C:Cod) (P:Program) (ops:Array Oper) (n:Nat) (a:Act) (F:List Fl):Prop where
 op:∀ f∈F,zuR C P ops n f.i f.d f.zs
 fl:∀ f∈F,f.i∈w9 C P ops n
 val:∀ f∈F,a.tmps.getD f.d undef = .pointer (some f.ad)
 nd:(F.map Fl.i).Nodup
def flD (ops:Array Oper) (taken:List Nat) (X:Array Bool) (F:List Fl) (t:Nat):Prop:=zmh ops taken X t\/∃ f∈F,f.d=t
structure Rl (P:Program) (ops:Array Oper) (n:Nat) (w0:Start) (σ0:FS) (κ:Kp) (taken:List Nat) (X:Array Bool) (F:List Fl) (So S:St C) (a:Act) (w:World):Prop where
 at_:∃ st σs,Home C w0 σ0 st σs (frF F)/\At n st σs κ So a w
 eqx:EqX (flD ops taken X F) So S
 fok:FOK C P ops n a F
def zdb (ops:Array Oper) (j:Nat) (a a':Act):Prop:=∀ t,(∀ o,ops[j]?=some o->o.dst≠some t)->a'.tmps.getD t undef=a.tmps.getD t undef
theorem vS {v:Value}{t:Nat}(h:dst≠some t):(a.put dst v).tmps.getD t undef=a.tmps.getD t undef:=by
 cases dst with
 |none=>rfl
 |some d=>
  show (a.tmps.setIfInBounds d v).getD t undef=_;rw [G7,Array.getElem?_setIfInBounds_ne (fun e=>h (by rw [e])),<- G7]
theorem zla {o:Oper}(h:o.wp P a w K Q):o.wp P a w (fun a' w'=>K a' w'/\∀ t,o.dst≠some t->a'.tmps.getD t undef=a.tmps.getD t undef) Q:=by
 unfold Oper.wp at *
 generalize (execOp a.eval o).run P w=r at *
 cases r with
 |ok n w'=>
  cases n <;> simp only [Oper.upon] at h |- <;>
   first
    |exact ⟨h,fun t ht=>vS ht⟩
    |exact Calls.mono h (fun e w'' he=>by cases e <;> first | exact ⟨he,fun t ht=>vS ht⟩ | exact he)
    |exact Rows.mono h (fun _ _ he=>⟨he,fun t ht=>vS ht⟩)
    |exact h
 |halt x w'=>cases x <;> simp only [Oper.upon] at h |- <;> exact h
theorem zg0 (h:wpOp P ops Q j K a w):wpOp P ops Q j (fun a' w'=>K a' w'/\zdb ops j a a') a w:=by
 unfold wpOp zdb at *
 cases ho:ops[j]? with
 |none=>grind
 |some o=>
  rw [ho] at h;simp only at h |-
  split
  ·rename_i hw;rw [jr hw] at h;refine h.imp (fun h=>Oper.wp_mono (fun a' w' hk=>⟨hk.1,fun t ht=>hk.2 t (ht o rfl)⟩) (zla h)) id
  ·rename_i hw;rw [js hw] at h;exact ⟨h,fun t ht=>vS (ht o rfl)⟩
omit [Dfr] in
theorem FOK.next {a':Act}{F:List Fl}(h:FOK C P ops n a F) (ht:zdb ops j a a') (hj:∀ f∈F,f.i≠j):FOK C P ops n a' F:=
 ⟨h.op,h.fl,fun f hf=>by
  obtain ⟨o,t,ti,zv,_,_,_,_,_,_,_,_,_,_,p⟩:=h.op f hf
  rw [ht f.d fun q hq=>(p j q hq (hj f hf).symm).2];exact h.val f hf,h.nd⟩
theorem WfL.deps (hq:ops[j]?=some q) (hk:k∈zy q):∀ {cl:List Nat},WfL ops cl->j∈cl->k∈cl:=by
 intro cl
 induction cl with
 |nil=>grind
 |cons i cl ih=>
  intro h hj;obtain ⟨h1,h2⟩:=(show (∀ o,ops[i]?=some o->∀ j∈zy o,j∈cl)/\WfL ops cl from h);rcases Ua.1 hj with e | e
  all_goals grind
omit [Dfr] in
theorem Cfg.flt (h:Cfg P ops n cl taken al S X Fx) {o:Oper}(ho:ops[i]?=some o) (hi:i ∉ cl) (hx:∀ j∈zy o,onX X j=true):Cfg P ops n cl taken al S (X.setIfInBounds i true) (i::Fx) where
 size:=by simp [h.size]
 sub k hk:=by
  by_cases e:i=k
  ·grind
  ·rw [wC e] at hk;exact (h.sub k hk).imp_right (Uz _)
 fon k hk:=by
  rcases Ua.1 hk with e | e
  ·subst e;exact ⟨zeh (by rw [h.size];grind),hi⟩
  ·exact ⟨YN (h.fon k e).1,(h.fon k e).2⟩
 wf:=h.wf
 tk k hk hoff:=h.tk k hk (Ys hoff)
 inc:=h.inc
 tcl:=h.tcl
 closed k q hq hk j hj:=by
  by_cases e:i=k
  ·subst e;rw [ho] at hq;cases hq;exact YN (hx j hj)
  ·rw [wC e] at hk;exact YN (h.closed k q hq hk j hj)
 qv r q hr ho hq:=h.qv r q hr (Ys ho) hq
 ds r q d hr ho hq he:=by
  obtain ⟨h1,h2,h3,h4⟩:=h.ds r q d hr (Ys ho) hq he;exact ⟨h1,h2,h3,fun j o hj hne=>⟨fun k=>(h4 j o hj hne).1 (Ys k),(h4 j o hj hne).2⟩⟩
 anc:=h.anc
theorem Cfg.absorb (h:Cfg P ops n cl taken al S X Fx) {Fy:List Nat}{o:Oper}(ho:ops[i]?=some o) (hi:i∈Fx) (hd:∀ j∈zy o,j∈cl) (hF:∀ k,k∈Fy↔k∈Fx/\k≠i) (hq:∀ r q,r∈taken->onX X r=false->ops[r]?=some q->QV P ops S' q):Cfg P ops n (i::cl) taken ((i,yK al (zy o))::al) S' X Fy where
 size:=h.size
 sub k hk:=by
  rcases h.sub k hk with z | z
  ·grind
  grind
 fon k hk:=by
  obtain ⟨h1,h2⟩:=(hF k).1 hk;refine ⟨(h.fon k h1).1,fun hm=>?_⟩;rcases Ua.1 hm with e | e
  ·exact h2 e
  ·exact (h.fon k h1).2 e
 wf:=⟨fun o' ho' j hj=>by grind,h.wf⟩
 tk k hk hoff:=by
  rcases Ua.1 hk with e | e
  ·subst e;rw [(h.fon k hi).1] at hoff;cases hoff
  ·exact h.tk k e hoff
 inc k hk:=by
  rcases Ua.1 hk with e | e
  ·grind
  ·exact h.inc k e
 tcl k hk:=Uz _ (h.tcl k hk)
 closed:=h.closed
 qv:=hq
 ds:=h.ds
 anc:=h.anc.add ho
theorem zkG {d:Nat}{t:TypeId}:YU P S (some d) (.alloc t)=none:=by unfold YU;rfl
theorem zmj {d:Nat}{t ty:TypeId}:X1 qo Γ P d ty S (.alloc t)=xN P S d t:=by unfold X1;rfl
theorem zmk {d:Nat}{t ty:TypeId}{ps:String}{af:Array Edge}{g:G3 (Nat×Bool)}:stp qo Γ P n ⟨some d,.alloc t,ty,ps,af,g⟩ S=chk (Nat.blt d n) (xN P S d t):=by
 unfold stp;simp only [zkG];unfold vO;simp only [zmj]
theorem zoX {o:Oper}{d:Nat}{t:TypeId}{zv:Value}{zs:List Value}{out:Out C}(p2:o.dst=some d) (p3:o.op = .alloc t) (p5:P.info? t=some ti) (p6:ti.zero=some zv) (p7:zv.cells.toList=zs) (p8:C.oal t zs=none) (hs:stp qo Γ P n o S=some out) :
    S.heap (nid d 0)=none/\out = .go {env:=upd S.env d (.pc (nid d 0) 0),heap:=upd S.heap (nid d 0) (some (.cell (zs.map yd)))}:=by
  obtain ⟨dst,op,ty,ps,af,g⟩:=o;simp only at p2 p3;subst p2 p3 p7;rw [zmk] at hs;obtain ⟨_,hs⟩:=zb hs;unfold xN at hs;rw [p5] at hs;simp only [p6,p8] at hs;obtain ⟨h0,hs⟩:=zb hs;cases hs;exact ⟨Zi h0,rfl⟩
theorem absorb (hgl:C.gl w0.w σ0) {next:List Nat->List Nat->List (Nat×Nat)->St C->G3 ρ}{K:XE C->St C->G3 ρ}{r:ρ}(hdr:xd (YM qo Γ P n) (tch Γ P) P n ops okB i false cl taken al S K next=some r) {F:List Fl}(hi:i∈F.map Fl.i) {So:St C}
    (hc:Cfg P ops n cl taken al S X (F.map Fl.i)) (hR:Rl P ops n w0 σ0 κ taken X F So S a w):∃ S' So' F' al',next (i::cl) taken al' S'=some r/\Cfg P ops n (i::cl) taken al' S' X (F'.map Fl.i)/\Rl P ops n w0 σ0 κ taken X F' So' S' a w:=by
  obtain ⟨o,run,ho,hicl,hd,hgt,hg,h⟩:=YO hdr;obtain ⟨f,hf,rfl⟩:=U0.1 hi;obtain ⟨F1,F2,rfl⟩:=List.append_of_mem hf;obtain ⟨o',t,ti,zv,p1,p2,p3,p4,p5,p6,p7,p8,p9,p10,p11⟩:=hR.fok.op f hf;rw [ho] at p1;cases p1;have hrun:run=true:=by unfold xT at hg;grind
  subst hrun;unfold yw at h;rw [G8] at h;obtain ⟨_,h⟩:=zb h;rw [Uv] at h;have hdeps:∀ k∈zy o,onX X k=true:=hc.closed f.i o ho (hc.fon f.i hi).1
  have hanc:∀ r',onX X r'=false->Nat.testBit (yK al (zy o)) r'=false:=fun r' hr'=>by
    cases e:Nat.testBit (yK al (zy o)) r' with
    |false=>rfl
    |true=>
      have this:onX X r'=true:=zda hc.anc (fun k=>onX X k=true) (fun k q hk hon=>hc.closed k q hk hon) (fun k hk=>by rw [<- hc.size];grind) hdeps r' e;grind
  split at h
  ·cases h
  · rename_i l p htc;obtain ⟨hall,h⟩:=zb h;rw [vq] at h;obtain ⟨out,hs,h⟩:=jy h;obtain ⟨h0,rfl⟩:=zoX p2 p3 p5 p6 p7 p8 hs;have hkeep:=zoV hs htc;have hnd:=hR.fok.nd;rw [U5,GE] at hnd;obtain ⟨hnd1,hnd2⟩:=List.nodup_cons.1 ((List.Perm.nodup_iff List.perm_middle).1 hnd);refine ⟨_,{env:=upd So.env f.d (.pc (nid f.d 0) 0),heap:=upd So.heap (nid f.d 0) (some (.cell (f.zs.map yd)))},F1++F2,_,h,hc.absorb ho hi hd (fun k=>?_) (fun r' q' h1 h2 h3=>?_),?_,?_,?_⟩
    · simp only [U5,GE,G5,Ua] at hnd1 |-
      constructor
      ·grind
      grind
    ·have:=Uu.1 hall r' h1;rw [hanc r' h2,U7] at this;exact (hc.qv r' q' h1 h2 h3).keep hkeep h3 this
    · obtain ⟨st,σs,hh,L,b,Z,PV,⟨ν,vs,ids,hA⟩,hinv,hfi⟩:=hR.at_
      have hi2:Inv w0 σ0 Z ((.cell f.ad f.zs::PV)++frF (F1++F2)) w:=(hh.home hinv).sub_own fun g k=>Sep.perm (by
        simp only [frF,U5,GE,List.cons_append];rw [<- Ub,<- Ub]
        exact List.perm_middle) k
      obtain ⟨st',hh',hinv'⟩:=Home.make hgl hi2;refine ⟨st',Z,hh',L,b,Z,_,?_,hinv',hfi⟩;have hv:look L b f.d = .pointer (some (f.ad.add 0)):=by rw [<- hfi.get,hR.fok.val f hf];simp [Addr.add]
      refine zz.unput (hA.new (d:=f.d) (by rw [hR.eqx.heap];exact h0) (Yx κ f.d 0) (e :=.cell _) (v :=.slice none 0 0) (a:=⟨f.ad,fun _ =>.slice none 0 0⟩) (us:=f.zs) (A :=.pc (nid f.d 0) 0) (u :=.pointer (some (f.ad.add 0))) (fun ν' h1 h2=>⟨?_,by show nid f.d 0=nid f.d 0;rfl⟩) rfl rfl (fun cs hcs=>?_) (by simp [Ent.at,Addr.add])) hv
      ·show Value.pointer (some f.ad) = .pointer (some ((ν'.adr _).a.add 0));rw [h2];simp [Addr.add]
      ·cases hcs;exact ⟨X8 _,Yy _⟩
    · refine ⟨?_,fun t' ht'=>?_⟩
      ·show upd So.heap _ _=upd S.heap _ _;rw [hR.eqx.heap]
      · show upd So.env _ _ t'=upd S.env _ _ t';by_cases e:t'=f.d
        ·subst e;rw [zl,zl]
        · rw [zm e,zm e];refine hR.eqx.env t' fun hD=>ht' ?_
          rcases hD with z | ⟨g,hg1,hg2⟩
          ·exact .inl z
          · refine .inr ⟨g,?_,hg2⟩;rcases G5.1 hg1 with z | z
            ·grind
            · rcases Ua.1 z with z | z
              all_goals grind
    · have hsub:∀ g,g∈F1++F2->g∈F1++f::F2:=fun g hg=>by
        rcases G5.1 hg with z | z
        all_goals grind
      exact ⟨fun g hg=>hR.fok.op g (hsub g hg),fun g hg=>hR.fok.fl g (hsub g hg),fun g hg=>hR.fok.val g (hsub g hg),by grind⟩
theorem zdU {next:List Nat->List Nat->List (Nat×Nat)->St C->G3 ρ}{K:XE C->St C->G3 ρ}{r:ρ}(hdr:xd (YM qo Γ P n) (tch Γ P) P n ops okB i true cl taken al S K next=some r) {F:List Fl}(hi:i∈F.map Fl.i) (hF:FOK C P ops n a F):False:=by
 obtain ⟨o,run,ho,hicl,hd,hgt,hg,h⟩:=YO hdr;obtain ⟨f,hf,rfl⟩:=U0.1 hi;obtain ⟨o',t,ti,zv,p1,p2,p3,p4,_⟩:=hF.op f hf;rw [ho] at p1;cases p1;have hrun:run=true:=by unfold xT at hg;grind
 subst hrun;unfold yw at h;rw [Uv] at h;obtain ⟨_,h⟩:=zb h;rw [Uv,p2] at h;obtain ⟨h,_⟩:=zb h;rw [p3] at h;cases h
theorem Rl.done {F:List Fl}{So:St C}(hR:Rl P ops n w0 σ0 κ taken X F So S a w) (hF:F=[]) (hp:∀ t,¬ zmh ops taken X t):At n w0 σ0 κ S a w:=by
 subst hF;obtain ⟨st,σs,hh,L,b,Z,PV,hA,hinv,hfi⟩:=hR.at_;have:At n w0 σ0 κ So a w:=⟨L,b,Z,PV,hA,by have:=hh.home hinv;simpa [frF] using this,hfi⟩
 exact this.eqx (hR.eqx.weaken fun t ht=>by
  rcases ht with z | ⟨f,hf,_⟩
  all_goals grind)
theorem zqn (h:k≠i):(!Nat.beq k i)=true:=by
 cases e:Nat.beq k i with
 |true=>exact absurd (jz e) h
 |false=>rfl
theorem ztM (hgl:C.gl w0.w σ0) (hΓ:∀ s∈Γ,s.OK P):∀ (fuel:Nat) (ord:List (Nat×Bool)) {cl taken:List Nat}{al:List (Nat×Nat)}{S:St C}{K:XE C->St C->G3 ρ}{r:ρ},ZH (YM qo Γ P n) (tch Γ P) P n ops ord cl taken al S K=some r->
    ∀ {X:Array Bool} {a:Act} {w:World} {So:St C} {F:List Fl},Cfg P ops n cl taken al S X (F.map Fl.i)->X.toList.count false<=fuel->Rl P ops n w0 σ0 κ taken X F So S a w->wpAny P .any ops (Ze n w0 σ0 κ K r) fuel X a w:=by
  intro fuel;have noF:∀ {cl:List Nat} {F:List Fl} {taken al} {S:St C} {X:Array Bool} {a:Act},Cfg P ops n cl taken al S X (F.map Fl.i)->FOK C P ops n a F->(∀ i,i < ops.size->i∈cl)->F=[]:=by
    intro cl F taken al S X a hc hF hall;cases F with
    |nil=>rfl
    |cons f F=>
      obtain ⟨o,_,_,_,p1,_⟩:=hF.op f (by simp);exact absurd (hall f.i (G9.1 p1).1) (hc.fon f.i (by simp)).2
  induction fuel with
  |zero=>
    intro ord
    induction ord with
    |nil=>
      intro cl taken al S K r h X a w So F hc hn hR;obtain ⟨hall,h⟩:=zb h;have hcl:∀ i,i < ops.size->i∈cl:=fun i hi=>zN.1 (Uu.1 hall i (U3.2 hi))
      have hon:∀ i,i < ops.size->onX X i=true:=fun i hi=>by
        cases e:onX X i with
        |true=>rfl
        |false=>have:=zk8 (by rw [hc.size];exact hi) e;omega
      refine ⟨?_,S,h,hR.done (noF hc hR.fok hcl) fun t ht=>zgZ (fun i hi=>hon i (hc.inc i (hc.tcl i hi))) t ht⟩;refine List.eq_nil_iff_forall_not_mem.2 fun i hi=>?_
      obtain ⟨h1,o,h2,_⟩:=(YB hc.size).1 hi;grind
    |cons io ord ih=>
      intro cl taken al S K r h X a w So F hc hn hR;obtain ⟨i,early⟩:=io;have zero:∀ {okB:Bool} {i:Nat} {early:Bool} {next},xd (YM qo Γ P n) (tch Γ P) P n ops okB i early cl taken al S K next=some r->i∈F.map Fl.i:=by
        intro okB i early next h
        obtain ⟨o,run,ho,hi,hd,hgt,hg,h⟩:=YO h;by_cases hm:i∈F.map Fl.i
        ·exact hm
        exfalso;have hoff:onX X i=false:=by
          cases e:onX X i with
          |false=>rfl
          |true=>exact ((hc.sub i e).elim hi hm).elim
        have:=zk8 (by rw [hc.size];grind) hoff;omega
      cases hb:Nat.blt i 4096 with
      |true=>
        cases hrd:XG ops cl i with
        |true=>
          rw [zcy hb hrd] at h;cases early with
          |true=>exact (zdU h (zero h) hR.fok).elim
          |false=>
            obtain ⟨S',So',F',al',h',hc',hR'⟩:=absorb hgl h (zero h) hc hR;grind
        |false=>rw [zb0 hb hrd] at h;grind
      |false=>
        rw [zcz hb] at h;cases hrd:XG ops cl ((i - 4096) / 64) && XG ops cl ((i - 4096) % 64) with
        |true=>
          rw [hrd,Uv] at h;have h:=(zaf (zb h).2).1;obtain ⟨S',So',F',al',h',hc',hR'⟩:=absorb hgl h (zero h) hc hR;grind
        |false=>rw [hrd,G8] at h;grind
  |succ fuel ihf=>
    intro ord;have setX:∀ {taken:List Nat} {X:Array Bool} {F:List Fl} {j:Nat} {t:Nat},j ∉ taken->flD ops taken X F t->flD ops taken (X.setIfInBounds j true) F t:=by
      intro taken X F j t hj ht;rcases ht with ⟨r',q',h1,h2,h3,h4⟩ | z
      ·refine .inl ⟨r',q',h1,?_,h3,h4⟩;rw [wC (by grind)];exact h2
      ·exact .inr z
    have quiet:∀ (ord:List (Nat×Bool)) {cl taken:List Nat} {al:List (Nat×Nat)} {S:St C} {K:XE C->St C->G3 ρ} {r:ρ},ZH (YM qo Γ P n) (tch Γ P) P n ops ord cl taken al S K=some r->
        ∀ {X:Array Bool} {a:Act} {w:World} {So:St C} {F:List Fl},Cfg P ops n cl taken al S X (F.map Fl.i)->X.toList.count false<=fuel+1->Rl P ops n w0 σ0 κ taken X F So S a w->∀ {j:Nat},j∈Region.ready .any ops X->j∈cl->
          wpOp P ops (Ze n w0 σ0 κ K r) j (wpAny P .any ops (Ze n w0 σ0 κ K r) fuel (X.setIfInBounds j true)) a w:=by
      intro ord cl taken al S K r h X a w So F hc hn hR j hj hjc;obtain ⟨hoff,q,hq,hdeps⟩:=(YB hc.size).1 hj;have hjt:=hc.tk j hjc hoff;have hlt:j < X.size:=by rw [hc.size];grind
      obtain ⟨st,σs,hh,hA⟩:=hR.at_;have hjF:∀ f∈F,f.i≠j:=fun f hf e=>(hc.fon f.i (U0.2 ⟨f,hf,rfl⟩)).2 (e ▸ hjc)
      have base:=zql (w0:=st) (σ0:=σs) (Q:=Ze n w0 σ0 κ K r) (K:=fun a' w'=>∃ S1,At n st σs κ S1 a' w'/\EqX (fun t=>flD ops taken X F t/\q.dst≠some t) S1 S) hh.gl hΓ hq hA hR.eqx (hc.qv j q hjt hoff hq) (fun t ht hp=>?_) (fun d e=>(hc.ds j q d hjt hoff hq e).1) fun S1 a' w' hA' hX'=>⟨S1,hA',hX'⟩
      · refine wpOp_mono ?_ (zg0 base);rintro a' w' ⟨⟨S1,hA',hX'⟩,ht⟩;refine ihf ord h (hc.hit hjc fun q' hq' k hk=>?_) (zf9 hlt hoff hn) ⟨⟨st,σs,hh,hA'⟩,hX'.weaken fun t ht=>?_,hR.fok.next ht hjF⟩
        ·grind
        · obtain ⟨ht,hne⟩:=ht;rcases ht with ⟨r',q',h1,h2,h3,h4⟩ | z
          · refine .inl ⟨r',q',h1,?_,h3,h4⟩;rw [wC]
            all_goals grind
          ·exact .inr z
      · rcases hp with ⟨r',q',h1,h2,h3,h4⟩ | ⟨f,hf,rfl⟩
        · obtain ⟨_,_,k3,k4⟩:=hc.ds r' q' t h1 h2 h3 h4;by_cases e:j=r'
          ·grind
          grind
        ·obtain ⟨o,_,_,_,_,_,_,_,_,_,_,_,_,_,p⟩:=hR.fok.op f hf;exact (hc.fon f.i (U0.2 ⟨f,hf,rfl⟩)).2 (WfL.deps hq ((p j q hq (hjF f hf).symm).1 ht) hc.wf hjc)
    have float:∀ (ord:List (Nat×Bool)) {cl taken:List Nat} {al:List (Nat×Nat)} {S:St C} {K:XE C->St C->G3 ρ} {r:ρ},ZH (YM qo Γ P n) (tch Γ P) P n ops ord cl taken al S K=some r->
        ∀ {X:Array Bool} {a:Act} {w:World} {So:St C} {F:List Fl},Cfg P ops n cl taken al S X (F.map Fl.i)->X.toList.count false<=fuel+1->Rl P ops n w0 σ0 κ taken X F So S a w->∀ {j:Nat},j∈Region.ready .any ops X->j ∉ cl->j∈w9 C P ops n->
          wpOp P ops (Ze n w0 σ0 κ K r) j (wpAny P .any ops (Ze n w0 σ0 κ K r) fuel (X.setIfInBounds j true)) a w:=by
      intro ord cl taken al S K r h X a w So F hc hn hR j hj hjc hjf;obtain ⟨hoff,q,hq,hdeps⟩:=(YB hc.size).1 hj;have hlt:j < X.size:=by rw [hc.size];grind
      obtain ⟨d,zs,hfo⟩:=zuS hjf;obtain ⟨o,t,ti,zv,p1,p2,p3,p4,p5,p6,p7,p8,p9,p10,p11⟩:=id hfo;rw [hq] at p1;cases p1;have hjF:∀ f∈F,f.i≠j:=fun f hf e=>by
        have:=(hc.fon f.i (U0.2 ⟨f,hf,rfl⟩)).1;grind
      have hjt:j ∉ taken:=fun hm=>hjc (hc.tcl j hm)
      obtain ⟨st,σs,hh,L,b,Z,PV,⟨ν,vs,ids,hA⟩,hinv,hfi⟩:=hR.at_;have base:wpOp P ops (Ze n w0 σ0 κ K r) j (fun a' w'=>∃ c:Addr,Inv st σs Z (.cell c zs::PV) w'/\Fits n ((d,.pointer (some (c.add 0)))::L) b a') a w:=by
        unfold wpOp;rw [hq];have hw:Region.wanted q (yielded ops a.tmps)=true:=by unfold Region.wanted;rw [p4]
        simp only [hw,jl];left;obtain ⟨dst,op,ty,ps,af,g⟩:=q;simp only at p2 p3 p4;subst p2 p3 p4;refine ziD (w0:=st) (σ0:=σs) (Z:=Z) (PV:=PV) (L:=L) (b:=b) (p:=some ()) (H:=fun _ L' Z' PV'=>∃ c:Addr,L'=(d,.pointer (some (c.add 0)))::L/\Z'=Z/\PV' = .cell c zs::PV) p9 p5 p6 p7 (fun c=>⟨c,rfl,rfl,rfl⟩) () rfl a w hinv hfi _ _ ?_;grind
      refine wpOp_mono ?_ (zg0 base);rintro a' w' ⟨⟨c,hi',hf'⟩,ht⟩
      have hi2:Inv w0 σ0 Z (PV++frF (⟨j,d,c,zs⟩::F)) w':=(hh.home hi').sub_own fun g k=>Sep.perm (by
        show (Priv.cell c zs::(PV++frF F)).Perm (PV++(Priv.cell c zs::frF F))
        exact List.perm_middle.symm) k
      obtain ⟨st',hh',hinv'⟩:=Home.make hgl hi2;refine ihf ord h (F:=⟨j,d,c,zs⟩::F) (So:=So.put d .und) (hc.flt hq hjc hdeps) (zf9 hlt hoff hn) ⟨⟨st',Z,hh',_,b,Z,PV,⟨ν,vs,ids,hA.put (v :=.pointer (some (c.add 0))) trivial trivial⟩,hinv',hf'⟩,⟨hR.eqx.heap,fun t' ht'=>?_⟩,?_⟩
      · show upd So.env d _ t'=S.env t';by_cases e:t'=d
        ·exact absurd (.inr ⟨_,List.mem_cons_self ..,e.symm⟩) ht'
        · rw [zm e];refine hR.eqx.env t' fun hD=>ht' ?_
          rcases setX hjt hD with z | ⟨f,hf,hz⟩
          ·exact .inl z
          ·exact .inr ⟨f,Uz _ hf,hz⟩
      · have hn:=hR.fok.next ht hjF;refine ⟨fun f hf=>?_,fun f hf=>?_,fun f hf=>?_,?_⟩
        · rcases Ua.1 hf with z | z
          ·grind
          ·exact hn.op f z
        · rcases Ua.1 hf with z | z
          ·grind
          ·exact hn.fl f z
        · rcases Ua.1 hf with z | z
          ·subst z;show a'.tmps.getD d undef=_;rw [hf'.get];show (bif Nat.beq d d then _ else _)=_;simp [Addr.add]
          ·exact hn.val f z
        ·rw [GE];exact List.nodup_cons.2 ⟨fun hm=>by grind,hn.nd⟩
    have real:∀ {cl taken:List Nat} {al:List (Nat×Nat)} {S:St C} {K:XE C->St C->G3 ρ} {r:ρ} {okB:Bool} {j:Nat} {o:Oper} {run:Bool} {next:St C->List Nat->G3 ρ},ops[j]?=some o->j ∉ cl->(∀ k∈zy o,k∈cl)->xT ops S o run->yw (YM qo Γ P n) (tch Γ P) P n ops okB cl taken (yK al (zy o)) K j false o run S next=some r->
        ∀ {X:Array Bool} {a:Act} {w:World} {So:St C} {F:List Fl},Cfg P ops n cl taken al S X (F.map Fl.i)->X.toList.count false<=fuel+1->Rl P ops n w0 σ0 κ taken X F So S a w->onX X j=false->(∀ k∈zy o,onX X k=true)->
        (∀ S',next S' taken=some r->∀ {X':Array Bool} {a':Act} {w':World} {So':St C} {F':List Fl},Cfg P ops n (j::cl) taken ((j,yK al (zy o))::al) S' X' (F'.map Fl.i)->X'.toList.count false<=fuel->Rl P ops n w0 σ0 κ taken X' F' So' S' a' w'->wpAny P .any ops (Ze n w0 σ0 κ K r) fuel X' a' w')->
          wpOp P ops (Ze n w0 σ0 κ K r) j (wpAny P .any ops (Ze n w0 σ0 κ K r) fuel (X.setIfInBounds j true)) a w:=by
      intro cl taken al S K r okB j o run next ho hjc hd hg h X a w So F hc hn hR hoff hdeps hnext
      have hlt:j < X.size:=by rw [hc.size];grind
      have hjFm:j ∉ F.map Fl.i:=fun hm=>by have:=(hc.fon j hm).1;grind
      have hjF:∀ f∈F,f.i≠j:=fun f hf e=>hjFm (U0.2 ⟨f,hf,e⟩)
      have hjt:j ∉ taken:=fun hm=>hjc (hc.tcl j hm)
      obtain ⟨st,σs,hh,hA⟩:=hR.at_;have hX:=hR.eqx;unfold yw at h;rw [G8] at h;obtain ⟨_,h⟩:=zb h;have hanc:∀ r',onX X r'=false->Nat.testBit (yK al (zy o)) r'=false:=fun r' hr'=>by
        cases e:Nat.testBit (yK al (zy o)) r' with
        |false=>rfl
        |true=>
          have:=zda hc.anc (fun k=>onX X k=true) (fun k q hk hon=>hc.closed k q hk hon) (fun k hk=>by rw [<- hc.size];grind) hdeps r' e;grind
      have hfree:∀ t∈looks ops o,¬ flD ops taken X F t:=fun t ht hD=>by
        rcases hD with ⟨r',q',h1,h2,h3,h4⟩ | ⟨f,hf,rfl⟩
        · obtain ⟨_,_,k3,k4⟩:=hc.ds r' q' t h1 h2 h3 h4;have hne:j≠r':=fun e=>hjc (e ▸ hc.tcl r' h1)
          grind
        ·obtain ⟨_,_,_,_,_,_,_,_,_,_,_,_,_,_,p⟩:=hR.fok.op f hf;exact (hc.fon f.i (U0.2 ⟨f,hf,rfl⟩)).2 (hd _ ((p j o ho (hjF f hf).symm).1 ht))
      have hvB:∀ t,flD ops taken X F t->t < vB:=fun t hD=>by
        rcases hD with ⟨r',q',h1,h2,h3,h4⟩ | ⟨f,hf,rfl⟩
        ·exact (hc.ds r' q' t h1 h2 h3 h4).2.1
        ·obtain ⟨_,_,_,_,_,_,_,_,_,_,_,_,_,p,_⟩:=hR.fok.op f hf;exact p
      have hgo:xT ops So o run:=hg.congr fun t ht=>hX.env t (hfree t (Wx ht))
      have keep:∀ {l p S'},Keeps S S' o.dst l p->(taken.all fun r=>Nat.testBit (yK al (zy o)) r || zeZ ops S l p o.dst r)=true->∀ r' q',r'∈taken->onX X r'=false->ops[r']?=some q'->QV P ops S' q':=fun hk hall r' q' h1 h2 h3=>by
        have:=Uu.1 hall r' h1;rw [hanc r' h2,U7] at this;exact (hc.qv r' q' h1 h2 h3).keep hk h3 this
      have fin:∀ {S' S1 a' w'},next S' taken=some r->(∀ r' q',r'∈taken->onX X r'=false->ops[r']?=some q'->QV P ops S' q')->At n st σs κ S1 a' w'->EqX (flD ops taken X F) S1 S'->zdb ops j a a'->wpAny P .any ops (Ze n w0 σ0 κ K r) fuel (X.setIfInBounds j true) a' w':=fun h' hq' hA' hX' ht=>
        hnext _ h' (hc.sync ho hjc hjFm hd hdeps hq') (zf9 hlt hoff hn) ⟨⟨st,σs,hh,hA'⟩,hX'.weaken fun t ht=>setX hjt ht,hR.fok.next ht hjF⟩
      have tk0:∀ {v:Value},zdb ops j a (a.put o.dst v):=fun {v} t ht=>vS (ht o ho)
      unfold wpOp;rw [ho];simp only [hgo.wanted hA];cases run with
      |false=>
        simp only [jg,jk];rw [G8] at h;obtain ⟨hall,h⟩:=zb h;split at h
        · rename_i d hdst;obtain ⟨hdn,h⟩:=zb h;have tk1:zdb ops j a (a.put (some d) undef):=by grind
          rw [hdst];refine fin h (keep (l:=[]) (p:=fun _=>false) ?_ hall) (hA.skip hdn) ⟨hX.heap,fun t ht=>?_⟩ tk1
          ·rw [hdst];exact .put
          · show upd So.env d _ t=upd S.env d _ t;by_cases e:t=d
            ·subst e;rw [zl,zl]
            ·rw [zm e,zm e];exact hX.env t ht
        ·rename_i hdst;rw [hdst];exact fin h (keep (l:=[]) (p:=fun _=>false) (.refl S) hall) hA hX fun _ _=>rfl
      |true=>
        simp only [jl];left;rw [Uv] at h;split at h
        ·cases h
        · rename_i l p htc;obtain ⟨hall,h⟩:=zb h;rw [vq] at h;obtain ⟨out,hs,h⟩:=jy h;have hsx:=zwP (q:=qo) (Γ:=Γ) (P:=P) (n:=n) (o:=o) hX hvB (fun t ht=>hfree t (U6 _ (zbg ht)));rw [hs] at hsx;obtain ⟨out',hs',hrel⟩:=hsx.inv;obtain ⟨L,b,Z,PV,hAb,hinv,hf⟩:=hA;have base:o.wp P a w (fun a' w'=>∃ S' S1,out = .go S'/\EqX (flD ops taken X F) S1 S'/\At n st σs κ S1 a' w') (Ze n w0 σ0 κ K r):=by
            refine zi4 hΓ n κ st σs hh.gl o So L b Z PV hAb _ hs' a w hinv hf _ _ ?_ ?_
            · intro S1 e L' Z' PV' a' w' hi' hf' hA';subst e;cases out with
              |pan v T=>grind
              |go S'=>exact ⟨S',S1,rfl,hrel,L',b,Z',PV',hA',hi',hf'⟩
            · intro v S1 e u Z' PV' w' hi' hA' hp;subst e;cases out with
              |go S'=>grind
              |pan v' S'=>
                obtain ⟨rfl,hrel⟩:=hrel;obtain ⟨ν,vs,ids,hA'⟩:=hA';have hi3:Inv w0 σ0 Z' PV' w':=(hh.home hi').sub_own fun g k=>by
                  obtain ⟨f1,f2,s1,s2,l1,l2,dd⟩:=k.split;exact s1.mono (.refl _) l1
                refine ⟨v,_,h,u,L,b,Z',PV',rfl,hp,⟨ν,vs,ids,hA'.mask (hrel.weaken fun t hD=>?_)⟩,hi3,hf⟩;rcases hD with ⟨r',q',h1,h2,h3,h4⟩ | ⟨f,hf,rfl⟩
                ·exact List.mem_filterMap.2 ⟨q',GS (by rw [Array.getElem?_toList];exact h3),h4⟩
                ·obtain ⟨q',_,_,_,p1,p2,_⟩:=hR.fok.op f hf;exact List.mem_filterMap.2 ⟨q',GS (by rw [Array.getElem?_toList];exact p1),p2⟩
          refine Oper.wp_mono ?_ (zla base);rintro a' w' ⟨⟨S',S1,rfl,hrel',hA'⟩,ht⟩;exact fin h (keep (zoV hs htc) hall) hA' hrel' fun t ht'=>ht t (ht' o ho)
    induction ord with
    |nil=>
      intro cl taken al S K r h X a w So F hc hn hR;have h0:=h;obtain ⟨hall,h⟩:=zb h;have hcl:∀ i,i < ops.size->i∈cl:=fun i hi=>zN.1 (Uu.1 hall i (U3.2 hi))
      refine ⟨fun hr=>?_,fun j hj=>quiet [] h0 hc hn hR hj (hcl j ?_)⟩
      · have hon:∀ i∈taken,onX X i=true:=fun i hi=>by
          cases e:onX X i with
          |true=>rfl
          |false=>
            obtain ⟨k,q,k1,k2,k3,k4⟩:=zqm hc.wf hc.inc ⟨i,hc.tcl i hi,e⟩;have:k∈Region.ready .any ops X:=(YB hc.size).2 ⟨k2,q,k3,k4⟩;grind
        exact ⟨S,h,hR.done (noF hc hR.fok hcl) fun t ht=>zgZ hon t ht⟩
      ·obtain ⟨_,q,hq,_⟩:=(YB hc.size).1 hj;grind
    |cons io ord ih=>
      intro cl taken al S K r h X a w So F hc hn hR;obtain ⟨i,early⟩:=io;have h0:=h;have some_ready:∀ {i:Nat} {o:Oper},ops[i]?=some o->i ∉ cl->i ∉ F.map Fl.i->(∀ k∈zy o,k∈cl)->Region.ready .any ops X=[]->False:=by
        intro i o ho hi hiF hd hr;have hoff:onX X i=false:=by
          cases e:onX X i with
          |false=>rfl
          |true=>exact ((hc.sub i e).elim hi hiF).elim
        by_cases hx:∃ k∈cl,onX X k=false
        ·obtain ⟨k,q,k1,k2,k3,k4⟩:=zqm hc.wf hc.inc hx;have:k∈Region.ready .any ops X:=(YB hc.size).2 ⟨k2,q,k3,k4⟩;grind
        · have:i∈Region.ready .any ops X:=(YB hc.size).2 ⟨hoff,o,ho,fun k hk=>by
            grind⟩
          grind
      have dn:∀ {i k:Nat},i ∉ F.map Fl.i->onX X k=true->k∈cl\/(k∈w9 C P ops n/\k≠i):=fun {i k} hiF hk=>by
        rcases hc.sub k hk with z | z
        ·exact .inl z
        ·obtain ⟨f,hf,e⟩:=U0.1 z;exact .inr ⟨e ▸ hR.fok.fl f hf,fun e'=>hiF (e' ▸ z)⟩
      cases hb:Nat.blt i 4096 with
      |false=>
        rw [zcz hb] at h;cases hrd:XG ops cl ((i - 4096) / 64) && XG ops cl ((i - 4096) % 64) with
        |false=>rw [hrd,G8] at h;grind
        |true=>
        rw [hrd,Uv] at h;obtain ⟨hchk,h⟩:=zb h;generalize (i - 4096) / 64=i1 at h hchk;generalize (i - 4096) % 64=i2 at h hchk;obtain ⟨g1,g2⟩:=zaf h;by_cases hF1:i1∈F.map Fl.i
        ·obtain ⟨S',So',F',al',h',hc',hR'⟩:=absorb hgl g1 hF1 hc hR;grind
        by_cases hF2:i2∈F.map Fl.i
        ·obtain ⟨S',So',F',al',h',hc',hR'⟩:=absorb hgl g2 hF2 hc hR;grind
        obtain ⟨o1,run1,ho1,hi1,hd1,_,hg1,s1⟩:=YO g1;obtain ⟨o2,run2,ho2,hi2,hd2,_,hg2,s2⟩:=YO g2;refine ⟨fun hr=>(some_ready ho1 hi1 hF1 hd1 hr).elim,fun j hj=>?_⟩;by_cases hjc:j∈cl
        ·grind
        · obtain ⟨hjoff,q,hq,hdeps⟩:=(YB hc.size).1 hj;have hji:(j=i1\/j=i2)\/j∈w9 C P ops n:=by
            have:=Uu.1 hchk j (U3.2 (G9.1 hq).1);rw [hq] at this;simp only [GO,Ut] at this;rcases this with (z | z) | z | z | z
            ·exact .inl (.inl (jz z))
            ·exact .inl (.inr (jz z))
            ·exact .inr (zN.1 z)
            ·exact absurd (zN.1 z) hjc
            · exfalso
              have:zbh (zy q) (rmL i1 (rmL i2 (w9 C P ops n))++cl)=true:=Uu.2 fun k hk=>zN.2 (by
                rcases dn hF1 (hdeps k hk) with z | ⟨z1,z2⟩
                ·grind
                · rcases dn hF2 (hdeps k hk) with z | ⟨z3,z4⟩
                  ·grind
                  ·exact U6 _ (U2.2 ⟨U2.2 ⟨z1,zqn z4⟩,zqn z2⟩))
              grind
          rcases hji with (e | e) | e
          ·subst e;grind
          ·subst e;grind
          grind
      |true=>
      cases hrd:XG ops cl i with
      |false=>rw [zb0 hb hrd] at h;grind
      |true=>
      rw [zcy hb hrd] at h;cases early with
      |true=>
        have hiF:i ∉ F.map Fl.i:=fun hm=>zdU h hm hR.fok
        obtain ⟨o,run,ho,hi,hd,hgt,hg,h⟩:=YO h;have hoff:onX X i=false:=by
          grind
        have hearly:w8 ops n cl taken i o=true:=by
          unfold yw at h;rw [Uv] at h;exact (zb h).1
        have hgl:∀ t∈XM ops o,o.dst≠some t:=fun t ht e=>by
          unfold w8 at hearly;rw [e] at hearly;simp only [g9,Ut] at hearly;rw [zN.2 (Wx ht)] at hearly;grind
        obtain ⟨he,S',h,hv,hS,hh⟩:=zmi hg hgl h;refine ih h (hc.early ho hi hiF hd he hv hS hh) hn ⟨hR.at_,⟨hR.eqx.heap.trans hh.symm,fun t ht=>?_⟩,hR.fok⟩;have hne:o.dst≠some t:=fun e=>ht (.inl ⟨i,o,by simp,hoff,ho,e⟩)
        rw [hS t hne];refine hR.eqx.env t fun hD=>ht ?_
        rcases hD with ⟨r',q',h1,h2⟩ | z
        ·exact .inl ⟨r',q',Uz _ h1,h2⟩
        ·exact .inr z
      |false=>
        by_cases hiF:i∈F.map Fl.i
        ·obtain ⟨S',So',F',al',h',hc',hR'⟩:=absorb hgl h hiF hc hR;grind
        obtain ⟨o,run,ho,hi,hd,hgt,hg,h⟩:=YO h;have honly:zmg ops (w9 C P ops n) cl i=true:=by
          unfold yw at h;rw [G8] at h;exact (zb h).1
        refine ⟨fun hr=>(some_ready ho hi hiF hd hr).elim,fun j hj=>?_⟩;by_cases hjc:j∈cl
        ·grind
        · obtain ⟨hjoff,q,hq,hdeps⟩:=(YB hc.size).1 hj;have hji:j=i\/j∈w9 C P ops n:=by
            have:=Uu.1 honly j (U3.2 (G9.1 hq).1);rw [hq] at this;simp only [GO,Ut] at this;rcases this with z | z | z | z
            ·exact .inl (jz z)
            ·exact .inr (zN.1 z)
            ·exact absurd (zN.1 z) hjc
            · exfalso
              have:zbh (zy q) (rmL i (w9 C P ops n)++cl)=true:=Uu.2 fun k hk=>zN.2 (by
                rcases dn hiF (hdeps k hk) with z | ⟨z1,z2⟩
                ·grind
                ·exact U6 _ (U2.2 ⟨z1,zqn z2⟩))
              grind
          rcases hji with e | e
          ·grind
          grind
theorem zkH (hgl:C.gl w0.w σ0) (hΓ:∀ s∈Γ,s.OK P) {K:XE C->St C->G3 ρ}{r:ρ}(h:ZH (YM qo Γ P n) (tch Γ P) P n ops ord [] [] [] S K=some r) (hm:P.follows .mixedOrders=true) (hA:At n w0 σ0 κ S a w):(Code.region id ops true).wp P (Ze n w0 σ0 κ K r) a w:=by
 refine wp_region_any hm ?_;obtain ⟨L,b,Z,PV,hAb,hi,hf⟩:=hA;have h0:∀ i,onX (Array.replicate ops.size false) i=false:=fun i=>by
  unfold onX;rw [G7];cases e:(Array.replicate ops.size false)[i]? with
  |none=>rfl
  |some v=>grind
 refine ztM hgl hΓ _ _ h (X:=Array.replicate ops.size false) (F:=[]) ⟨by simp,fun i hi=>(by grind),fun i hi=>(by cases hi),trivial,fun i hi=>(by cases hi),fun i hi=>(by cases hi),fun i hi=>(by cases hi),fun k q _ hk=>(by grind),fun r q hr=>(by cases hr),fun r q d hr=>(by cases hr),fun i m hm=>(by cases hm)⟩ ?_ ⟨⟨w0,σ0,⟨fun k=>by simpa [frF] using k,hgl⟩,L,b,Z,PV,hAb,hi.drew,hf⟩,⟨rfl,fun _ _=>rfl⟩,⟨fun f hf=>(by cases hf),fun f hf=>(by cases hf),fun f hf=>(by cases hf),List.nodup_nil⟩⟩;grind
end
end
end Go.Px
