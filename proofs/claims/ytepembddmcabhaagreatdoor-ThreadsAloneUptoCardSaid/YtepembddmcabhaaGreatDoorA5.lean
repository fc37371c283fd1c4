/- Part A5. -/
import Derived.Test.YtepembddmcabhaaGreatDoorA4
set_option linter.unusedSectionVars false
set_option linter.unusedVariables false
namespace Go.Px
variable{K:Act->World->Prop}{Q:Exit->Act->World->Prop}{T0 e f i id j k m off:Nat}{a:Act}{bl:Bl}{dst:Uc Nat}{es:List ESh}{hi lo:Uc Operand}{ins:Sig}{l:List Nat}{okB run:Bool}{ord:List (Nat×Bool)}{p:Nat->Bool}{q:Oper}{s:Sh}{ti:TypeInfo}{w:World}{α:Type}
section
theorem De:∀ (b:Bool),(false || b)=b:=@Bool.false_or
theorem Dd:∀{α:Type _}{a:α}{«as»:List α}(bs:List α),a∈«as»->a∈«as»++bs:=@List.mem_append_left
variable [Dfr]
section
variable {κ:Kp}{C:Cod}{S:St C}{ν:Val}{vs:Nat->List Value}{ids:List Nat}{L:List (Nat×Value)}{b:Nat->Value}{Z:FS}{PV:List Priv}{P:Program}
variable {n:Nat}{w0:Start}{σ0:FS}
def lent:Op->Uc (Operand×List Operand)
 | .call ⟨.value c,args,_⟩=>some (c,args.toList)
 |_=>none
def xW (S:St C) (x:Operand):Uc (Out C):=match S.op x with
 | .ifc t A=>chk (A.base || A.flat) (some (.pan (.ifc t A) S))
 |_=>none
structure Opts where
 fs:Bool
def wc (q:Opts) (P:Program) (S:St C) (d:Nat) (ty t:TypeId) (x:Operand) (lo hi mx:Uc Operand):Uc (Out C):=match mx with
 |none=>Yo P S d ty t x lo hi
 |_=>none
def xX {D:Nat->Type}(args:List (AV D)):List (AV D)->List (AV D)
 |[.tup ws]=>ws++args
 |caps=>args++caps
def wq (args:List Value):List Value->List Value
 |[.tuple a]=>a.toList++args
 |vs=>args++vs
theorem zmA {Z:FS}{ν:Val}{p:Nat->Prop}(hone:∀ i,(ν.hdr i).oneCell'=true) {args vals:List Value}{As caps:List (AV C.D)}(hc:zco caps=true) (ha:VRs C Z ν args As) (hr:VRs C Z ν vals caps) (hoa:AV.oks p As) (hoc:AV.oks p caps) :
    VRs C Z ν (wq args vals) (xX As caps)/\AV.oks p (xX As caps)/\∃ fi ca:Array Value,zae f vals = .func (.func f) fi ca/\(fi++args.toArray)++ca=(wq args vals).toArray:=by
  have plain:(∀ v∈vals,v.oneCell'=true)\/vals.length≠1->xX As caps=As++caps->VRs C Z ν (wq args vals) (xX As caps)/\AV.oks p (xX As caps)/\∃ fi ca:Array Value,zae f vals = .func (.func f) fi ca/\(fi++args.toArray)++ca=(wq args vals).toArray:=by
    intro h1 h2;have e1:wq args vals=args++vals:=by
      unfold wq;split
      · rename_i a;rcases h1 with h1 | h1
        ·have:=h1 (.tuple a) (by simp);cases this
        grind
      ·rfl
    have e2:zae f vals = .func (.func f) #[] vals.toArray:=by
      unfold zae;split
      · rename_i a;rcases h1 with h1 | h1
        ·have:=h1 (.tuple a) (by simp);cases this
        grind
      ·rfl
    rw [e1,h2];exact ⟨ha.append hr,AV.oks_append hoa hoc, #[],vals.toArray,e2,by simp⟩
  match vals,caps,hr with
  |[],[],hr=>exact plain (.inl fun v hv=>by cases hv) rfl
  |[v],[A],hr=>
    by_cases ht:∃ ws,A = .tup ws
    ·obtain ⟨ws,rfl⟩:=ht;obtain ⟨us,e,h2⟩:=hr.1;subst e;exact ⟨h2.append ha,AV.oks_append hoc.1 hoa,us.toArray, #[],rfl,by simp [wq]⟩
    · have hl:A.leaf=true:=by
        unfold zco at hc;split at hc
        ·grind
        all_goals grind
      refine plain (.inl fun u hu=>by rw [UT.1 hu];exact hr.1.one hl hone) ?_;unfold xX;grind
  |u::v::l,A::B::cs,hr=>exact plain (.inr (by simp)) (by cases A <;> rfl)
  |[v],A::B::cs,hr=>exact hr.2.elim
  |u::v::l,[A],hr=>exact hr.2.elim
def wd (q:Opts) (Γ:List (Spec C)) (P:Program) (d:Nat) (ty:TypeId) (S:St C):Op->Uc (Out C)
 | .alloc t=>xV P S d t
 | .box t x=>chk (YE (S.op x)) (bif C.bz t then zpy S d t (zu (S.op x)) else za3 S d (zu (S.op x)))
 | .buildSlice t m parts=>YV P S d t m parts.toList
 | .slice t x lo hi mx=>match yR P S ty (.slice t x lo hi mx) with
  |some A=>some (.go (S.put d A))
  |none=>wc q P S d ty t x lo hi mx
 | .convert t t' x=>match yR P S ty (.convert t t' x) with
  |some A=>some (.go (S.put d A))
  |none=>none
 | .call ⟨.value c,args,_⟩=>match S.op c with
  | .clo f caps=>chk (zco caps) (vO Γ S d f (xX (args.toList.map S.op) caps))
  |_=>none
 | .call ⟨.builtin .append,args,ts⟩=>match args.toList,ts.toList with
  |[x,y],[t,t']=>chk (Nat.beq t t') (yS P S d t x y)
  |_,_=>none
 | .panic x=>xW S x
 |op=>(yR P S ty op).map fun A =>.go (S.put d A)
def vP (q:Opts) (Γ:List (Spec C)) (P:Program) (n:Nat) (o:Oper) (S:St C):Uc (Out C):=match o.dst with
 |some d=>chk (Nat.blt d n) (wd q Γ P d o.type S o.op)
 |none=>match o.op with
  | .store t x y=>yt P S t x y
  | .panic x=>xW S x
  |_=>none
theorem zjy (h:AbsL κ S ν vs ids L b Z PV) {x:Operand}{ty:TypeId}{ps:String}{af:Array Edge}{g:Uc (Nat×Bool)} :
    OpA κ P n w0 σ0 ⟨dst,.panic x,ty,ps,af,g⟩ (xW S x) L b Z PV:=by
  intro out hX a w hi hf K Q hK hP;have hx:=h.op x;unfold xW at hX;split at hX
  · rename_i t A e;obtain ⟨hb,hX⟩:=zc hX;cases hX;rw [e] at hx;have hk:∀ p:Nat->Prop,(AV.ifc t A).ok p:=fun p=>by
      rcases (Uv _ _).mp hb with hb | hb
      ·exact vv (A :=.ifc t A) hb
      ·exact Wf (A :=.ifc t A) hb
    obtain ⟨u,e2,e3⟩:=hx;have hrun:(execOp a.eval ⟨dst,.panic x,ty,ps,af,g⟩).run P w = .halt (.panic (.iface t u)) w:=by
      rw [hf.eval];show (execOp (opv L b) ⟨dst,.panic x,ty,ps,af,g⟩).run P w=_;simp only [execOp,e2];rfl
    unfold Oper.wp;rw [hrun];refine hP _ _ rfl (.iface t u) Z PV w hi ⟨ν,vs,ids,h⟩ ⟨hk _,fun ν' _=>VR.congr (ν:=ν) (p:=fun _=>False) (fun _ h=>h.elim) (hk _) ⟨u,rfl,e3⟩⟩
  ·cases hX
theorem zva (hgl:C.gl w0.w σ0) {Γ:List (Spec C)}(hΓ:∀ s∈Γ,s.OK P) (h:AbsL κ S ν vs ids L b Z PV) {c:Operand}{args:Array Operand}{ts:Array TypeId}{d:Nat}(hn:Nat.blt d n=true) {ty:TypeId}{ps:String}{af:Array Edge}{g:Uc (Nat×Bool)}{f:FuncId}{caps:List (AV C.D)}(hc:S.op c = .clo f caps) :
    OpA κ P n w0 σ0 ⟨some d,.call ⟨.value c,args,ts⟩,ty,ps,af,g⟩ (chk (zco caps) (vO Γ S d f (xX (args.toList.map S.op) caps))) L b Z PV:=by
  intro out hX a w hi hf K Q hK hP;obtain ⟨hcaps,hX⟩:=zc hX;have hcv:=h.op c;have hco:=h.oks_op c;rw [hc] at hcv hco;obtain ⟨cvs,e1,e2⟩:=hcv;have hla:AV.oks (fun id=>(S.heap id).isSome=true) (args.toList.map S.op):=AV.oks_iff.2 fun A hA=>by
    obtain ⟨x,_,rfl⟩:=UX.1 hA;exact h.oks_op x
  obtain ⟨hr,hl,fi,ca,e3,e4⟩:=zmA (f:=f) h.one hcaps (zdd h.toAbs args.toList) e2 hla hco;obtain ⟨fn,hfn,hnm,hb,hcalls⟩:=zpG hgl h hr hl hi hΓ hX;have hrun:(execOp a.eval ⟨some d,.call ⟨.value c,args,ts⟩,ty,ps,af,g⟩).run P w = .ok (.enter f (wq (args.toList.map (opv L b)) cvs).toArray) w:=by
    have ha':args.map (opv L b)=(args.toList.map (opv L b)).toArray:=by grind
    rw [hf.eval,<- e4];simp only [execOp,resolve,e1,e3,ha',Deferred.ofValue,U2,U0,U3,invoke];unfold callFunc;simp only [U2,U4,U3,hfn,hnm,hb,jg,jk,U0]
  unfold Oper.wp;rw [hrun,Oper.upon_enter];refine Calls.mono hcalls ?_;intro e w' hq;cases e with
  |returned v=>
    obtain ⟨S',Z',PV',rfl,hi',hA⟩:=hq;exact hK _ rfl _ Z' PV' _ w' hi' (hf.put (by simpa [U6] using hn) v) hA
  |panicked chain=>
    grind
  |outgrown=>exact hq.elim
theorem zlz (h:AbsL κ S ν vs ids L b Z PV) {op:Op}{d:Nat}(hn:Nat.blt d n=true) {ty:TypeId}{ps:String}{af:Array Edge}{g:Uc (Nat×Bool)} :
    OpA κ P n w0 σ0 ⟨some d,op,ty,ps,af,g⟩ ((yR P S ty op).map fun A =>.go (S.put d A)) L b Z PV:=by
  intro out hX;obtain ⟨A,he,rfl⟩:=Db.1 hX;exact Vz h hn he (VA h he) _ rfl
theorem zvb {q:Opts}{Γ:List (Spec C)}(hΓ:∀ s∈Γ,s.OK P) (n:Nat) (κ:Kp):zjt P n κ (vP q Γ P n):=by
 intro w0 σ0 hgl o S L b Z PV hA out hX;obtain ⟨ν,vs,ids,h⟩:=hA;obtain ⟨dst,op,ty,ps,af,g⟩:=o;cases dst with
 |none=>
  unfold vP at hX;simp only at hX;split at hX
  ·exact zmv h _ hX
  ·exact zjy h _ hX
  ·cases hX
 |some d=>
  obtain ⟨hn,hX⟩:=zc hX;have hX:wd q Γ P d ty S op=some out:=hX;unfold wd at hX;split at hX
  ·exact zmu h hn _ hX
  ·obtain ⟨hs,hX⟩:=zc hX;rw [Bool.cond_eq_ite] at hX;split at hX
   ·exact zpz h hn hs _ hX
   ·exact zpv h hn hs _ hX
  ·exact zk8 h hn _ hX
  ·split at hX
   ·rename_i A he;exact Vz h hn he (VA h he) _ hX
   ·unfold wc at hX;split at hX
    ·exact zk9 h hn _ hX
    ·cases hX
  ·split at hX
   ·rename_i A he;exact Vz h hn he (VA h he) _ hX
   ·cases hX
  ·split at hX
   ·rename_i f caps hc;exact zva hgl hΓ h hn hc _ hX
   ·cases hX
  ·split at hX
   ·rename_i args ts x y t t' e1 e2;obtain ⟨ht,hX2⟩:=zc hX;have:=jz ht;subst this;rw [zcp e1,zcp e2];exact zdZ h hn _ hX2
   ·cases hX
  ·exact zjy h _ hX
  ·exact zlz h hn _ hX
def ztq (n:Nat):Uc Nat->Bool
 |some d=>Nat.blt d n
 |none=>true
def stp (q:Opts) (Γ:List (Spec C)) (P:Program) (n:Nat) (o:Oper) (S:St C):Uc (Out C):=match Y1 P S o.dst o.op with
 |some k=>chk (ztq n o.dst) (vZ P S k)
 |none=>vP q Γ P n o S
theorem zjz {q:Opts}{Γ:List (Spec C)}(hΓ:∀ s∈Γ,s.OK P) (n:Nat) (κ:Kp):zjt P n κ (stp q Γ P n):=by
 intro w0 σ0 hgl o S L b Z PV hA out hX;unfold stp at hX;split at hX
 ·rename_i X hN;obtain ⟨hd,hX2⟩:=zc hX;obtain ⟨ν,vs,ids,h⟩:=hA;obtain ⟨dst,op,ty,ps,af,g⟩:=o;exact zwD h (fun d e=>by subst e;exact hd) hN out hX2
 ·exact zvb hΓ n κ w0 σ0 hgl o S L b Z PV hA out hX
end
omit [Dfr] in
theorem xj.loopO:xj (fun {s β} f x=>loopO f x):=fun f x y h=>WM.1 h
theorem xj.iter (k:Nat):xj (fun {s β} f x=>Z5 f k x):=fun f x y h=>⟨k,h⟩
end
section
variable [Dfr]
section
variable {C:Cod}{S:St C}{P:Program}{ρ:Type}{Γ:List (Spec C)}
theorem ze9 {f:XE C->St C->Uc (Out C)}{K:Out C->Uc ρ}{k:XK}{g:Sig}{y:XK.ty C k g}:(yZ k g y f).bind K=yZ k g y fun e Sr=>(f e Sr).bind K:=by
 cases k <;> rfl
theorem Xn {f:XE C->St C->Uc (Out C)}{K:Out C->Uc ρ}:∀ {outs:List (XK×Sig)}{r:zh C outs},(zT outs r f).bind K=zT outs r fun e Sr=>(f e Sr).bind K
 |[],r=>r.elim
 |[o],r=>ze9
 |o::o2::l,r=>by
  cases r with
  |inl a=>exact ze9 (k:=o.1) (g:=o.2) (y:=a)
  |inr y=>exact Xn (outs:=o2::l) (r:=y)
def vQ (s:Spec C) (d:Nat) (S:St C) (x:s.ins.ty C) (K:Out C->Uc ρ):Uc ρ:=
 chk s.ins.es.isEmpty ((s.F x).bind fun r=>zT s.outs r fun e Sr=>(zaA S d s.nr e Sr).bind K)
def zbe:(outs:List (XK×Sig))->zh C outs->(XE C->St C->List ESh->α)->α
 |[],y,_=>y.elim
 |[o],y,K=>yZ o.1 o.2 y fun e S=>K e S o.2.es
 |o::o2::r,y,K=>match (y:XK.ty C o.1 o.2⊕zh C (o2::r)) with
  | .inl a=>yZ o.1 o.2 a fun e S=>K e S o.2.es
  | .inr y=>zbe (o2::r) y K
theorem zah {K:XE C->St C->List ESh->α}:∀ {outs:List (XK×Sig)}{r:zh C outs},zbe outs r K=zT outs r fun e S=>K e S (yh outs r)
 |[],r=>r.elim
 |[o],r=>rfl
 |o::o2::l,r=>by
  cases r with
  |inl a=>rfl
  |inr y=>exact zah (outs:=o2::l) (r:=y)
theorem zfa {k:XK}{g:Sig}{y:XK.ty C k g}:yZ k g y (fun _ _=>(none:Uc α))=none:=by cases k <;> rfl
theorem zcw:∀ {outs:List (XK×Sig)}{r:zh C outs},zT outs r (fun _ _=>(none:Uc α))=none
 |[],r=>r.elim
 |[o],r=>zfa (k:=o.1) (g:=o.2) (y:=r)
 |o::o2::l,r=>by
  cases r with
  |inl a=>exact zfa (k:=o.1) (g:=o.2) (y:=a)
  |inr y=>exact zcw (outs:=o2::l) (r:=y)
def zbf (s:Spec C) (d:Nat) (S2:St C) (bl:Bl) (x:s.ins.ty C) (K:Out C->Uc ρ):Uc ρ:=
 (s.F x).bind fun r=>zbe s.outs r fun e Sr es=>chk (Nat.ble s.ins.es.length es.length) ((wF S2 d s.nr bl es e Sr).bind K)
theorem zd4 {s:Spec C}{d:Nat}{S2:St C}{x:s.ins.ty C}{K:Out C->Uc ρ}:zbf s d S2 bl x K=(xm s d S2 bl x).bind K:=by
 unfold zbf xm;rw [ga];congr 1;funext r;rw [zah,zy,Xn];cases Nat.ble s.ins.es.length (yh s.outs r).length with
 |true=>rfl
 |false=>exact zcw
def zbg (s:Spec C) (d:Nat) (S:St C) (x:s.ins.ty C) (K:Out C->Uc ρ):Uc ρ:=
 (s.F x).bind fun r=>zbe s.outs r fun e Sr es=>chk (ztp e) ((wF S d s.nr [] es e Sr).bind K)
theorem zd5 {s:Spec C}{d:Nat}{x:s.ins.ty C}{K:Out C->Uc ρ}:zbg s d S x K=(yA s d S x).bind K:=by
 unfold zbg yA;rw [ga];congr 1;funext r;rw [zah,Xn];simp only [zy]
def zbh (Γ:List (Spec C)) (S:St C) (d f:Nat) (As:List (AV C.D)) (K:Out C->Uc ρ):Uc ρ:=match Γ with
  |[]=>none
  |s :: Γ=>bif Nat.beq s.f f && (s.view || s.viewO) then wG S As fun Bs=>chk (okX As Bs) (X3 s.ins.ts (ze7 S As Bs) fun T=>match Yy s.ins T As.length with
     |some (_,_,x)=>bif s.view then vQ s d S x K else zbg s d S x K
     |none=>none) else zbh Γ S d f As K
theorem zld {s:Spec C}{d:Nat}{x:s.ins.ty C}{K:Out C->Uc ρ}:vQ s d S x K=(yN s d S x).bind K:=by
 simp only [vQ,yN,zy,ga,Xn]
theorem zd6 {d:Nat}{As:List (AV C.D)}{K:Out C->Uc ρ}:∀ {Γ:List (Spec C)},zbh Γ S d f As K=(xn Γ S d f As).bind K
 |[]=>rfl
 |s::Γ=>by
  unfold zbh xn;cases (Nat.beq s.f f && (s.view || s.viewO)) with
  |false=>exact zd6
  |true=>
   simp only [US];rw [zbb];congr 1;funext Bs;rw [zy,zbc];congr 1;congr 1;funext T;cases Yy s.ins T As.length with
   |none=>rfl
   |some q=>
    obtain ⟨S2,bl,x⟩:=q;simp only;cases s.view with
    |true=>exact zld
    |false=>exact zd5
def vR (Γ0 Γ:List (Spec C)) (S:St C) (d f:Nat) (As:List (AV C.D)) (K:Out C->Uc ρ):Uc ρ:=match Γ with
 |[]=>zbh Γ0 S d f As K
 |s::Γ=>bif Nat.beq s.f f then (match YH s.ins S As with
  |some (S2,bl,x)=>bif s.view then vQ s d S x K else bif s.viewO then zbg s d S x K else zbf s d S2 bl x K
  |none=>vR Γ0 Γ S d f As K) else vR Γ0 Γ S d f As K
theorem zai {Γ0:List (Spec C)}{d:Nat}{As:List (AV C.D)}{K:Out C->Uc ρ}:∀ {Γ:List (Spec C)},vR Γ0 Γ S d f As K=(Yz Γ0 Γ S d f As).bind K
 |[]=>zd6
 |s::Γ=>by
  unfold vR Yz;cases Nat.beq s.f f with
  |false=>exact zai
  |true=>
   simp only [US];cases YH s.ins S As with
   |none=>exact zai
   |some q=>
    obtain ⟨S2,bl,x⟩:=q;simp only;cases s.view with
    |true=>
     simp only [US,vQ,yN,zy,ga,Xn]
    |false=>
     rw [Uh,Uh];cases s.viewO with
     |true=>simp only [US,zd5]
     |false=>simp only [Uh,zd4]
def zlA (Γ:List (Spec C)) (S:St C) (d f:Nat) (As:List (AV C.D)) (K:Out C->Uc ρ):Uc ρ:=vR Γ Γ S d f As K
theorem zmB {d:Nat}{As:List (AV C.D)}{K:Out C->Uc ρ}:zlA Γ S d f As K=(vO Γ S d f As).bind K:=zai
def eff:Op->Bool
 | .slice _ _ _ _ _=>true
 | .convert _ _ _=>true
 |op=> !rdE op
where
 rdE:Op->Bool
  | .alloc _=>false
  | .box _ _=>false
  | .makeSlice _ _ _=>false
  | .buildSlice _ _ _=>false
  | .call ⟨.value _,_,_⟩=>false
  | .call ⟨.builtin .append,_,_⟩=>false
  | .panic _=>false
  |_=>true
def VC (P:Program) (S:St C) (d:Nat) (t:TypeId) (x y:Operand) (K:Out C->Uc ρ):Uc ρ:=
  match P.underlying t with
  |some (.slice e)=>(match P.info? e with
    |some ti=>(match ti.zero with
      |some zv=>chk (Nat.beq ti.size (C.size e) && (Nat.blt 0 (C.size e) && (Nat.beq zv.cells.size (C.size e) && isNone (S.heap (nid d 0)))))
          (match S.op x with
          | .row id=>(match S.heap id with
            |some (.row T s)=>chk (Nat.beq T e) ((za6 S T (S.op y)).bind fun ts=>(zp ti.bytes s ts).bind fun s'=>
                K (.go {env:=upd (S.sub id .und).env d (.row (nid d 0)),heap:=upd (S.sub id .und).heap (nid d 0) (some (.row T s'))}))
            |_=>none)
          | .nils=>(za6 S e (S.op y)).bind fun ts=>(zp ti.bytes ⟨[],false⟩ ts).bind fun s'=>
                K (.go {env:=upd S.env d (.row (nid d 0)),heap:=upd S.heap (nid d 0) (some (.row e s'))})
          |_=>none)
      |none=>none)
    |none=>none)
  |_=>none
theorem zcx {d:Nat}{t:TypeId}{x y:Operand}{K:Out C->Uc ρ}:VC P S d t x y K=(yS P S d t x y).bind K:=by
 unfold VC yS;cases P.underlying t with
 |none=>rfl
 |some td=>
  cases td <;> first | rfl | skip
  rename_i e;simp only;cases P.info? e with
  |none=>rfl
  |some ti=>
   simp only;cases ti.zero with
   |none=>rfl
   |some zv=>
    simp only [zy];congr 1;cases S.op x <;> first | rfl | skip
    ·rename_i id;simp only;cases S.heap id with
     |none=>rfl
     |some en=>
      cases en with
      |cell cs=>rfl
      |row T s=>simp only [zy,ga,jf]
      |obj q T b s=>rfl
      |orow T s g=>rfl
    grind
def ztr {D:Nat->Type}:AV D->Bool
 | .str _=>true
 | .sl _ _ _=>true
 | .nx _ _ _ _=>true
 |_=>false
def zhf (P:Program) (S:St C) (d:Nat) (ty t:TypeId) (A:AV C.D) (x:Operand) (lo hi:Uc Operand) (K:Out C->Uc ρ):Uc ρ:=match A with
 | .row id=>zdg P (S.frz1 id) ty (.slice t x lo hi none) fun A=>K (.go ((S.frz1 id).put d A))
 |_=>none
def vS (P:Program) (S:St C) (t:TypeId) (x y:Operand) (K:Out C->Uc ρ):Uc ρ:=match P.info? t,S.op x with
 |some ti,.pr _ _ _ _=>go ti (S.frz (AV.rows (S.op y)))
 |_,_=>(yt P S t x y).bind K
where
  go (ti:TypeInfo) (S:St C):Uc ρ:=match S.op x with
    | .pr id T i off=>(match S.heap id with
      |some (.row T' s)=>chk (Nat.beq T T' && (YE (S.op y) && (Nat.beq ti.size (zu (S.op y)).length && (Nat.ble (off+(zu (S.op y)).length) (C.size T') && Nat.blt 0 (zu (S.op y)).length))))
          ((zb s i).bind fun q=>(C.imp T' ((C.emb T' q).take off++zu (S.op y)++(C.emb T' q).drop (off+(zu (S.op y)).length))).bind fun q'=>
            K (.go {S with heap:=upd S.heap id (some (.row T' (s.set i q')))}))
      |_=>none)
    |_=>none
theorem zle {x y:Operand}{K:Out C->Uc ρ}:vS.go x y K ti S=(yt.go x y ti S).bind K:=by
 unfold vS.go yt.go;cases S.op x <;> first | rfl | skip
 rename_i id T i off;simp only;cases S.heap id with
 |none=>rfl
 |some e=>
  cases e with
  |cell cs=>rfl
  |row T' s=>simp only [zy,ga,jf]
  |obj q T b s=>rfl
  |orow T s g=>rfl
theorem zlf {t:TypeId}{x y:Operand}{K:Out C->Uc ρ}:vS P S t x y K=(yt P S t x y).bind K:=by
 unfold vS;split
 ·rename_i ti id T i off h1 h2;rw [zle];unfold yt;rw [h1,h2]
 ·rfl
def zts (q:Opts) (Γ:List (Spec C)) (P:Program) (n:Nat):yK C:=fun o S _ K=>match o.dst with
 |some d=>chk (Nat.blt d n) (match o.op with
  | .call ⟨.value c,args,_⟩=>(match S.op c with
   | .clo f caps=>chk (zco caps) (zlA Γ S d f (xX (args.toList.map S.op) caps) K)
   |_=>none)
  | .call ⟨.builtin .append,args,ts⟩=>(match args.toList,ts.toList with
   |[x,y],[t,t']=>chk (Nat.beq t t') (VC P S d t x y K)
   |_,_=>none)
  | .slice t x lo hi none=>bif ztr (S.op x) then zdg P S o.type (.slice t x lo hi none) fun A=>K (.go (S.put d A)) else zhf P S d o.type t (S.op x) x lo hi K
  | .convert t t' x=>(match yR P S o.type (.convert t t' x) with
   |some A=>K (.go (S.put d A))
   |none=>none)
  |op=>bif eff op then (wd q Γ P d o.type S op).bind K else zdg P S o.type op fun A=>K (.go (S.put d A)))
 |none=>(match o.op with
  | .store t x y=>vS P S t x y K
  |_=>(vP q Γ P n o S).bind K)
theorem zvc {q:Opts}{d:Nat}{ty:TypeId}{op:Op}(h:eff op=false):wd q Γ P d ty S op=(yR P S ty op).map fun A =>.go (S.put d A):=by
 unfold wd;split <;> first | (cases h;done) | rfl
theorem zra {q:Opts}{n:Nat}{o:Oper}{K:Out C->Uc ρ}:zts q Γ P n o S ρ K=(vP q Γ P n o S).bind K:=by
 obtain ⟨dst,op,ty,ps,af,g⟩:=o;cases dst with
 |none=>cases op <;> first | rfl | exact zlf
 |some d=>
  show chk (Nat.blt d n) _=(chk (Nat.blt d n) (wd q Γ P d ty S op)).bind K;rw [zy];congr 1;simp only;split
  ·rename_i c args ts;unfold wd;simp only;cases S.op c <;> first | rfl | (simp only [zy];rw [zmB])
  ·rename_i args ts;unfold wd;simp only;generalize args.toList=l;generalize ts.toList=m
   match l,m with
   |[],_=>rfl
   |[_],_=>rfl
   |[x,y],[]=>rfl
   |[x,y],[_]=>rfl
   |[x,y],[t,t']=>simp only [zy,zcx]
   |[x,y],_::_::_::_=>rfl
   |_::_::_::_,_=>rfl
  ·rename_i t x lo hi;unfold wd;simp only [wc];cases hf:ztr (S.op x) with
   |false=>
    have he:yR P S ty (.slice t x lo hi none)=none:=by
     show xh P S t (S.op x) lo hi=none;revert hf;unfold xh;cases S.op x <;> intro hf <;> first | (cases hf;done) | skip
     all_goals (split <;> first | rfl | simp_all)
    rw [Uh,he];simp only;unfold zhf Yo;cases S.op x <;> first | rfl | skip
    simp only;rw [za7,ga];rfl
   |true=>
    rw [US,za7];have hn:Yo P S d ty t x lo hi=none:=by
     unfold Yo;cases hx:S.op x <;> rw [hx] at hf <;> first | (cases hf;done) | rfl
    grind
  ·rename_i t t' x;unfold wd;grind
  ·cases he:eff op with
   |true=>rfl
   |false=>
    rw [Uh,za7,zvc he];cases yR P S ty op <;> rfl
def zgp (P:Program) (S:St C) (d:Nat) (t:TypeId) (x y:Operand) (K:Out C->Uc ρ):Uc ρ:=match x with
 | .tmp tx=>(match S.env tx with
  | .nx id T i .whole=>wL S tx id T i (nid d 1) fun S1=>VC P S1 d t x y K
  |_=>none)
 |_=>none
theorem zmC {d:Nat}{t:TypeId}{x y:Operand}{K:Out C->Uc ρ}:zgp P S d t x y K=(wM P S d t x y).bind K:=by
 unfold zgp wM;cases x <;> first | rfl | skip
 rename_i tx;simp only;cases S.env tx <;> first | rfl | skip
 rename_i id T i nx;cases nx <;> first | rfl | skip
 simp only [zm4];congr 1;funext S1;exact zcx
def zmD (P:Program) (S:St C) (K:Out C->Uc ρ):KN->Uc ρ
 | .st t x y=>Xp P S t x y K
 | .apn d t t' x y=>chk (Nat.beq t t') (zgp P S d t x y K)
 | .apo d t t' x y=>chk (Nat.beq t t') (Wn P S d t x y K)
 | .bl d t i m y=>chk (Nat.beq i 0 && Nat.beq m 1) (Xq P S d t y K)
theorem zrb {k:KN}{K:Out C->Uc ρ}:zmD P S K k=(vZ P S k).bind K:=by
 cases k <;> simp only [zmD,vZ,zy]
 ·exact zjR
 ·rw [zmC]
 ·rw [zm5]
 ·rw [zjY]
def YW (q:Opts) (Γ:List (Spec C)) (P:Program) (n:Nat):yK C:=fun o S _ K=>match Y1 P S o.dst o.op with
 |some k=>chk (ztq n o.dst) (zmD P S K k)
 |none=>zts q Γ P n o S _ K
theorem vw {q:Opts}{n:Nat}{o:Oper}{K:Out C->Uc ρ}:YW q Γ P n o S ρ K=(stp q Γ P n o S).bind K:=by
 unfold YW stp;cases Y1 P S o.dst o.op with
 |some k=>simp only [zy,zrb]
 |none=>exact zra
theorem zjA {q:Opts}{n:Nat}{o:Oper}{K:Out C->Uc ρ}:YW q Γ P n o S ρ K=(YW q Γ P n o S _ some).bind K:=by
 rw [vw,vw,ga];rfl
end
end
section
variable [Dfr]
section
variable {κ:Kp}{C:Cod}{S T:St C}{ν:Val}{vs:Nat->List Value}{ids:List Nat}{L:List (Nat×Value)}{b:Nat->Value}{Z:FS}{PV:List Priv}{P:Program}{ρ:Type}
variable {t t' ty:TypeId}{x y z:Operand}{d:Nat}{ps:String}{af:Array Edge}{g:Uc (Nat×Bool)}{A:AV C.D}{n:Nat}{w0:Start}{σ0:FS}{o:Oper}{D:Nat->Prop}
def zcy (P:Program) (S:St C) (t:TypeId) (m:Nat) (parts:List (Nat×Operand)):Uc (AV C.D):=match P.underlying t with
  |some (.slice e)=>(match P.info? e with
    |some ti=>(match ti.zero with
      |some zv=>chk (Nat.beq ti.size (C.size e) && (Nat.blt 0 (C.size e) && (Nat.ble (m * C.size e) 16777216 && (Nat.beq parts.length m && zdf parts 0))))
          ((Ym S e (parts.map (·.2))).bind fun xs=>some (.sl e ⟨xs,true⟩ false))
      |none=>none)
    |none=>none)
  |_=>none
theorem zpH (h:AbsL κ S ν vs ids L b Z PV) (hn:Nat.blt d n=true) {parts:Array (Nat×Operand)}(hX:zcy P S t m parts.toList=some A):OpA κ P n w0 σ0 ⟨some d,.buildSlice t m parts,ty,ps,af,g⟩ (some (.go (S.put d A))) L b Z PV:=by
 unfold zcy at hX;split at hX
 ·rename_i e hu;split at hX
  ·rename_i ti hi;split at hX
   ·rename_i zv hz;obtain ⟨hc,hX2⟩:=zc hX;simp only [g9] at hc;obtain ⟨c1,c2,c3,c4,c5⟩:=hc;obtain ⟨xs,hxs,hX3⟩:=jy hX2;cases hX3;obtain ⟨r1,r2,r3⟩:=zcq h hxs;have hlen:((parts.toList.map (·.2)).map (opv L b)).length=m:=by
     have:=jz c4;simpa using this
    intro out ho a w hinv hf K Q hK hP;cases ho;refine WX (ρ:=Unit) (p:=some ()) (H:=fun p' L' Z' PV'=>∃ v,L'=(d,v)::L/\Z'=Z/\PV'=Priv.row (zG C e).o e v ⟨xs,true⟩::PV) (T:=(zG C e).o) (vs:=(parts.toList.map (·.2)).map (opv L b)) (xs:=xs) [] PV hn hu hi hz (jz c1) c3 c2 (za5 c5) hlen (fun hh _=>⟨zd.none,zd.none_le _,Ty.rels_o.2 r1,by rw [UV];exact r2,r3⟩) (fun v=>⟨v,rfl,rfl,rfl⟩) () rfl a w hinv hf K Q ?_;rintro p' L' Z' PV' a' w' hp' hi' hf' ⟨v,rfl,rfl,rfl⟩;obtain ⟨h1,hh,hsub,hle,hi2⟩:=hi'.freeze (m:=0) rfl;have hh:zq (zG C e).o e v ⟨xs,true⟩ Z' h1:=hh;refine hK _ rfl _ _ _ _ _ hi2 hf' ⟨ν,vs,ids,(h.le hle).put (A :=.sl e ⟨xs,true⟩ false) (Rv.of_vrel (hh.fast hle fun b o v e=>Xj b o v e)).vr trivial⟩
   ·cases hX
  ·cases hX
 ·cases hX
def rdQ:Op->Bool
 | .alloc _=>false
 | .box _ _=>false
 | .makeSlice _ _ _=>false
 | .call ⟨.value _,_,_⟩=>false
 | .call ⟨.builtin .append,_,_⟩=>false
 | .panic _=>false
 |_=>true
def evQ (P:Program) (S:St C) (ty:TypeId):Op->Uc (AV C.D)
 | .buildSlice t m parts=>zcy P S t m parts.toList
 |op=>yR P S ty op
def zrc (P:Program) (S:St C) (ty:TypeId) (op:Op) (K:AV C.D->Uc ρ):Uc ρ:=match op with
  | .buildSlice t m parts=>(match P.underlying t with
    |some (.slice e)=>(match P.info? e with
      |some ti=>(match ti.zero with
        |some zv=>chk (Nat.beq ti.size (C.size e) && (Nat.blt 0 (C.size e) && (Nat.ble (m * C.size e) 16777216 && (Nat.beq parts.toList.length m && zdf parts.toList 0))))
            ((Ym S e (parts.toList.map (·.2))).bind fun xs=>K (.sl e ⟨xs,true⟩ false))
        |none=>none)
      |none=>none)
    |_=>none)
  |op=>zdg P S ty op K
theorem zvd {op:Op}{K:AV C.D->Uc ρ}:zrc P S ty op K=(evQ P S ty op).bind K:=by
 unfold zrc evQ;split
 ·unfold zcy;cases P.underlying _ with
  |none=>rfl
  |some td=>
   cases td <;> first | rfl | skip
   simp only;cases P.info? _ with
   |none=>rfl
   |some ti=>
    simp only;cases ti.zero with
    |none=>rfl
    |some zv=>simp only [zy,ga,jf]
 ·exact za7
theorem zwq {q:Opts}{Γ:List (Spec C)}(h:AbsL κ S ν vs ids L b Z PV) (hn:Nat.blt d n=true) {op:Op}(hr:rdQ op=true) (he:evQ P S ty op=some A):OpA κ P n w0 σ0 ⟨some d,op,ty,ps,af,g⟩ (some (.go (S.put d A))) L b Z PV:=by
 unfold evQ at he;split at he
 ·exact zpH h hn he
 ·have:=zlz (P:=P) (n:=n) (w0:=w0) (σ0:=σ0) (ps:=ps) (af:=af) (g:=g) h (op:=op) hn (ty:=ty);rw [he] at this;exact this
theorem zfb:∀ {l:List Operand},(∀ x∈l,S.op x=T.op x)->Ym S e l=Ym T e l
 |[],_=>rfl
 |x::r,h=>by
  unfold Ym;rw [h x (by simp),zfb fun y hy=>h y (by simp [hy])]
end
end
section
variable [Dfr]
section
variable {C:Cod}{S T:St C}{P:Program}
def AV.hid {D:Nat->Type}:AV D->List Nat
 | .row id=>[id]
 | .pc id _=>[id]
 | .pr id _ _ _=>[id]
 | .nx id _ _ _=>[id]
 |_=>[]
def zeu (S:St C):Op->List Nat
 | .load _ x=>(S.op x).hid
 | .indexAddr _ x _=>(S.op x).hid
 | .binOp _ _ x _ _=>match S.op x with
  | .row id=>[id]
  | .nx id _ _ _=>[id]
  |_=>[]
 | .call ⟨.builtin .len,args,_⟩=>match args.toList with
  |[x]=>(S.op x).hid
  |_=>[]
 | .slice _ x _ _ _=>match S.op x with
  | .nx id _ _ _=>[id]
  |_=>[]
 |_=>[]
theorem wH {U:Nat}{i:Int}{K:(U:Nat)->Sl (C.D U)->Uc α}(h:S.heap id=T.heap id):zK S id U i K=zK T id U i K:=by
 unfold zK;rw [h]
theorem zpI {t:TypeId}{A:AV C.D}(h:∀ id∈A.hid,S.heap id=T.heap id):xQ P S t A=xQ P T t A:=by
 cases A <;> first | rfl | (simp only [xQ];rw [h _ (by simp [AV.hid])]) | skip
 rename_i id U i x;cases x <;> first | rfl | (simp only [xQ];rw [wH (h _ (by simp [AV.hid]))])
theorem zmE {t:TypeId}{A B:AV C.D}(h:∀ id∈A.hid,S.heap id=T.heap id):Xz P S t A B=Xz P T t A B:=by
 unfold Xz;split
 ·split
  ·cases A <;> first | rfl | (cases B <;> first | rfl | (simp only;rw [h _ (by simp [AV.hid])])) | skip
   rename_i id U i x;cases x <;> cases B <;> first | rfl | (simp only;rw [wH (h _ (by simp [AV.hid]))])
  ·rfl
 ·rfl
 ·rfl
theorem zrd {t:TypeId}{A:AV C.D}(h:∀ id∈A.hid,S.heap id=T.heap id):wB P S t A=wB P T t A:=by
 unfold wB;cases P.underlying t with
 |none=>rfl
 |some td=>
  cases A <;> first | rfl | (cases td <;> first | rfl | (simp only;rw [h _ (by simp [AV.hid])])) | skip
  rename_i id U i x;cases x <;> cases td <;> first | rfl | (simp only;rw [wH (h _ (by simp [AV.hid]))])
theorem zfc {dflt:Int}{o:Uc Operand}(h:∀ x,o=some x->S.op x=T.op x):ZB S dflt o=ZB T dflt o:=by
 cases o with
 |none=>rfl
 |some x=>simp only [ZB];rw [h x rfl]
theorem zmF {t:TypeId}{A:AV C.D}(h1:∀ x,lo=some x->S.op x=T.op x) (h2:∀ x,hi=some x->S.op x=T.op x) (h3:∀ id U i x,A = .nx id U i x->S.heap id=T.heap id):xh P S t A lo hi=xh P T t A lo hi:=by
 unfold xh;have e1:=fun dflt=>zfc (S:=S) (T:=T) (dflt:=dflt) h1
 have e2:=fun dflt=>zfc (S:=S) (T:=T) (dflt:=dflt) h2
 simp only [e1,e2];split
 ·rfl
 ·rfl
 ·split
  ·exact wH (h3 _ _ _ _ rfl)
  ·rfl
 ·rfl
theorem zpJ {l:List Operand}(h:∀ x∈l,S.op x=T.op x):l.map S.op=l.map T.op:=UU h
theorem zmG {t:TypeId}{parts:List (Nat×Operand)}(h:∀ q∈parts,S.op q.2=T.op q.2):Wd P S t parts=Wd P T t parts:=by
 unfold Wd;have:parts.map (fun q=>(q.1,S.op q.2))=parts.map fun q=>(q.1,T.op q.2):=UU fun q hq=>by rw [h q hq]
 rw [this]
theorem zlB {ty:TypeId}{op:Op}(hop:∀ x∈op.operands.toList,S.op x=T.op x) (hh:∀ id∈zeu S op,S.heap id=T.heap id):yR P S ty op=yR P T ty op:=by
 unfold yR;cases op
 case move x=>simp only;rw [hop x (by simp [Op.operands])]
 case assign x=>simp only;rw [hop x (by simp [Op.operands])]
 case pick c a e=>simp only;rw [hop c (by simp [Op.operands]),hop a (by simp [Op.operands]),hop e (by simp [Op.operands])]
 case nilCheck x=>simp only;rw [hop x (by simp [Op.operands])]
 case binOp bo t x y t'=>
  simp only;unfold xR;rw [<- hop x (by simp [Op.operands]),<- hop y (by simp [Op.operands])];cases yU y with
  |true=>rfl
  |false=>
  simp only [Uh];unfold XV;simp only [zeu] at hh;split
  ·grind
  ·rename_i id U i e;rw [e] at hh;split
   ·exact wH (hh id (by simp))
   ·rfl
  ·rfl
 case unOp u t x=>cases u <;> first | rfl | (simp only;rw [hop x (by simp [Op.operands])])
 case convert t t' x=>simp only;rw [hop x (by simp [Op.operands])]
 case makeFunc f fs caps=>
  cases f <;> first | rfl | skip
  simp only;have hfs:=zpJ (l:=fs.toList) fun x hx=>hop x (by simp [Op.operands];grind)
  unfold zav;generalize fs.toList=fl at hfs;rw [zpJ (l:=caps.toList) fun x hx=>hop x (by simp [Op.operands];grind)];grind
 case makeInterface t x=>simp only;rw [hop x (by simp [Op.operands])]
 case extract x i=>simp only;rw [hop x (by simp [Op.operands])]
 case typeAssert x xt t ok=>simp only;rw [hop x (by simp [Op.operands])]
 case build t parts=>exact zmG fun q hq=>hop q.2 (by simp [Op.operands];grind)
 case field t x m=>simp only;rw [hop x (by simp [Op.operands])]
 case fieldAddr t x m=>simp only;rw [hop x (by simp [Op.operands])]
 case indexAddr t x y=>
  simp only;rw [<- hop x (by simp [Op.operands]),<- hop y (by simp [Op.operands])];exact zmE hh
 case load t x=>
  simp only;rw [<- hop x (by simp [Op.operands])];exact zpI hh
 case index t x y=>simp only;rw [hop x (by simp [Op.operands]),hop y (by simp [Op.operands])]
 case slice t x lo hi mx=>
  cases mx with
  |some m=>rfl
  |none=>
   simp only;rw [<- hop x (by simp [Op.operands])];simp only [zeu] at hh;exact zmF (fun y e=>hop y (by subst e;simp [Op.operands])) (fun y e=>hop y (by subst e;simp [Op.operands])) fun id U i x e=>by
    grind
 case call c=>
  obtain ⟨cal,args,ts⟩:=c;cases cal
  case value c=>rfl
  case invoke r m=>rfl
  case builtin bi=>
   have ha:∀ x∈args.toList,S.op x=T.op x:=fun x hx=>hop x (by simp [Op.operands,Call.operands];simpa using hx)
   cases bi <;> first | rfl | skip
   case len=>
    simp only;split
    ·rename_i x t e1 e2;rw [e1] at ha;rw [<- ha x (by simp)];refine zrd fun id hid=>hh id ?_
     simp only [zeu,e1];exact hid
    ·rfl
   all_goals grind
 all_goals rfl
structure EqX (D:Nat->Prop) (S T:St C):Prop where
 heap:S.heap=T.heap
 env:∀ t,¬ D t->S.env t=T.env t
variable {D:Nat->Prop}
def z8 (D:Nat->Prop):Uc (Out C)->Uc (Out C)->Prop
 |some (.go S),some (.go T)=>EqX D S T
 |some (.pan u S),some (.pan v T)=>u=v/\EqX D S T
 |none,none=>True
 |_,_=>False
omit [Dfr] in
theorem z8.go {S' T':St C}(h:EqX D S' T'):z8 D (some (.go S')) (some (.go T')):=h
omit [Dfr] in
theorem z8.none:z8 (C:=C) D none none:=trivial
omit [Dfr] in
theorem z8.chk {c:Bool}{x y:Uc (Out C)}(h:z8 D x y):z8 D (chk c x) (chk c y):=by
 cases c with
 |true=>exact h
 |false=>trivial
omit [Dfr] in
theorem z8.bind {x:Uc α}{f g:α->Uc (Out C)}(h:∀ a,z8 D (f a) (g a)):z8 D (x.bind f) (x.bind g):=by
 cases x with
 |none=>trivial
 |some a=>exact h a
omit [Dfr] in
theorem EqX.refl (S:St C):EqX D S S:=⟨rfl,fun _ _=>rfl⟩
omit [Dfr] in
theorem EqX.put (h:EqX D S T) (d:Nat) (A:AV C.D) {hp:Nat->Uc (Ent C)}:EqX D {env:=upd S.env d A,heap:=hp} {env:=upd T.env d A,heap:=hp}:=⟨rfl,fun t ht=>by
 show upd S.env d A t=upd T.env d A t;unfold upd;cases Nat.beq t d with
 |true=>rfl
 |false=>exact h.env t ht⟩
omit [Dfr] in
theorem EqX.sub (h:EqX D S T) (id:Nat) (R:AV C.D):EqX D (S.sub id R) (T.sub id R):=by
 refine ⟨?_,fun t ht=>?_⟩
 ·unfold St.sub;simp only;rw [h.heap]
 ·show AV.sub id R (S.env t)=AV.sub id R (T.env t);rw [h.env t ht]
omit [Dfr] in
theorem EqX.frz1 (h:EqX D S T) (id:Nat):EqX D (S.frz1 id) (T.frz1 id):=by
 unfold St.frz1;rw [h.heap];split
 ·exact h.sub _ _
 ·rename_i T0 s g _;cases g.rd with
  |true=>exact h.sub _ _
  |false=>exact h
 ·exact h
omit [Dfr] in
theorem EqX.frz:∀ (l:List Nat) {S T:St C},EqX D S T->EqX D (S.frz l) (T.frz l)
 |[],_,_,h=>h
 |id::r,_,_,h=>EqX.frz r (h.frz1 id)
omit [Dfr] in
theorem EqX.op (h:EqX D S T) {x:Operand}(hx:∀ t,x = .tmp t->¬ D t):S.op x=T.op x:=by
 cases x with
 |tmp t=>exact h.env t (hx t rfl)
 |const v=>rfl
 |global g=>rfl
 |func f=>rfl
def WP (D:Nat->Prop) (l:List Operand):Prop:=∀ t,Operand.tmp t∈l->¬ D t
omit [Dfr] in
theorem EqX.ops (h:EqX D S T) {l:List Operand}(hl:WP D l):∀ x∈l,S.op x=T.op x:=fun x hx=>h.op fun t e=>hl t (e ▸ hx)
theorem zlC (h:EqX D S T) {d:Nat}{cs:List (AV C.D)}:z8 D (za3 S d cs) (za3 T d cs):=by
 unfold za3;rw [h.heap];exact .chk (h.put d _)
theorem zpK (h:EqX D S T) {d:Nat}{t:TypeId}:z8 D (xV P S d t) (xV P T d t):=by
 unfold xV;split
 ·split
  ·split
   ·unfold zpw;rw [h.heap];exact .chk (h.put d _)
   ·exact zlC h
  ·trivial
 ·trivial
theorem zhg:∀ {l:List Operand},(∀ x∈l,S.op x=T.op x)->Ym S e l=Ym T e l
 |[],_=>rfl
 |x::r,h=>by
  unfold Ym;rw [h x (by simp),zhg fun y hy=>h y (UW _ hy)]
theorem zmH (h:EqX D S T) {d:Nat}{t:TypeId}{parts:List (Nat×Operand)}(hp:WP D (parts.map (·.2))):z8 D (YV P S d t m parts) (YV P T d t m parts):=by
 unfold YV;have e:parts.map (fun q=>S.op q.2)=parts.map fun q=>T.op q.2:=UU fun q hq=>h.ops hp _ (UX.2 ⟨q,hq,rfl⟩)
 rw [e];have h':=EqX.frz (AV.rowss (parts.map fun q=>T.op q.2)) h;generalize S.frz _=S' at h' |-
 generalize T.frz _=T' at h' |-
 unfold YV.go;have e2:=fun e=>zhg (e:=e) (h'.ops hp)
 simp only [h'.heap,e2];split
 ·split
  ·split
   ·exact .chk (.bind fun xs=>h'.put d _)
   ·trivial
  ·trivial
 ·trivial
theorem EqX.heap' (h:EqX D S T) {hp:Nat->Uc (Ent C)}:EqX D {S with heap:=hp} {T with heap:=hp}:=⟨rfl,h.env⟩
theorem zpL (h:EqX D S T) {t:TypeId}{x y:Operand}(hx:∀ t,x = .tmp t->¬ D t) (hy:∀ t,y = .tmp t->¬ D t):z8 D (yt P S t x y) (yt P T t x y):=by
 unfold yt;have ex:=h.op hx;have ey:=h.op hy;rw [ex,ey,h.heap];split
 ·split
  ·exact .chk h.heap'
  ·trivial
 ·rename_i ti _ _ _ _ _ _;have h':=EqX.frz (AV.rows (T.op y)) h;have ex':=h'.op hx;have ey':=h'.op hy;generalize S.frz _=S' at h' ex' ey' |-
  generalize T.frz _=T' at h' ex' ey' |-
  unfold yt.go;rw [ex',ey',h'.heap];split
  ·split
   ·exact .chk (.bind fun q =>.bind fun q'=>h'.heap')
   ·trivial
  ·trivial
 ·trivial
theorem zve (h:S.heap=T.heap) {A:AV C.D}:za6 S e A=za6 T e A:=by
 unfold za6;rw [h]
theorem EqX.subRow (h:EqX D S T) (d id T':Nat) (s':Sl (C.D T')):EqX D {env:=upd (S.sub id .und).env d (.row (nid d 0)),heap:=upd (S.sub id .und).heap (nid d 0) (some (.row T' s'))} {env:=upd (T.sub id .und).env d (.row (nid d 0)),heap:=upd (T.sub id .und).heap (nid d 0) (some (.row T' s'))}:=by
 have:=h.sub id .und;exact ⟨by show upd _ _ _=upd _ _ _;rw [this.heap],(this.put d _ (hp:=T.heap)).env⟩
theorem zfd (h:EqX D S T) {d:Nat}{t:TypeId}{x y:Operand}(hx:S.op x=T.op x) (hy:S.op y=T.op y):z8 D (yS P S d t x y) (yS P T d t x y):=by
 unfold yS;have e:=fun e A=>zve (e:=e) (A:=A) h.heap
 simp only [hx,hy,h.heap,e];split
 ·split
  ·split
   ·refine .chk ?_;split
    ·split
     ·exact .chk (.bind fun ts =>.bind fun s'=>EqX.subRow h _ _ _ _)
     ·trivial
    ·exact .bind fun ts =>.bind fun s'=>h.put d _
    ·trivial
   ·trivial
  ·trivial
 ·trivial
end
end
section
variable [Dfr]
section
variable {C:Cod}{S T:St C}{P:Program}{D:Nat->Prop}
omit [Dfr] in
theorem EqX.owk (h:EqX D S T) (id:Nat) (e:Ent C):EqX D (S.owk id e) (T.owk id e):=by
 refine ⟨?_,fun t ht=>?_⟩
 ·unfold St.owk;simp only;rw [h.heap]
 ·show AV.knx _ (S.env t)=AV.knx _ (T.env t);rw [h.env t ht]
theorem EqX.newE (h:EqX D S T) (d i:Nat) (A:AV C.D) (e:Uc (Ent C)):EqX D {env:=upd S.env d A,heap:=upd S.heap i e} {env:=upd T.env d A,heap:=upd T.heap i e}:=by
 rw [h.heap];exact h.put d A
theorem zlD (h:EqX D S T) {s:Sl (C.D T0)}{g:Own}{i:Int}{cells:List (AV C.D)}:z8 D (X4 S id T0 s g i off cells some) (X4 T id T0 s g i off cells some):=by
 unfold X4;simp only [WG];split
 ·rw [h.heap];split
  ·exact .chk (.bind fun q =>.bind fun g' =>.bind fun q'=>(h.sub _ _).owk _ _)
  ·trivial
 ·refine .bind fun q=>?_
  split
  ·exact .bind fun g' =>.bind fun q'=>h.owk _ _
  ·trivial
 ·trivial
theorem zvf {y:Operand}{N:Nat}(hy:S.op y=T.op y):vW S ti y off N=vW T ti y off N:=by unfold vW;rw [hy]
theorem zmI (h:EqX D S T) {t:TypeId}{x y:Operand}(hx:S.op x=T.op x) (hy:S.op y=T.op y):z8 D (xF P S t x y) (xF P T t x y):=by
 have e1:=fun ti off N=>zvf (S:=S) (T:=T) (ti:=ti) (y:=y) (off:=off) (N:=N) hy
 unfold xF Xp;rw [hx,hy,h.heap];simp only [e1];split
 ·split
  ·refine .chk ?_;cases xT _ _ _ with
   |true=>exact zlD h
   |false=>exact .bind fun q =>.bind fun q'=>⟨rfl,h.env⟩
  ·exact .chk (zlD h)
  ·trivial
 ·split
  ·refine .chk (.bind fun q=>?_);split
   ·exact .chk (.bind fun y0 =>.bind fun y1 =>.bind fun q'=>⟨rfl,h.env⟩)
   ·trivial
  ·trivial
 ·trivial
theorem zvg (h:EqX D S T) {tx:Nat}{i:Int}{gid:Nat}{K K':St C->Uc (Out C)}(hK:∀ S1 T1,EqX D S1 T1->(∀ z,(∀ t,z = .tmp t->t=tx\/¬ D t)->S1.op z=T1.op z)->z8 D (K S1) (K' T1)):z8 D (wL S tx id T0 i gid K) (wL T tx id T0 i gid K'):=by
 unfold wL;rw [h.heap];split
 ·refine .chk (.bind fun q=>?_);split
  ·refine hK _ _ (h.put tx _) fun z hz=>?_
   cases z with
   |tmp t=>
    show upd S.env tx _ t=upd T.env tx _ t;unfold upd;cases e:Nat.beq t tx with
    |true=>rfl
    |false=>
     simp only [Uh];rcases hz t rfl with z | z
     ·subst z;simp at e
     ·exact h.env t z
   |const v=>rfl
   |global g=>rfl
   |func f=>rfl
  ·trivial
 ·trivial
theorem zre (h:EqX D S T) {d:Nat}{t:TypeId}{x y:Operand}(hx:∀ t,x = .tmp t->¬ D t) (hy:∀ t,y = .tmp t->¬ D t):z8 D (wM P S d t x y) (wM P T d t x y):=by
 unfold wM;cases x with
 |tmp tx=>
  simp only;rw [h.env tx (hx tx rfl)];split
  ·exact zvg h fun S1 T1 h1 hz=>zfd h1 (hz _ fun t e =>.inr (hx t e)) (hz _ fun t e =>.inr (hy t e))
  ·trivial
 |const v=>trivial
 |global g=>trivial
 |func f=>trivial
theorem zrf (h:EqX D S T) {d:Nat}{t:TypeId}{x y:Operand}(hx:S.op x=T.op x) (hy:S.op y=T.op y):z8 D (wN P S d t x y) (wN P T d t x y):=by
 have hs:=fun id id2 (e:Uc (Ent C))=>((h.sub id .und).sub id2 .und).newE d (nid d 0) (.row (nid d 0)) e
 have hs2:=fun id2 (e:Uc (Ent C))=>(h.sub id2 .und).newE d (nid d 0) (.row (nid d 0)) e
 unfold wN Wn;rw [hx,hy];rw [show isNone (S.heap (nid d 0))=isNone (T.heap (nid d 0)) by rw [h.heap]];split
 ·split
  ·split
   ·refine .chk ?_;split
    ·rw [h.heap];split
     ·split
      ·split
       ·exact .chk (.bind fun ts =>.bind fun s'=>hs _ _ _)
       ·trivial
      ·exact .bind fun ts =>.bind fun s'=>hs2 _ _
      ·trivial
     ·trivial
    ·trivial
   ·trivial
  ·trivial
 ·trivial
theorem zmJ (h:EqX D S T) {d:Nat}{t:TypeId}{y:Operand}(hy:S.op y=T.op y):z8 D (xH P S d t y) (xH P T d t y):=by
 have hs2:=fun id2 (e:Uc (Ent C))=>(h.sub id2 .und).newE d (nid d 0) (.row (nid d 0)) e
 unfold xH Xq;rw [hy];rw [show isNone (S.heap (nid d 0))=isNone (T.heap (nid d 0)) by rw [h.heap]];split
 ·split
  ·split
   ·refine .chk ?_;split
    ·rw [show ∀ i,S.heap i=T.heap i from fun i=>by rw [h.heap]];split
     ·exact .bind fun q=>hs2 _ _
     ·trivial
    ·trivial
   ·trivial
  ·trivial
 ·trivial
theorem zvh (h:S.heap=T.heap) {x y:Operand}(hx:S.op x=T.op x) (hy:S.op y=T.op y):zeF S x y=zeF T x y:=by unfold zeF;rw [h,hx,hy]
theorem zvi {x:Operand}(hx:S.op x=T.op x):zeE S x=zeE T x:=by unfold zeE;rw [hx]
theorem zwr (h:S.heap=T.heap) {x:Operand}(hx:S.op x=T.op x):isO S x=isO T x:=by unfold isO;rw [h,hx]
theorem zvj (h:EqX D S T) {op:Op}(hf:WP D op.operands.toList):Y1 P S dst op=Y1 P T dst op/\∀ k,Y1 P T dst op=some k->z8 D (vZ P S k) (vZ P T k):=by
 have hop:=h.ops hf;unfold Y1;split
 ·rename_i t x y;have hx:=hop x (by simp [Op.operands]);have hy:=hop y (by simp [Op.operands]);rw [zvh h.heap hx hy];refine ⟨rfl,fun k hk=>?_⟩;cases hc:zeF T x y with
  |false=>grind
  |true=>rw [hc] at hk;cases hk;exact zmI h hx hy
 ·rename_i d args ts;split
  ·rename_i x y t t' e1 e2;have mx:x∈(Op.operands (.call ⟨.builtin .append,args,ts⟩)).toList:=by simp [Op.operands,Call.operands];rw [<- Array.mem_toList_iff,e1];simp
   have my:y∈(Op.operands (.call ⟨.builtin .append,args,ts⟩)).toList:=by simp [Op.operands,Call.operands];rw [<- Array.mem_toList_iff,e1];simp
   have hx:=hop x mx;have hy:=hop y my;rw [zvi hx,zwr h.heap hy];refine ⟨rfl,fun k hk=>?_⟩;cases hc:zeE T x with
   |true=>
    rw [hc] at hk;cases hk;exact .chk (zre h (fun t e=>hf t (e ▸ mx)) (fun t e=>hf t (e ▸ my)))
   |false=>
    rw [hc,Uh] at hk;cases hc2:isO T y with
    |true=>rw [hc2] at hk;cases hk;exact .chk (zrf h hx hy)
    |false=>grind
  grind
 ·rename_i d t m parts;split
  ·rename_i i y e1;have hy:=hop y (by simp [Op.operands];exact ⟨i,by rw [<- Array.mem_toList_iff,e1];simp⟩);rw [hy];refine ⟨rfl,fun k hk=>?_⟩;cases hc:(C.own (wr P t) && zcM (zu (T.op y)) (C.nst (wr P t))) with
   |true=>rw [hc] at hk;cases hk;exact .chk (zmJ h hy)
   |false=>grind
  grind
 grind
end
end
section
variable [Dfr]
section
variable {C:Cod}{S T:St C}{P:Program}{D:Nat->Prop}
def WQ (D:Nat->Prop) (ts:List (Nat×Sh)):Prop:=∀ q∈ts,¬ D q.1
theorem ztt (h:EqX D S T):∀ {ts:List (Nat×Sh)},WQ D ts->fzT S ts=fzT T ts
 |[],_=>rfl
 |(t,s)::ts,hf=>by
  unfold fzT;rw [h.env t (hf (t,s) (by simp)),ztt h fun q hq=>hf q (UW _ hq)]
theorem zvk {t:Nat}{p:Nat}(h:EqX D S T) (ht:¬ D t):EqX D (nilA1 es t s p S) (nilA1 es t s p T):=by
 unfold nilA1;rw [h.env t ht,h.heap];split
 ·split
  ·cases isNone (T.heap _) with
   |true=>exact h.put t _
   |false=>exact h
  ·exact h
 ·exact h
theorem zpM {t:Nat}(ht:¬ D t):∀ (l:List Sh) (p:Nat) {S T:St C},EqX D S T->EqX D (nilA es t l p S) (nilA es t l p T)
 |[],_,S,T,h=>h
 |s::l,p,S,T,h=>zpM ht l _ (zvk h ht)
theorem zaB:∀ (ts:List (Nat×Sh)) {S T:St C},EqX D S T->WQ D ts->EqX D (nilT es ts S) (nilT es ts T)
 |[],S,T,h,_=>h
 |(t,s)::ts,S,T,h,hf=>by
  unfold nilT;rw [h.env t (hf (t,s) (by simp)),h.heap];have hf':WQ D ts:=fun q hq=>hf q (UW _ hq)
  split
  ·split
   ·cases isNone (T.heap _) with
    |true=>exact zaB ts (h.put t _) hf'
    |false=>exact zaB ts h hf'
   ·exact zaB ts h hf'
  ·exact zaB ts (zpM (hf _ (List.mem_cons_self ..)) _ 0 h) hf'
  ·exact zaB ts h hf'
theorem zev (h:S.heap=T.heap) :WR S bl=WR T bl:=by
 funext k;unfold WR;rw [h]
theorem zlE (h:EqX D S T):∀ {ts:List (Nat×Sh)}{bl:Bl},WQ D ts->zfq S ts bl=zfq T ts bl
 |[],bl,_=>rfl
 |(t,s)::ts,bl,hf=>by
  unfold zfq;rw [h.env t (hf (t,s) (by simp)),zlE h fun q hq=>hf q (UW _ hq)]
theorem zlF (h:S.heap=T.heap):∀ {es:List ESh}{k:Nat}{bl:Bl},zfr S es k bl=zfr T es k bl
 |[],k,bl=>rfl
 |e::es,k,bl=>by
  unfold zfr;rw [zev h,zlF h]
theorem VD (h:EqX D S T) {g:Sig}(hf:WQ D g.ts):Zx g m S=Zx g m T:=by
 unfold Zx;rw [zlE h hf,zlF h.heap]
theorem ztu (h:S.heap=T.heap) :∀ {es:List ESh}{k:Nat},fzE S bl es k=fzE T bl es k
 |[],k=>rfl
 |e::es,k=>by
  unfold fzE;rw [zev h,ztu h]
theorem zws (h:EqX D S T) {p:Nat}:EqX D (nil1 es id s p S) (nil1 es id s p T):=by
 unfold nil1;rw [h.heap];split
 ·split
  ·cases isNone (T.heap _) with
   |true=>exact h.heap'
   |false=>exact h
  ·exact h
 ·exact h
theorem zpN:∀ (l:List Sh) (p:Nat) {S T:St C},EqX D S T->EqX D (nilC es id l p S) (nilC es id l p T)
 |[],p,S,T,h=>h
 |s::l,p,S,T,h=>zpN l _ (zws h)
theorem zpO {all:List ESh}:∀ (es:List ESh) (k:Nat) {S T:St C},EqX D S T->EqX D (nilE all bl es k S) (nilE all bl es k T)
 |[],k,S,T,h=>h
 |e::es,k,S,T,h=>by
  refine zpO es _ ?_;unfold zft;split
  ·exact zpN _ 0 h
  ·exact h
theorem zpP (h:EqX D S T) {g:Sig}(hf:WQ D g.ts):EqX D (g.prep m S) (g.prep m T):=by
 unfold Sig.prep;rw [ztt h hf];have h':=zaB (es:=g.es) g.ts (EqX.frz (fzT T g.ts) h) hf;generalize nilT g.es g.ts (S.frz _)=S' at h' |-
 generalize nilT g.es g.ts (T.frz _)=T' at h' |-
 simp only;rw [VD h' hf];have h2:=zpO (all:=g.es) (bl:=Zx g m T') g.es 0 h';generalize nilE g.es _ g.es 0 S'=S2 at h2 |-
 generalize nilE g.es _ g.es 0 T'=T2 at h2 |-
 rw [VD h2 hf,ztu h2.heap];exact EqX.frz _ h2
theorem zpQ (h:S.heap=T.heap) :∀ {es:List ESh}{k:Nat},zeC S m es k=zeC T m es k
 |[],_=>rfl
 |e::es,k=>by unfold zeC;rw [h,zpQ h]
theorem zjB (h:EqX D S T) {g:Sig}(hf:WQ D g.ts):YK g m S bl=YK g m T bl:=by
 unfold YK;rw [zpQ h.heap,zev h.heap,show g.ts.map (fun t=>S.env t.1)=g.ts.map fun t=>T.env t.1 from UU fun q hq=>h.env _ (hf q hq)]
theorem zpR (h:EqX D S T) (As:List (AV C.D)):EqX D (virt S As) (virt T As):=⟨h.heap,fun t ht=>by
 show (bif Nat.blt t vB then S.env t else _)=(bif Nat.blt t vB then T.env t else _)
 rw [h.env t ht]⟩
theorem zjC (h:EqX D S T):EqX D (unvirt S) (unvirt T):=⟨h.heap,fun t ht=>by
 show (bif Nat.blt t vB then S.env t else _)=(bif Nat.blt t vB then T.env t else _)
 rw [h.env t ht]⟩
theorem zlG (h:EqX D S T):EqX (fun t=>D (vB+t)) (Y0 S) (Y0 T):=⟨h.heap,fun t ht=>h.env _ ht⟩
theorem zfe (hD:∀ t,D t->t < vB) {g:Sig}:WQ D g.shift.ts:=fun q hq=>by
 obtain ⟨p,hp,rfl⟩:=UX.1 hq;grind
def zhP (D:Nat->Prop) :Uc (St C×Bl×ins.ty C)->Uc (St C×Bl×ins.ty C)->Prop
 |some (S,bl,x),some (T,bl',x')=>EqX D S T/\bl=bl'/\x=x'
 |none,none=>True
 |_,_=>False
theorem zpS (hp0:EqX D S T) (hD:∀ t,D t->t < vB) {N:Nat}:zhP D (Yy ins S N) (Yy ins T N):=by
 unfold Yy;have hf:=zfe hD (g:=ins);have hp:=zpP hp0 (g:=ins.shift) (m:=0) hf;have hb:=VD hp (g:=ins.shift) (m:=0) hf;have hg:∀ bl,YK ins 0 (Y0 (ins.shift.prep 0 S)) bl=YK ins 0 (Y0 (ins.shift.prep 0 T)) bl:=fun bl=>zjB (zlG hp) fun q hq hd=>by
  grind
 simp only [hb,hg];cases Nat.beq N ins.ts.length && Nat.ble ins.es.length 64 with
 |false=>trivial
 |true=>
  show zhP D (Option.map _ _) (Option.map _ _);cases YK ins 0 (Y0 (ins.shift.prep 0 T)) (Zx ins.shift 0 (ins.shift.prep 0 T)) with
  |none=>trivial
  |some x=>exact ⟨hp,rfl,rfl⟩
theorem zrg (h:EqX D S T) (hD:∀ t,D t->t < vB) {As:List (AV C.D)}:zhP D (YH ins S As) (YH ins T As):=by
 unfold YH;have hv:=zpR h As;have hf:=zfe hD (g:=ins);have hp:=zpP hv (g:=ins.shift) (m:=0) hf;have hb:=VD hp (g:=ins.shift) (m:=0) hf;have hg:∀ bl,YK ins 0 (Y0 (ins.shift.prep 0 (virt S As))) bl=YK ins 0 (Y0 (ins.shift.prep 0 (virt T As))) bl:=fun bl=>zjB (zlG hp) fun q hq hd=>by
  grind
 simp only [hb,hg];cases Nat.beq As.length ins.ts.length && Nat.ble ins.es.length 64 with
 |false=>trivial
 |true=>
  show zhP D (Option.map _ _) (Option.map _ _);cases YK ins 0 (Y0 (ins.shift.prep 0 (virt T As))) (Zx ins.shift 0 (ins.shift.prep 0 (virt T As))) with
  |none=>trivial
  |some x=>exact ⟨hp,rfl,rfl⟩
theorem zhh (h:EqX D S T) {Sr:St C}{d:Nat}:EqX D (Zw S Sr d bl es) (Zw T Sr d bl es):=by
 refine ⟨?_,fun t ht=>?_⟩
 ·unfold Zw;simp only;rw [h.heap]
 ·show AV.kill _ (AV.knx _ (S.env t))=AV.kill _ (AV.knx _ (T.env t));rw [h.env t ht]
theorem zew (h:S.heap=T.heap) {Sr:St C}{d:Nat}:∀ {k:Nat},vN S Sr d bl k=vN T Sr d bl k
 |0=>rfl
 |k+1=>by unfold vN;rw [h,zew h]
theorem zcz {outs:List (XK×Sig)}{r:zh C outs}{f g:XE C->St C->Uc (Out C)}(h:∀ e Sr,z8 D (f e Sr) (g e Sr)):z8 D (zT outs r f) (zT outs r g):=by
 have hf:zT outs r (fun _ _=>True):=by
  revert r
  induction outs with
  |nil=>intro r;exact r.elim
  |cons o l ih=>
   have one:∀ y:XK.ty C o.1 o.2,yZ o.1 o.2 y (fun _ _=>True):=fun y=>by
    obtain ⟨k,g⟩:=o;cases k <;> trivial
   cases l with
   |nil=>intro r;exact one r
   |cons o2 l=>
    intro r;cases r with
    |inl a=>exact one a
    |inr y=>exact ih (r:=y)
 revert r
 induction outs with
 |nil=>intro r;exact r.elim
 |cons o l ih=>
  have one:∀ y:XK.ty C o.1 o.2,z8 D (yZ o.1 o.2 y f) (yZ o.1 o.2 y g):=fun y=>by
   obtain ⟨k,sg⟩:=o;cases k <;> exact h _ _
  cases l with
  |nil=>intro r _;exact one r
  |cons o2 l=>
   intro r hr;cases r with
   |inl a=>exact one a
   |inr y=>exact ih (r:=y) hr
theorem zpT (h:EqX D S T) {s:Spec C}{d:Nat}{x:s.ins.ty C}:z8 D (xm s d S bl x) (xm s d T bl x):=by
 unfold xm;refine .bind fun r =>.chk (zcz fun e Sr=>?_)
 unfold wF;rw [zew h.heap];refine .chk ?_;have hm:=zjC (zhh h (Sr:=Sr) (d:=d) (bl:=bl) (es:=yh s.outs r));cases e with
 |ret=>exact ⟨hm.heap,(hm.put d _ (hp:=fun _=>none)).env⟩
 |pan A=>exact ⟨rfl,hm⟩
 |normal=>trivial
 |exit i=>trivial
theorem zhi (h:EqX D S T) {s:Spec C}{d:Nat}{x:s.ins.ty C}:z8 D (yA s d S x) (yA s d T x):=by
 unfold yA;refine .bind fun r=>zcz fun e Sr =>.chk ?_
 unfold wF;rw [zew h.heap];refine .chk ?_;have hm:=zjC (zhh h (Sr:=Sr) (d:=d) (bl:=[]) (es:=yh s.outs r));cases e with
 |ret=>exact ⟨hm.heap,(hm.put d _ (hp:=fun _=>none)).env⟩
 |pan A=>exact ⟨rfl,hm⟩
 |normal=>trivial
 |exit i=>trivial
theorem zhj (h:EqX D S T) {s:Spec C}{d:Nat}{x:s.ins.ty C}:z8 D (yN s d S x) (yN s d T x):=by
 unfold yN;refine .chk (.bind fun r=>zcz fun e Sr=>?_);unfold zaA;cases e with
 |ret=>exact .chk ⟨h.heap,(h.put d _ (hp:=fun _=>none)).env⟩
 |pan A=>exact .chk ⟨rfl,h⟩
 |normal=>trivial
 |exit i=>trivial
theorem zmK (h:S.heap=T.heap) {i:Int}{K:(U:Nat)->Sl (C.D U)->Uc α}:zK S id T0 i K=zK T id T0 i K:=by
 unfold zK;rw [h]
omit [Dfr] in
mutual
theorem zwt (h:S.heap=T.heap):∀ {A:AV C.D}{K:AV C.D->Uc α},W1 S A K=W1 T A K
 | .nx id T i .whole,K=>zmK h
 | .agg cs,K=>zgq h (As:=cs)
 | .nx _ _ _ (.part _ _ _),K=>rfl
 | .nx _ _ _ (.elem _ _ _),K=>rfl
 | .int _ _,K=>rfl
 | .bool _,K=>rfl
 | .str _,K=>rfl
 | .tup _,K=>rfl
 | .sl _ _ _,K=>rfl
 | .row _,K=>rfl
 | .pc _ _,K=>rfl
 | .pr _ _ _ _,K=>rfl
 | .pz _ _ _,K=>rfl
 | .pnil,K=>rfl
 | .nils,K=>rfl
 | .clo _ _,K=>rfl
 | .nilf,K=>rfl
 | .ifc _ _,K=>rfl
 | .nili,K=>rfl
 | .und,K=>rfl
theorem zgq (h:S.heap=T.heap):∀ {As:List (AV C.D)}{K:List (AV C.D)->Uc α},wG S As K=wG T As K
 |[],K=>rfl
 |A::As,K=>by
  show W1 S A _=W1 T A _;rw [zwt h (A:=A)];congr 1;funext B;exact zgq h (As:=As)
end
omit [Dfr] in
mutual
theorem zwu:∀ {A:AV C.D}{f g:AV C.D->Uc (Out C)},(∀ B,z8 D (f B) (g B))->z8 D (W1 T A f) (W1 T A g)
 | .nx id T0 i .whole,f,g,h=>by
  show z8 D (zK T id T0 i _) (zK T id T0 i _);unfold zK;split
  ·refine .chk (.bind fun q=>?_);split
   ·exact h _
   ·trivial
  ·trivial
 | .agg cs,f,g,h=>zgr (As:=cs) fun Bs=>h _
 | .nx _ _ _ (.part _ _ _),f,g,h=>h _
 | .nx _ _ _ (.elem _ _ _),f,g,h=>h _
 | .int _ _,f,g,h=>h _
 | .bool _,f,g,h=>h _
 | .str _,f,g,h=>h _
 | .tup _,f,g,h=>h _
 | .sl _ _ _,f,g,h=>h _
 | .row _,f,g,h=>h _
 | .pc _ _,f,g,h=>h _
 | .pr _ _ _ _,f,g,h=>h _
 | .pz _ _ _,f,g,h=>h _
 | .pnil,f,g,h=>h _
 | .nils,f,g,h=>h _
 | .clo _ _,f,g,h=>h _
 | .nilf,f,g,h=>h _
 | .ifc _ _,f,g,h=>h _
 | .nili,f,g,h=>h _
 | .und,f,g,h=>h _
theorem zgr:∀ {As:List (AV C.D)}{f g:List (AV C.D)->Uc (Out C)},(∀ Bs,z8 D (f Bs) (g Bs))->z8 D (wG T As f) (wG T As g)
 |[],f,g,h=>h _
 |A::As,f,g,h=>zwu (A:=A) fun B=>zgr (As:=As) fun Bs=>h _
end
theorem zvl (h:EqX D S T) (hD:∀ t,D t->t < vB) (As Bs:List (AV C.D)):EqX D (ze7 S As Bs) (ze7 T As Bs):=by
 have h1:=EqX.frz (AV.nxss As) (zpR h As);refine ⟨h1.heap,fun t ht=>?_⟩;show (bif Nat.blt t vB then _ else match zag As Bs (t - vB) with | some B=>B | none=>_)=(bif Nat.blt t vB then _ else match zag As Bs (t - vB) with | some B=>B | none=>_);rw [h1.env t ht]
theorem zgs (hD:∀ t,D t->t < vB):∀ {ts:List (Nat×Sh)}{S T:St C}{f g:St C->Uc (Out C)},EqX D S T->(∀ S1 T1,EqX D S1 T1->z8 D (f S1) (g T1))->z8 D (X3 ts S f) (X3 ts T g)
 |[],S,T,f,g,h,k=>k _ _ h
 |(t,s)::ts,S,T,f,g,h,k=>by
  unfold X3;have hn:¬ D (vB+t):=fun hd=>by grind
  have hc:∀ id,Xm S id=Xm T id:=fun id=>by unfold Xm;rw [h.heap]
  rw [h.env _ hn];split
  ·rename_i T0 o id off _;rw [hc];have h1:=EqX.frz (Xm T id) h;rw [h1.heap];split
   ·refine .bind fun q=>zgs hD ?_ k
    have h2:=h1.sub id .und;rw [h2.heap];exact h2.put (vB+t) _
   ·trivial
  ·exact zgs hD h k
theorem zhk (h:EqX D S T) (hD:∀ t,D t->t < vB) {d:Nat}{As:List (AV C.D)}:∀ {Γ:List (Spec C)},z8 D (xn Γ S d f As) (xn Γ T d f As)
 |[]=>trivial
 |s::Γ=>by
  unfold xn;cases (Nat.beq s.f f && (s.view || s.viewO)) with
  |false=>exact zhk h hD
  |true=>
   simp only [US];rw [zgq h.heap];refine zgr fun Bs =>.chk (zgs hD (zvl h hD As Bs) fun S1 T1 h1=>?_)
   have hl:=zpS h1 hD (ins:=s.ins) (N:=As.length);generalize Yy s.ins S1 As.length=a at hl;generalize Yy s.ins T1 As.length=b at hl
   match a,b,hl with
   |none,none,_=>trivial
   |some (S2,bl,x),some (T2,_,_),⟨h2,rfl,rfl⟩=>
    show z8 D (bif s.view then yN s d S x else yA s d S x) (bif s.view then yN s d T x else yA s d T x);cases s.view with
    |true=>exact zhj h
    |false=>exact zhi h
theorem zcA (h:EqX D S T) (hD:∀ t,D t->t < vB) {Γ0:List (Spec C)}{d:Nat}{As:List (AV C.D)}:∀ {Γ:List (Spec C)},z8 D (Yz Γ0 Γ S d f As) (Yz Γ0 Γ T d f As)
 |[]=>zhk h hD
 |s::Γ=>by
  unfold Yz;cases Nat.beq s.f f with
  |false=>exact zcA h hD
  |true=>
   simp only [US];have hl:=zrg h hD (ins:=s.ins) (As:=As);generalize YH s.ins S As=a at hl;generalize YH s.ins T As=b at hl
   match a,b,hl with
   |none,none,_=>exact zcA h hD
   |some (S2,bl,x),some (T2,_,_),⟨h2,rfl,rfl⟩=>
    show z8 D (bif s.view then yN s d S x else bif s.viewO then yA s d S x else xm s d S2 bl x) (bif s.view then yN s d T x else bif s.viewO then yA s d T x else xm s d T2 bl x);cases s.view with
    |true=>exact zhj h
    |false=>
     cases s.viewO with
     |true=>exact zhi h
     |false=>exact zpT h2
theorem zrh (h:EqX D S T) (hD:∀ t,D t->t < vB) {d:Nat}{As:List (AV C.D)}{Γ:List (Spec C)}:z8 D (vO Γ S d f As) (vO Γ T d f As):=zcA h hD
theorem zjD (h:EqX D S T) {ty:TypeId}{op:Op}(hf:WP D op.operands.toList):yR P S ty op=yR P T ty op:=zlB (h.ops hf) fun id _=>by rw [h.heap]
omit [Dfr] in
theorem z8.map {x:Uc (AV C.D)}{d:Nat}(h:EqX D S T):z8 D (x.map fun A =>.go (S.put d A)) (x.map fun A =>.go (T.put d A)):=by
 cases x with
 |none=>trivial
 |some A=>exact ⟨h.heap,(h.put d A (hp:=fun _=>Option.none)).env⟩
theorem zhl (h:EqX D S T) {x:Operand}(hx:S.op x=T.op x):z8 D (xW S x) (xW T x):=by
 unfold xW;rw [hx];split
 ·exact .chk ⟨rfl,h⟩
 ·trivial
theorem zmL (h:EqX D S T) {d:Nat}{ty t:TypeId}{x:Operand}(hx:S.op x=T.op x) (hf:WP D (Op.slice t x lo hi none).operands.toList):z8 D (Yo P S d ty t x lo hi) (Yo P T d ty t x lo hi):=by
 unfold Yo;rw [hx];split
 ·rename_i id e;have h1:=EqX.frz1 h id;rw [zjD h1 hf];exact .bind fun A=>⟨h1.heap,(h1.put d A (hp:=fun _=>none)).env⟩
 ·trivial
theorem zmM (h:EqX D S T) {q:Opts}{d:Nat}{ty t:TypeId}{x:Operand}{mx:Uc Operand}(hf:WP D (Op.slice t x lo hi mx).operands.toList):z8 D (wc q P S d ty t x lo hi mx) (wc q P T d ty t x lo hi mx):=by
 have hop:=h.ops hf;have hx:S.op x=T.op x:=hop x (by simp [Op.operands]);unfold wc;split
 ·exact zmL h hx hf
 ·trivial
theorem zwv {q:Opts}{Γ:List (Spec C)}{n:Nat}{o:Oper}(h:EqX D S T) (hD:∀ t,D t->t < vB) (hf:WP D o.op.operands.toList):z8 D (vP q Γ P n o S) (vP q Γ P n o T):=by
 obtain ⟨dst,op,ty,ps,af,g⟩:=o;have hop:=h.ops hf;simp only at hf hop;unfold vP;cases dst with
 |none=>
  simp only;split
  ·rename_i t x y;exact zpL h (fun t e=>hf t (by simp [Op.operands,e])) (fun t e=>hf t (by simp [Op.operands,e]))
  ·rename_i x;exact zhl h (hop x (by simp [Op.operands]))
  ·trivial
 |some d=>
  simp only;refine .chk ?_;have rd:∀ op',op'=op->z8 D ((yR P S ty op').map fun A =>.go (S.put d A)) ((yR P T ty op').map fun A =>.go (T.put d A)):=fun op' e=>by
   subst e;rw [zjD h hf];exact .map h
  unfold wd;split
  ·exact zpK h
  ·rename_i t x;rw [hop x (by simp [Op.operands])];refine .chk ?_;cases C.bz t with
   |true=>exact .bind fun q=>z8.map (x:=some (.pz _ q 0)) h
   |false=>exact zlC h
  ·rename_i t m parts;exact zmH h (by simpa [Op.operands] using hf)
  ·rename_i t x lo hi mx;rw [zjD h hf];split
   ·exact ⟨h.heap,(h.put d _ (hp:=fun _=>none)).env⟩
   ·exact zmM h hf
  ·rename_i t t' x;have hx:=hop x (by simp [Op.operands]);grind
  ·rename_i c args ts;have ha:args.toList.map S.op=args.toList.map T.op:=UU fun x hx=>hop x (by simp [Op.operands,Call.operands];grind)
   rw [hop c (by simp [Op.operands,Call.operands]),ha];split
   ·exact z8.chk (zrh h hD)
   ·trivial
  ·rename_i args ts;split
   ·rename_i x y t t' e1 e2;have ha:∀ z∈args.toList,S.op z=T.op z:=fun z hz=>hop z (by simp [Op.operands,Call.operands];simpa using hz)
    rw [e1] at ha;exact .chk (zfd h (ha x (by simp)) (ha y (by simp)))
   ·trivial
  ·rename_i x;exact zhl h (hop x (by simp [Op.operands]))
  grind
theorem zyO {q:Opts}{Γ:List (Spec C)}{n:Nat}{o:Oper}(h:EqX D S T) (hD:∀ t,D t->t < vB) (hf:WP D o.op.operands.toList):z8 D (stp q Γ P n o S) (stp q Γ P n o T):=by
 obtain ⟨h1,h2⟩:=zvj (P:=P) (dst:=o.dst) h hf;unfold stp;rw [h1];cases hk:Y1 P T o.dst o.op with
 |some k=>exact .chk (h2 k hk)
 |none=>exact zwv h hD hf
end
end
section
variable [Dfr]
def xo (id:Nat):Nat:=id+1099511627776
mutual
def AV.avoid {D:Nat->Type}(l:List Nat):AV D->Bool
 | .row id=> !zB id l
 | .pc id _=> !zB id l
 | .pr id _ _ _=> !zB id l
 | .nx id _ _ _=> !zB id l && !zB (xo id) l
 | .agg cs=>AV.avoids l cs
 | .tup cs=>AV.avoids l cs
 | .clo _ cs=>AV.avoids l cs
 | .ifc _ A=>AV.avoid l A
 |_=>true
def AV.avoids {D:Nat->Type}(l:List Nat):List (AV D)->Bool
 |[]=>true
 |A::As=>AV.avoid l A && AV.avoids l As
end
omit [Dfr] in
mutual
theorem zcB {D:Nat->Type}{R:AV D}(hm:zB id l=true):∀ {A:AV D},A.avoid l=true->AV.sub id R A=A
 | .row j,h=>by
  unfold AV.sub;cases e:Nat.beq j id with
  |true=>
   have:=jz e;subst this;simp only [AV.avoid,hm] at h;cases h
  |false=>rfl
 | .pc j o,h=>by
  unfold AV.sub;cases e:Nat.beq j id with
  |true=>
   have:=jz e;subst this;simp only [AV.avoid,hm] at h;cases h
  |false=>rfl
 | .pr j _ _ _,h=>by
  unfold AV.sub;cases e:Nat.beq j id with
  |true=>
   have:=jz e;subst this;simp only [AV.avoid,hm] at h;cases h
  |false=>rfl
 | .nx j _ _ _,h=>by
  unfold AV.sub;cases e:Nat.beq j id with
  |true=>
   have:=jz e;subst this;simp only [AV.avoid,hm] at h;cases h
  |false=>rfl
 | .agg cs,h=>by unfold AV.sub;rw [wI hm h]
 | .tup cs,h=>by unfold AV.sub;rw [wI hm h]
 | .clo f cs,h=>by unfold AV.sub;rw [wI hm h]
 | .ifc t A,h=>by unfold AV.sub;rw [zcB hm (A:=A) h]
 | .int _ _,_=>rfl
 | .bool _,_=>rfl
 | .str _,_=>rfl
 | .sl _ _ _,_=>rfl
 | .pz _ _ _,_=>rfl
 | .pnil,_=>rfl
 | .nils,_=>rfl
 | .nilf,_=>rfl
 | .nili,_=>rfl
 | .und,_=>rfl
theorem wI {D:Nat->Type}{R:AV D}(hm:zB id l=true):∀ {A:List (AV D)},AV.avoids l A=true->AV.subs id R A=A
 |[],_=>rfl
 |A::As,h=>by
  simp only [AV.avoids,g9] at h;unfold AV.subs;rw [zcB hm h.1,wI hm h.2]
end
omit [Dfr] in
mutual
theorem zbi {D:Nat->Type}(hp:∀ i,p i=true->zB i l=true):∀ {A:AV D},A.avoid l=true->AV.kill p A=A
 | .row j,h=>by
  unfold AV.kill;cases e:p j with
  |true=>simp only [AV.avoid,hp j e] at h;cases h
  |false=>rfl
 | .pc j o,h=>by
  unfold AV.kill;cases e:p j with
  |true=>simp only [AV.avoid,hp j e] at h;cases h
  |false=>rfl
 | .pr j _ _ _,h=>by
  unfold AV.kill;cases e:p j with
  |true=>simp only [AV.avoid,hp j e] at h;cases h
  |false=>rfl
 | .nx j _ _ _,h=>by
  unfold AV.kill;cases e:p j with
  |true=>simp only [AV.avoid,hp j e] at h;cases h
  |false=>rfl
 | .agg cs,h=>by unfold AV.kill;rw [XW hp h]
 | .tup cs,h=>by unfold AV.kill;rw [XW hp h]
 | .clo f cs,h=>by unfold AV.kill;rw [XW hp h]
 | .ifc t A,h=>by unfold AV.kill;rw [zbi hp (A:=A) h]
 | .int _ _,_=>rfl
 | .bool _,_=>rfl
 | .str _,_=>rfl
 | .sl _ _ _,_=>rfl
 | .pz _ _ _,_=>rfl
 | .pnil,_=>rfl
 | .nils,_=>rfl
 | .nilf,_=>rfl
 | .nili,_=>rfl
 | .und,_=>rfl
theorem XW {D:Nat->Type}(hp:∀ i,p i=true->zB i l=true):∀ {A:List (AV D)},AV.avoids l A=true->AV.kills p A=A
 |[],_=>rfl
 |A::As,h=>by
  simp only [AV.avoids,g9] at h;unfold AV.kills;rw [zbi hp h.1,XW hp h.2]
end
omit [Dfr] in
mutual
theorem VE {D:Nat->Type}(hp:∀ i,p i=true->zB (xo i) l=true):∀ {A:AV D},A.avoid l=true->AV.knx p A=A
 | .row j,h=>rfl
 | .pc j o,h=>rfl
 | .pr j _ _ _,h=>rfl
 | .nx j _ _ _,h=>by
  unfold AV.knx;cases e:p j with
  |true=>simp only [AV.avoid,hp j e,UJ,Bool.and_false] at h;cases h
  |false=>rfl
 | .agg cs,h=>by unfold AV.knx;rw [XC hp h]
 | .tup cs,h=>by unfold AV.knx;rw [XC hp h]
 | .clo f cs,h=>by unfold AV.knx;rw [XC hp h]
 | .ifc t A,h=>by unfold AV.knx;rw [VE hp (A:=A) h]
 | .int _ _,_=>rfl
 | .bool _,_=>rfl
 | .str _,_=>rfl
 | .sl _ _ _,_=>rfl
 | .pz _ _ _,_=>rfl
 | .pnil,_=>rfl
 | .nils,_=>rfl
 | .nilf,_=>rfl
 | .nili,_=>rfl
 | .und,_=>rfl
theorem XC {D:Nat->Type}(hp:∀ i,p i=true->zB (xo i) l=true):∀ {A:List (AV D)},AV.avoids l A=true->AV.knxs p A=A
 |[],_=>rfl
 |A::As,h=>by
  simp only [AV.avoids,g9] at h;unfold AV.knxs;rw [VE hp h.1,XC hp h.2]
end
section
variable {C:Cod}{S T:St C}{P:Program}
def Ent.avoid (l:List Nat):Ent C->Bool
 | .cell cs=>AV.avoids l cs
 | .row _ _=>true
 | .obj _ _ _ _=>true
 | .orow _ _ _=>true
def zjE (l:List Nat):Uc (Ent C)->Bool
 |some e=>e.avoid l
 |none=>true
structure Keeps (S T:St C) (d:Uc Nat) (l:List Nat) (p:Nat->Bool):Prop where
 env:∀ t,t < vB->d≠some t->(S.env t).avoid l=true->T.env t=S.env t
 heap:∀ id,p id=false->zjE l (S.heap id)=true->T.heap id=S.heap id
omit [Dfr] in
theorem Keeps.refl (S:St C) {d:Uc Nat}:Keeps S S d l p:=⟨fun _ _ _ _=>rfl,fun _ _ _=>rfl⟩
omit [Dfr] in
theorem Keeps.trans {U:St C}{d:Uc Nat}(h:Keeps S T d l p) (k:Keeps T U d l p):Keeps S U d l p:=
 ⟨fun t h1 h2 h3=>by have e:=h.env t h1 h2 h3;rw [k.env t h1 h2 (by grind),e],fun id h1 h2=>by have e:=h.heap id h1 h2;rw [k.heap id h1 (by grind),e]⟩
omit [Dfr] in
theorem Keeps.sub {R:AV C.D}{d:Uc Nat}(hm:zB id l=true) (hp:p id=true):Keeps S (S.sub id R) d l p:=by
 refine ⟨fun t _ _ h=>zcB hm h,fun j hj h=>?_⟩;show (bif Nat.beq j id then none else (S.heap j).map (Ent.sub id R))=S.heap j;cases e:Nat.beq j id with
 |true=>have:=jz e;grind
 |false=>
  simp only [Uh];cases hs:S.heap j with
  |none=>rfl
  |some en=>
   rw [hs] at h;cases en with
   |row T s=>rfl
   |obj q T b s=>rfl
   |orow T s g=>rfl
   |cell cs=>show some (Ent.cell (AV.subs id R cs))=_;rw [wI hm h]
theorem zbj (S:St C) (id:Nat):(∃ R,S.frz1 id=S.sub id R)\/S.frz1 id=S:=by
 unfold St.frz1;split
 ·grind
 all_goals grind
omit [Dfr] in
theorem Keeps.frz {d:Uc Nat}:∀ (r:List Nat) {S:St C},(∀ id∈r,zB id l=true/\p id=true)->Keeps S (S.frz r) d l p
 |[],S,_ =>.refl S
 |id::r,S,h=>by
  have h1:=h id (by simp);have k:Keeps S (S.frz1 id) d l p:=by
   rcases zbj S id with ⟨R,e⟩ | e
   ·rw [e];exact .sub h1.1 h1.2
   ·rw [e];exact .refl S
  exact k.trans (Keeps.frz r fun j hj=>h j (UW _ hj))
theorem Keeps.new {d:Nat}{A:AV C.D}{e:Uc (Ent C)}(hp:p id=true):Keeps S {env:=upd S.env d A,heap:=upd S.heap id e} (some d) l p:=
 ⟨fun t _ h2 _=>zt fun e=>h2 (by rw [e]),fun j hj _=>zt fun e=>by grind⟩
omit [Dfr] in
theorem Keeps.ent {e:Uc (Ent C)}{d:Uc Nat}(hp:p id=true):Keeps S {S with heap:=upd S.heap id e} d l p:=
 ⟨fun t _ _ _=>rfl,fun j hj _=>zt fun e=>by grind⟩
omit [Dfr] in
theorem Keeps.put {d:Nat}{A:AV C.D}:Keeps S (S.put d A) (some d) l p:=⟨fun t _ h2 _=>zt fun e=>h2 (by rw [e]),fun j _ _=>rfl⟩
omit [Dfr] in
theorem Keeps.virt {As:List (AV C.D)}{d:Uc Nat}:Keeps S (virt S As) d l p:=⟨fun t ht _ _=>by
 show (bif Nat.blt t vB then S.env t else _)=_
 rw [show Nat.blt t vB=true from by rw [U6];exact ht];rfl,fun j _ _=>rfl⟩
omit [Dfr] in
theorem Keeps.unvirt {d:Uc Nat}:Keeps S (unvirt S) d l p:=⟨fun t ht _ _=>by
 show (bif Nat.blt t vB then S.env t else _)=_
 rw [show Nat.blt t vB=true from by rw [U6];exact ht];rfl,fun j _ _=>rfl⟩
omit [Dfr] in
theorem Keeps.nilA1 {t q:Nat}{d:Uc Nat}(hp:∀ id,1048576<=id->p id=true) (ht:vB<=t):Keeps S (nilA1 es t s q S) d l p:=by
 unfold Px.nilA1;split
 ·split
  ·cases isNone (S.heap _) with
   |true=>
    refine ⟨fun t' ht' _ _=>zt fun e=>?_,fun j hj _=>zt fun e=>?_⟩
    all_goals grind
   |false=>exact .refl S
  ·exact .refl S
 ·exact .refl S
omit [Dfr] in
theorem Keeps.nilA {t:Nat}{d:Uc Nat}(hp:∀ id,1048576<=id->p id=true) (ht:vB<=t):∀ (sl:List Sh) (q:Nat) {S:St C},Keeps S (nilA es t sl q S) d l p
 |[],q,S =>.refl S
 |s::sl,q,S=>(Keeps.nilA1 hp ht).trans (Keeps.nilA hp ht sl _)
omit [Dfr] in
theorem Keeps.nilT {d:Uc Nat}(hp:∀ id,1048576<=id->p id=true):∀ (ts:List (Nat×Sh)) {S:St C},(∀ q∈ts,vB<=q.1)->Keeps S (nilT es ts S) d l p
 |[],S,_ =>.refl S
 |(t,s)::ts,S,hts=>by
  have hts':∀ q∈ts,vB<=q.1:=fun q hq=>hts q (UW _ hq)
  unfold Px.nilT;split
  ·split
   ·cases isNone (S.heap _) with
    |false=>exact Keeps.nilT hp ts hts'
    |true=>
     refine Keeps.trans ?_ (Keeps.nilT hp ts hts');refine ⟨fun t' ht' _ _=>zt fun e=>?_,fun j hj _=>zt fun e=>?_⟩
     ·have:=hts _ (List.mem_cons_self ..);grind
     grind
   ·exact Keeps.nilT hp ts hts'
  ·exact (Keeps.nilA hp (hts _ (List.mem_cons_self ..)) _ 0).trans (Keeps.nilT hp ts hts')
  ·exact Keeps.nilT hp ts hts'
omit [Dfr] in
theorem Keeps.nil1 {q:Nat}{d:Uc Nat}(hp:∀ id,1048576<=id->p id=true) (hid:p id=true):Keeps S (nil1 es id s q S) d l p:=by
 unfold Px.nil1;split
 ·split
  ·cases isNone (S.heap _) with
   |true=>
    refine ⟨fun _ _ _ _=>rfl,fun j hj _=>?_⟩;show upd (upd S.heap _ _) id _ j=S.heap j;have e1:j≠id:=fun e=>by grind
    rw [zt e1];exact zt fun e=>by grind
   |false=>exact .refl S
  ·exact .refl S
 ·exact .refl S
omit [Dfr] in
theorem Keeps.nilC {d:Uc Nat}(hp:∀ id,1048576<=id->p id=true) (hid:p id=true):∀ (sl:List Sh) (q:Nat) {S:St C},Keeps S (nilC es id sl q S) d l p
 |[],q,S =>.refl S
 |s::sl,q,S=>(Keeps.nil1 hp hid).trans (Keeps.nilC hp hid sl _)
omit [Dfr] in
theorem Keeps.nilE {all:List ESh}{d:Uc Nat}(hp:∀ id,1048576<=id->p id=true) (hb:∀ id,ya id bl=true->p id=true):∀ (es:List ESh) (k:Nat) {S:St C},Keeps S (nilE all bl es k S) d l p
 |[],k,S =>.refl S
 |e::es,k,S=>by
  refine Keeps.trans ?_ (Keeps.nilE hp hb es _);unfold zft;split
  ·rename_i id e';exact Keeps.nilC hp (hb id (xZ e')) _ 0
  ·exact .refl S
def ztv (g:Sig) (m:Nat) (S:St C):Bl:=Zx g m (nilT g.es g.ts (S.frz (fzT S g.ts)))
def zff (g:Sig) (m:Nat) (S:St C):List Nat:=
 let S1:=nilT g.es g.ts (S.frz (fzT S g.ts))
 let S2:=nilE g.es (Zx g m S1) g.es 0 S1
 fzT S g.ts++fzE S2 (Zx g m S2) g.es 0
omit [Dfr] in
theorem Keeps.prep {g:Sig}{d:Uc Nat}(hp:∀ id,1048576<=id->p id=true) (hts:∀ q∈g.ts,vB<=q.1) (hb:∀ id,ya id (ztv g m S)=true->p id=true) (hf:∀ id∈zff g m S,zB id l=true/\p id=true):Keeps S (g.prep m S) d l p:=by
 unfold Sig.prep;simp only;refine (Keeps.frz _ fun id hid=>hf id (by unfold zff;grind)).trans ((Keeps.nilT hp g.ts hts).trans ((Keeps.nilE hp hb g.es 0).trans (Keeps.frz _ fun id hid=>hf id (by unfold zff;grind))))
theorem zaC (d k:Nat) (hk:k < 64):nid d k / 64=d+1:=by unfold nid;omega
theorem Keeps.merge {Sr:St C}{d:Nat}(hg:∀ id∈Yu es bl,zB id l=true/\p id=true) (hb:∀ id,ya id bl=true->p id=true) (hn:∀ k,k < 64->p (nid d k)=true) (hes:es.length<=64) (hx:∀ id,ya id bl=true->zB (xo id) l=true):Keeps S (Zw S Sr d bl es) (some d) l p:=by
 have hg':∀ i,zB i (Yu es bl)=true->zB i l=true:=fun i hi=>(hg i (zR.1 hi)).1
 refine ⟨fun t _ _ h=>by show AV.kill _ (AV.knx _ (S.env t))=_;rw [VE (fun id hid=>hx id (by grind)) h,zbi hg' h],fun j hj h=>?_⟩;have e1:(Zw S Sr d bl es).heap j=bif zB j (Yu es bl) then none else (S.heap j).map fun e=>Ent.kill (fun i=>zB i (Yu es bl)) (Ent.knx (fun i=>ya i bl && !zB i (kpL Sr bl 0)) e):=by
  refine W0 fun k e he hge=>?_
  rw [U5];intro e';unfold xl at e';split at e'
  ·rename_i id hid;subst e';rw [hb _ (xZ hid)] at hj;cases hj
  grind
 rw [e1];cases hm:zB j (Yu es bl) with
 |true=>rw [(hg j (zR.1 hm)).2] at hj;cases hj
 |false=>
  simp only [Uh];cases hs:S.heap j with
  |none=>rfl
  |some en=>
   rw [hs] at h;cases en with
   |row T s=>rfl
   |obj q T b s=>rfl
   |orow T s g=>rfl
   |cell cs=>show some (Ent.cell (AV.kills _ (AV.knxs _ cs)))=_;rw [XC (fun id hid=>hx id (by grind)) h,XW hg' h]
abbrev Tch:=List Nat×(Nat->Bool)
def zfg (d:Nat):Uc Tch:=some ([],fun i=>Nat.beq (i / 64) (d+1))
def zbk:Bl->List Nat
 |[]=>[]
 |some id::r=>xo id::zbk r
 |none::r=>zbk r
theorem zex:∀ {bl:Bl},ya id bl=true->xo id∈zbk bl
 |some a::r,h=>by
  simp only [ya,Uv] at h;rcases h with h | h
  ·rw [jz h];simp [zbk]
  ·exact UW _ (zex h)
 |none::r,h=>zex (bl:=r) h
 |[],h=>by cases h
def zpU (id:Nat) (l:List Nat):Uc Tch:=some (l,fun i=>Nat.beq i id || zB i l)
def vx (Γ:List (Spec C)) (S:St C) (d f:Nat) (As:List (AV C.D)):Uc Tch:=match Γ with
 |[]=>some ([],fun i=>Nat.beq (i / 64) (d+1))
 |s::Γ=>bif Nat.beq s.f f then (match YH s.ins S As with
  |some (S2,bl,x)=>bif s.view then some ([],fun _=>false) else bif s.viewO then chk (s.outs.all fun o=>Nat.ble o.2.es.length 64) (some ([],fun i=>Nat.beq (i / 64) (d+1))) else go s bl (ztv s.ins.shift 0 (virt S As)) (zff s.ins.shift 0 (virt S As)++((s.outs.flatMap fun o=>Yu o.2.es bl)++zbk bl))
  |none=>vx Γ S d f As) else vx Γ S d f As
where
 go (s:Spec C) (bl b1:Bl) (l:List Nat):Uc Tch:=chk (s.outs.all fun o=>Nat.ble o.2.es.length 64) (some (l,fun i=>zB i l || (ya i bl || (Nat.beq (i / 64) (d+1) || (Nat.ble 1048576 i || ya i b1)))))
def zri (Γ:List (Spec C)) (P:Program) (o:Oper) (S:St C):Uc Tch:=match o.dst with
 |none=>match o.op with
  | .store t x y=>(match S.op x with
   | .pc id _=>zpU id []
   | .pr id _ _ _=>zpU id (AV.rows (S.op y))
   |_=>none)
  |_=>some ([],fun _=>false)
 |some d=>match o.op with
  | .alloc _=>zfg d
  | .box _ _=>zfg d
  | .makeSlice _ _ _=>zfg d
  | .buildSlice _ _ parts=>go d (AV.rowss (parts.toList.map fun q=>S.op q.2))
  | .call ⟨.value c,args,_⟩=>(match S.op c with
   | .clo f caps=>vx Γ S d f (xX (args.toList.map S.op) caps)
   |_=>none)
  | .call ⟨.builtin .append,args,_⟩=>(match args.toList with
   |[x,y]=>(match S.op x with
    | .row id=>go d [id]
    | .nils=>zfg d
    |_=>none)
   |_=>none)
  | .slice _ x _ _ _=>go d (S.op x).hid
  | .panic _=>some ([],fun _=>false)
  |_=>some ([],fun _=>false)
where
 go (d:Nat) (l:List Nat):Uc Tch:=some (l,fun i=>zB i l || Nat.beq (i / 64) (d+1))
theorem Z0 (h:id∈l):zB id l=true:=zR.2 h
theorem zaj (d:Nat):Nat.beq (nid d 0 / 64) (d+1)=true:=by rw [zaC d 0 (by omega)];simp
theorem VF:∀ {outs:List (XK×Sig)}{r:zh C outs},∃ o∈outs,yh outs r=o.2.es
 |[],r=>r.elim
 |[o],r=>⟨o,by simp,rfl⟩
 |o::o2::l,r=>by
  cases r with
  |inl a=>exact ⟨o,by simp,rfl⟩
  |inr y=>
   obtain ⟨o',h1,h2⟩:=VF (outs:=o2::l) (r:=y);exact ⟨o',UW _ h1,h2⟩
theorem Xo {K:XE C->St C->Uc α}{z:α}{outs:List (XK×Sig)}{r:zh C outs}(h:zT outs r K=some z):∃ e S,K e S=some z:=by
 have hq:zT outs r (fun _ _=>True):=by
  clear h;revert r
  induction outs with
  |nil=>intro r;exact r.elim
  |cons o l ih=>
   have one:∀ y:XK.ty C o.1 o.2,yZ o.1 o.2 y (fun _ _=>True):=fun y=>by
    obtain ⟨k,g⟩:=o;cases k <;> trivial
   cases l with
   |nil=>intro r;exact one r
   |cons o2 l=>
    intro r;cases r with
    |inl a=>exact one a
    |inr y=>exact ih (r:=y)
 obtain ⟨e,S,h1,_⟩:=Xl h hq;grind
theorem zhL {s:Spec C}(hvo:s.viewO=true) {d:Nat}{x:s.ins.ty C}{S':St C}(h:yA s d S x=some (.go S')):Keeps S S' (some d) [] fun i=>Nat.beq (i / 64) (d+1):=by
 simp only [Spec.viewO,g9] at hvo;unfold yA at h;obtain ⟨r,_,h⟩:=jy h;obtain ⟨e,Sr,h⟩:=Xo h;obtain ⟨_,h⟩:=zc h;unfold wF at h;obtain ⟨_,h⟩:=zc h;cases e with
 |normal=>cases h
 |exit i=>cases h
 |pan A=>cases h
 |ret=>
  cases h;obtain ⟨o,ho,he⟩:=VF (outs:=s.outs) (r:=r);have hg:Yu (yh s.outs r) []=[]:=by cases yh s.outs r <;> rfl
  have hc:=UR.1 hvo.2 o ho;simp only [g9] at hc;refine Keeps.trans (.merge (fun id hid=>?_) (fun id hid=>?_) (fun k hk=>?_) ?_ (fun id hid=>?_)) (Keeps.trans .unvirt .put)
  ·grind
  ·cases hid
  ·simp only [zaC d k hk,Nat.beq_refl]
  ·rw [he];exact UC hc.2
  ·cases hid
theorem zhM {s:Spec C}{d:Nat}{x:s.ins.ty C}{S':St C}(h:yN s d S x=some (.go S')):Keeps S S' (some d) l p:=by
 obtain ⟨_,h⟩:=zc h;obtain ⟨r,_,h⟩:=jy h;obtain ⟨e,Sr,h⟩:=Xo h;unfold zaA at h;cases e with
 |normal=>cases h
 |exit i=>cases h
 |pan A=>obtain ⟨_,h⟩:=zc h;cases h
 |ret=>obtain ⟨_,h⟩:=zc h;cases h;exact .put
theorem zb8 {d:Nat}{As:List (AV C.D)}{S':St C}:∀ {Γ:List (Spec C)},xn Γ S d f As=some (.go S')->Keeps S S' (some d) [] fun i=>Nat.beq (i / 64) (d+1)
 |[],h=>by cases h
 |s::Γ,h=>by
  unfold xn at h;cases hf:(Nat.beq s.f f && (s.view || s.viewO)) with
  |false=>rw [hf] at h;exact zb8 h
  |true=>
   rw [hf,US] at h;obtain ⟨Bs,h,_⟩:=zba h;obtain ⟨_,h⟩:=zc h;obtain ⟨T,h,_⟩:=vb h;split at h
   ·rename_i S2 bl x hl;cases hv:s.view with
    |true=>rw [hv] at h;exact zhM h
    |false=>
     rw [hv] at h;simp only [g9,Uv,hv] at hf;exact zhL (by grind) h
   ·cases h
theorem zak {Γ0:List (Spec C)}{d:Nat}{As:List (AV C.D)}{S':St C}:∀ {Γ:List (Spec C)},Yz Γ0 Γ S d f As=some (.go S')->vx Γ S d f As=some (l,p)->Keeps S S' (some d) l p
 |[],h,ht=>by cases ht;exact zb8 h
 |s::Γ,h,ht=>by
  unfold Yz at h;unfold vx at ht;cases hf:Nat.beq s.f f with
  |false=>rw [hf] at h ht;exact zak h ht
  |true=>
   rw [hf] at h ht;simp only [US] at h ht;split at h
   ·rename_i S2 bl x hl;rw [hl] at ht;simp only at ht;cases hv:s.view with
    |true=>
     rw [hv] at h ht;cases ht;simp only [US] at h;obtain ⟨_,h⟩:=zc h;obtain ⟨r,_,h⟩:=jy h;obtain ⟨e,Sr,h⟩:=Xo h;unfold zaA at h;cases e with
     |normal=>cases h
     |exit i=>cases h
     |pan A=>obtain ⟨_,h⟩:=zc h;cases h
     |ret=>obtain ⟨_,h⟩:=zc h;cases h;exact .put
    |false=>
    rw [hv] at h ht;rw [Uh] at h ht;cases hv2:s.viewO with
    |true=>
     rw [hv2] at h ht;rw [US] at h ht;obtain ⟨hc,ht⟩:=zc ht;cases ht;unfold yA at h;obtain ⟨r,_,h⟩:=jy h;obtain ⟨e,Sr,h⟩:=Xo h;obtain ⟨_,h⟩:=zc h;unfold wF at h;obtain ⟨_,h⟩:=zc h;cases e with
     |normal=>cases h
     |exit i=>cases h
     |pan A=>cases h
     |ret=>
      cases h;obtain ⟨o,ho,he⟩:=VF (outs:=s.outs) (r:=r);have hg:Yu (yh s.outs r) []=[]:=by cases yh s.outs r <;> rfl
      refine Keeps.trans (.merge (fun id hid=>?_) (fun id hid=>?_) (fun k hk=>?_) ?_ (fun id hid=>?_)) (Keeps.trans .unvirt .put)
      ·grind
      ·cases hid
      ·simp only [zaC d k hk,Nat.beq_refl]
      ·rw [he];exact UC (UR.1 hc o ho)
      ·cases hid
    |false=>
    rw [hv2] at h ht;simp only [Uh] at h ht;obtain ⟨hc,ht⟩:=zc ht;cases ht;unfold YH at hl;obtain ⟨_,hl⟩:=zc hl;obtain ⟨x',hx,he⟩:=Db.1 hl;cases he;unfold xm at h;obtain ⟨r,_,h⟩:=jy h;obtain ⟨_,h⟩:=zc h;obtain ⟨e,Sr,h⟩:=Xo h;unfold wF at h;obtain ⟨_,h⟩:=zc h;cases e with
    |normal=>cases h
    |exit i=>cases h
    |pan A=>cases h
    |ret=>
     cases h;obtain ⟨o,ho,he⟩:=VF (outs:=s.outs) (r:=r);refine Keeps.trans .virt (Keeps.trans (.prep (g:=s.ins.shift) (m:=0) (fun id h=>?_) (fun q hq=>?_) (fun id hid=>?_) (fun id hid=>?_)) (Keeps.trans (.merge (fun id hid=>?_) (fun id hid=>?_) (fun k hk=>?_) ?_ (fun id hid=>?_)) (Keeps.trans .unvirt .put)))
     ·simp [Nat.ble_eq,h]
     ·obtain ⟨p,hp,rfl⟩:=UX.1 hq;grind
     ·grind
     ·have:=Z0 (Dd ((s.outs.flatMap fun o=>Yu o.2.es (Zx s.ins.shift 0 (s.ins.shift.prep 0 (virt S As))))++zbk (Zx s.ins.shift 0 (s.ins.shift.prep 0 (virt S As)))) hid);grind
     ·have:id∈zff s.ins.shift 0 (virt S As)++((s.outs.flatMap fun o=>Yu o.2.es (Zx s.ins.shift 0 (s.ins.shift.prep 0 (virt S As))))++zbk (Zx s.ins.shift 0 (s.ins.shift.prep 0 (virt S As)))):=List.mem_append_right _ (Dd _ (List.mem_flatMap.2 ⟨o,ho,by grind⟩));have:=Z0 this;grind
     ·grind
     ·simp only [zaC d k hk,Nat.beq_refl,Bool.true_or,Bool.or_true]
     ·rw [he];exact UC (UR.1 hc o ho)
     ·exact Z0 (List.mem_append_right _ (List.mem_append_right _ (zex hid)))
   ·rename_i hl;rw [hl] at ht;exact zak h ht
theorem zmN {d:Nat}{As:List (AV C.D)}{S':St C}{Γ:List (Spec C)}(h:vO Γ S d f As=some (.go S')) (ht:vx Γ S d f As=some (l,p)):Keeps S S' (some d) l p:=zak h ht
theorem zd7 {d:Nat}{cs:List (AV C.D)}{S':St C}(h:za3 S d cs=some (.go S')) (hp:p (nid d 0)=true):Keeps S S' (some d) l p:=by
 obtain ⟨_,h⟩:=zc h;cases h;exact .new hp
theorem zgt {d:Nat}{ty t:TypeId}{x:Operand}{S':St C}(h:Yo P S d ty t x lo hi=some (.go S')):Keeps S S' (some d) (S.op x).hid fun i=>zB i (S.op x).hid || Nat.beq (i / 64) (d+1):=by
 unfold Yo at h;split at h
 ·rename_i id ex;obtain ⟨A,_,h⟩:=jy h;cases h;rw [ex];have hid:zB id (AV.hid (.row (D:=C.D) id))=true:=Z0 (by simp [AV.hid])
  have:=Keeps.frz (d:=some d) (l:=AV.hid (.row (D:=C.D) id)) (p:=fun i=>zB i (AV.hid (.row (D:=C.D) id)) || Nat.beq (i / 64) (d+1)) [id] (S:=S) (fun j hj=>by
   grind)
  exact Keeps.trans this .put
 ·cases h
theorem zvm {q:Opts}{Γ:List (Spec C)}{n:Nat}{o:Oper}{S':St C}(h:vP q Γ P n o S=some (.go S')) (ht:zri Γ P o S=some (l,p)):Keeps S S' o.dst l p:=by
 obtain ⟨dst,op,ty,ps,af,g⟩:=o;unfold vP at h;unfold zri at ht;cases dst with
 |none=>
  simp only at h ht |-
  split at h
  ·rename_i t x y;simp only at ht;unfold yt at h;split at h
   ·rename_i ti id off hi ex;rw [ex] at ht;cases ht;split at h
    ·obtain ⟨_,h⟩:=zc h;cases h;exact .ent (by simp)
    ·cases h
   ·rename_i ti id T i off hi ex;rw [ex] at ht;cases ht;refine Keeps.trans (.frz (AV.rows (S.op y)) fun j hj=>⟨Z0 hj,by rw [Z0 hj];simp⟩) ?_;have hx:(S.frz (AV.rows (S.op y))).op x = .pr id T i off\/¬ (S.frz (AV.rows (S.op y))).op x = .pr id T i off:=Classical.em _;have key:∀ (S1:St C),(∀ id' T' i' off',S1.op x = .pr id' T' i' off'->id'=id)->yt.go x y ti S1=some (.go S')->Keeps S1 S' none (AV.rows (S.op y)) fun i=>Nat.beq i id || zB i (AV.rows (S.op y)):=by
     intro S1 hk h;unfold yt.go at h;split at h
     ·rename_i id' T' i' off' ex';have:=hk _ _ _ _ ex';subst this;split at h
      ·obtain ⟨_,h⟩:=zc h;obtain ⟨q,_,h⟩:=jy h;obtain ⟨q',_,h⟩:=jy h;cases h;exact .ent (by simp)
      ·cases h
     ·cases h
    refine key _ ?_ h;intro id' T' i' off' e';cases x with
    |const v=>exact absurd ex (by cases v <;> (try (intro h;cases h;done)) <;> (simp only [St.op,zaX,yg];grind))
    |global g=>cases ex
    |func f=>cases ex
    |tmp tt=>
     have e1:S.env tt = .pr id T i off:=ex;have e2:(S.frz (AV.rows (S.op y))).env tt = .pr id' T' i' off':=e';have frzpr:∀ (r:List Nat) (S1:St C),(∀ a b c d,S1.env tt = .pr a b c d->a=id)->(∀ R,S1.env tt=R->(∃ a b c d,R = .pr a b c d)\/R = .und)->(∀ a b c d,(S1.frz r).env tt = .pr a b c d->a=id):=by
      intro r
      induction r with
      |nil=>intro S1 h1 _;exact h1
      |cons j r ih=>
       intro S1 h1 h2;refine ih (S1.frz1 j) ?_ ?_
       ·intro a b c d e;rcases zbj S1 j with ⟨R0,e0⟩ | e0
        ·rw [e0] at e;have e:AV.sub j R0 (S1.env tt)=_:=e;rcases h2 _ rfl with ⟨a',b',c',d',h⟩ | h
         ·rw [h] at e;unfold AV.sub at e;cases hb:Nat.beq a' j with
          |true=>grind
          |false=>grind
         ·rw [h] at e;cases e
        grind
       ·intro R e;rcases zbj S1 j with ⟨R0,e0⟩ | e0
        ·rw [e0] at e;have e:AV.sub j R0 (S1.env tt)=_:=e;rcases h2 _ rfl with ⟨a',b',c',d',h⟩ | h
         ·rw [h] at e;unfold AV.sub at e;cases hb:Nat.beq a' j with
          |true=>grind
          |false=>grind
         ·rw [h] at e;exact .inr e.symm
        grind
     grind
   ·cases h
  ·rename_i x;unfold xW at h;split at h
   ·obtain ⟨_,h⟩:=zc h;cases h
   ·cases h
  ·cases h
 |some d=>
  simp only at h ht |-
  obtain ⟨_,h⟩:=zc h;unfold wd at h;have pan:∀ x,xW S x=some (.go S')->False:=fun x h=>by
   unfold xW at h;split at h
   ·obtain ⟨_,h⟩:=zc h;cases h
   ·cases h
  split at h
  ·cases ht;unfold xV at h;split at h
   ·split at h
    ·split at h
     ·obtain ⟨_,h⟩:=zc h;cases h;exact .new (zaj d)
     ·exact zd7 h (zaj d)
    ·cases h
   ·cases h
  ·cases ht;obtain ⟨_,h⟩:=zc h;rw [Bool.cond_eq_ite] at h;split at h
   ·obtain ⟨q,_,h⟩:=jy h;cases h;exact .put
   ·exact zd7 h (zaj d)
  ·rename_i t m parts;cases ht;unfold YV at h;refine Keeps.trans (.frz _ fun j hj=>⟨Z0 hj,by simp only [Z0 hj,Bool.true_or]⟩) ?_;generalize S.frz _=S1 at h |-
   unfold YV.go at h;split at h
   ·split at h
    ·split at h
     ·obtain ⟨_,h⟩:=zc h;obtain ⟨q,_,h⟩:=jy h;cases h;exact .new (by simp only [zaj,Bool.or_true])
     ·cases h
    ·cases h
   ·cases h
  ·rename_i t x lo hi mx;cases ht;split at h
   ·cases h;exact .put
   ·unfold wc at h;split at h
    ·exact zgt h
    ·cases h
  ·cases ht;split at h
   ·cases h;exact .put
   ·cases h
  ·rename_i c args ts _;simp only at ht;split at h
   ·rename_i f caps ec;rw [ec] at ht;exact zmN (zc h).2 ht
   ·cases h
  ·rename_i args ts _;simp only at ht;split at h
   ·rename_i x y t t' e1 e2;rw [e1] at ht;simp only at ht;obtain ⟨_,h⟩:=zc h;unfold yS at h;split at h
    ·split at h
     ·split at h
      ·obtain ⟨_,h⟩:=zc h;split at h
       ·rename_i id ex;rw [ex] at ht;cases ht;have hid:zB id [id]=true:=Z0 (by simp);split at h
        ·obtain ⟨_,h⟩:=zc h;obtain ⟨q,_,h⟩:=jy h;obtain ⟨q',_,h⟩:=jy h;cases h;exact Keeps.trans (.sub hid (by grind)) (.new (by simp only [zaj,Bool.or_true]))
        ·cases h
       ·rename_i ex;rw [ex] at ht;cases ht;obtain ⟨q,_,h⟩:=jy h;obtain ⟨q',_,h⟩:=jy h;cases h;exact .new (zaj d)
       ·cases h
      ·cases h
     ·cases h
    ·cases h
   ·cases h
  ·grind
  ·obtain ⟨A,_,h⟩:=Db.1 h;cases h;exact .put
omit [Dfr] in
theorem Keeps.owk {e:Ent C}{d:Uc Nat}(hm:zB (xo id) l=true) (hp:p id=true):Keeps S (S.owk id e) d l p:=by
 have hx:∀ i,Nat.beq i id=true->zB (xo i) l=true:=fun i hi=>by rw [jz hi];exact hm
 refine ⟨fun t _ _ h=>VE hx h,fun j hj h=>?_⟩;show (bif Nat.beq j id then some e else (S.heap j).map (Ent.knx _))=S.heap j;cases e1:Nat.beq j id with
 |true=>have:=jz e1;grind
 |false=>
  simp only [Uh];cases hs:S.heap j with
  |none=>rfl
  |some en=>
   rw [hs] at h;cases en with
   |row T s=>rfl
   |obj q T b s=>rfl
   |orow T s g=>rfl
   |cell cs=>show some (Ent.cell (AV.knxs _ cs))=_;rw [XC hx h]
def zww:KN->Uc Nat
 | .st _ _ _=>none
 | .apn d _ _ _ _=>some d
 | .apo d _ _ _ _=>some d
 | .bl d _ _ _ _=>some d
theorem zpV {op:Op}{k:KN}(h:Y1 P S dst op=some k):zww k=dst:=by
 unfold Y1 at h;split at h
 ·cases hc:zeF S _ _ with
  |true=>rw [hc] at h;cases h;rfl
  |false=>grind
 ·split at h
  ·rename_i x y _ _ _ _;cases hc:zeE S x with
   |true=>rw [hc] at h;cases h;rfl
   |false=>
    rw [hc,Uh] at h;cases hc2:isO S y with
    |true=>rw [hc2] at h;cases h;rfl
    |false=>grind
  ·cases h
 ·split at h
  ·cases hc:(C.own (wr P _) && zcM (zu (S.op _)) (C.nst (wr P _))) with
   |true=>rw [hc] at h;cases h;rfl
   |false=>grind
  ·cases h
 ·cases h
def zgu (S:St C):KN->Uc Tch
 | .st _ x y=>(match S.op x with
  | .pr id T _ off=>some (bif xT off (zu (S.op y)).length (C.nst T) then xo id::AV.rowss (zu (S.op y)) else [],fun i=>Nat.beq i id || zB i (AV.rowss (zu (S.op y))))
  | .nx id _ _ _=>some ([],fun i=>Nat.beq i id)
  |_=>none)
 | .apn d _ _ x _=>(match S.op x with
  | .nx id _ _ _=>some ([xo id,nid d 1],fun i=>Nat.beq i id || Nat.beq (i / 64) (d+1))
  |_=>none)
 | .apo d _ _ x y=>(match S.op x,S.op y with
  | .row id,.row id2=>some ([id,id2],fun i=>zB i [id,id2] || Nat.beq (i / 64) (d+1))
  | .nils,.row id2=>some ([id2],fun i=>zB i [id2] || Nat.beq (i / 64) (d+1))
  |_,_=>none)
 | .bl d _ _ _ y=>some (AV.rowss (zu (S.op y)),fun i=>zB i (AV.rowss (zu (S.op y))) || Nat.beq (i / 64) (d+1))
theorem zgv {D:Nat->Type}:∀ {cs:List (AV D)}{k:Nat},cs[k]?=some (.row id)->id∈AV.rowss cs
 |A::cs,0,h=>by
  simp at h;subst h;simp [AV.rowss,AV.rows]
 |A::cs,k+1,h=>by
  have:=zgv (cs:=cs) (k:=k) (by simpa using h);simp only [AV.rowss,Ue];grind
 |[],k,h=>by simp at h
theorem zd8 {s:Sl (C.D T0)}{g:Own}{i:Int}{cells:List (AV C.D)}{S':St C}(h:X4 S id T0 s g i off cells some=some (.go S')) (hx:zB (xo id) l=true) (hp:p id=true) (hr:∀ id2,id2∈AV.rowss cells->zB id2 l=true/\p id2=true) {d:Uc Nat}:Keeps S S' d l p:=by
 unfold X4 at h;simp only [WG] at h;split at h
 ·rename_i id2 hc;split at h
  ·obtain ⟨_,h⟩:=zc h;obtain ⟨q,_,h⟩:=jy h;obtain ⟨g',_,h⟩:=jy h;obtain ⟨q',_,h⟩:=jy h;cases h;obtain ⟨r1,r2⟩:=hr id2 (zgv hc);exact Keeps.trans (.sub r1 r2) (.owk hx hp)
  ·cases h
 ·obtain ⟨q,_,h⟩:=jy h;split at h
  ·obtain ⟨g',_,h⟩:=jy h;obtain ⟨q',_,h⟩:=jy h;cases h;exact .owk hx hp
  ·cases h
 ·cases h
theorem zcC {gid d:Nat}{t:TypeId}{x y:Operand}{S':St C}(h:yS P S d t x y=some (.go S')) (hx:S.op x = .row gid) (hm:zB gid l=true) (hp:p gid=true) (hd:p (nid d 0)=true):Keeps S S' (some d) l p:=by
 unfold yS at h;split at h
 ·split at h
  ·split at h
   ·obtain ⟨_,h⟩:=zc h;rw [hx] at h;simp only at h;split at h
    ·obtain ⟨_,h⟩:=zc h;obtain ⟨_,_,h⟩:=jy h;obtain ⟨_,_,h⟩:=jy h;cases h;exact Keeps.trans (.sub hm hp) (.new hd)
    ·cases h
   ·cases h
  ·cases h
 ·cases h
theorem zwx (d:Nat):Nat.beq (nid d 1 / 64) (d+1)=true:=by rw [zaC d 1 (by omega)];simp
theorem zmO {k:KN}{S':St C}(h:vZ P S k=some (.go S')) (ht:zgu S k=some (l,p)):Keeps S S' (zww k) l p:=by
 cases k with
 |st t x y=>
  simp only [vZ] at h;simp only [zgu] at ht;unfold xF Xp at h;split at h
  ·rename_i ti id T i off hi ex;rw [ex] at ht;cases ht;split at h
   ·rename_i T' s g hs;obtain ⟨hc,h⟩:=zc h;simp only [g9] at hc;obtain rfl:=jz hc.1;cases hin:xT off (zu (S.op y)).length (C.nst T) with
    |true=>
     rw [hin] at h;simp only [US] at h |-
     exact zd8 h (by simp [zB]) (by simp) fun id2 h2=>⟨by simp [zB,Z0 h2],by simp [Z0 h2]⟩
    |false=>
     rw [hin] at h;simp only [Uh] at h |-
     obtain ⟨q,_,h⟩:=jy h;obtain ⟨q',_,h⟩:=jy h;cases h;exact .ent (by simp)
   ·rename_i T' s hs;obtain ⟨hc,h⟩:=zc h;simp only [g9] at hc;obtain rfl:=jz hc.1;rw [hc.2.2];simp only [US];exact zd8 h (by simp [zB]) (by simp) fun id2 h2=>⟨by simp [zB,Z0 h2],by simp [Z0 h2]⟩
   ·cases h
  ·rename_i ti id T i U k off hi ex;rw [ex] at ht;cases ht;split at h
   ·obtain ⟨_,h⟩:=zc h;obtain ⟨q,_,h⟩:=jy h;split at h
    ·obtain ⟨_,h⟩:=zc h;obtain ⟨_,_,h⟩:=jy h;obtain ⟨_,_,h⟩:=jy h;obtain ⟨_,_,h⟩:=jy h;cases h;exact .ent (by simp)
    ·cases h
   ·cases h
  ·cases h
 |apn d t t' x y=>
  simp only [vZ] at h;simp only [zgu] at ht;have h:=(zc h).2;unfold wM at h;cases x with
  |const v=>cases h
  |global g=>cases h
  |func f=>cases h
  |tmp tx=>
   simp only at h;split at h
   ·rename_i id T i ex;have ht:(match S.env tx with | .nx id _ _ _=>some ([xo id,nid d 1],fun i=>Nat.beq i id || Nat.beq (i / 64) (d+1)) | _=>none)=some (l,p):=ht;rw [ex] at ht;cases ht;unfold wL at h;split at h
    ·obtain ⟨hc,h⟩:=zc h;simp only [g9] at hc;obtain ⟨_,_,h⟩:=jy h;split at h
     ·have k2:=zcC (gid:=nid d 1) (l:=[xo id,nid d 1]) (p:=fun i=>Nat.beq i id || Nat.beq (i / 64) (d+1)) h (by show upd S.env tx _ tx=_;rw [zr]) (by simp [zB]) (by simp [zwx]) (by simp [zaj]);refine Keeps.trans ⟨fun t ht hd ha=>?_,fun j hj _=>?_⟩ k2
      ·show upd S.env tx _ t=S.env t;by_cases e:t=tx
       ·subst e;rw [ex] at ha;simp [AV.avoid,zB] at ha
       ·rw [zt e]
      ·show upd (upd S.heap id _) (nid d 1) _ j=S.heap j;rw [zt fun e=>by subst e;simp [zwx] at hj,zt fun e=>by subst e;simp at hj]
     ·cases h
    ·cases h
   ·cases h
 |apo d t t' x y=>
  simp only [vZ] at h;simp only [zgu] at ht;obtain ⟨_,h⟩:=zc h;unfold wN Wn at h;split at h
  ·split at h
   ·split at h
    ·obtain ⟨_,h⟩:=zc h;split at h
     ·rename_i id2 ey;rw [ey] at ht;split at h
      ·split at h
       ·rename_i id ex;rw [ex] at ht;cases ht;split at h
        ·obtain ⟨_,h⟩:=zc h;obtain ⟨_,_,h⟩:=jy h;obtain ⟨_,_,h⟩:=jy h;cases h;exact Keeps.trans (.sub (by simp [zB]) (by simp [zB])) (Keeps.trans (.sub (by simp [zB]) (by simp [zB])) (.new (by simp [zaj])))
        ·cases h
       ·rename_i ex;rw [ex] at ht;cases ht;obtain ⟨_,_,h⟩:=jy h;obtain ⟨_,_,h⟩:=jy h;cases h;exact Keeps.trans (.sub (by simp [zB]) (by simp [zB])) (.new (by simp [zaj]))
       ·cases h
      ·cases h
     ·cases h
    ·cases h
   ·cases h
  ·cases h
 |bl d t i m y=>
  simp only [vZ] at h;simp only [zgu] at ht;cases ht;obtain ⟨_,h⟩:=zc h;unfold xH Xq at h;split at h
  ·split at h
   ·split at h
    ·obtain ⟨_,h⟩:=zc h;split at h
     ·rename_i id2 hc;split at h
      ·obtain ⟨_,_,h⟩:=jy h;cases h;have hm:=Z0 (zgv hc);exact Keeps.trans (.sub hm (by simp [hm])) (.new (by simp [zaj]))
      ·cases h
     ·cases h
    ·cases h
   ·cases h
  ·cases h
def tch (Γ:List (Spec C)) (P:Program) (o:Oper) (S:St C):Uc Tch:=match Y1 P S o.dst o.op with
 |some k=>zgu S k
 |none=>zri Γ P o S
theorem zpW {q:Opts}{Γ:List (Spec C)}{n:Nat}{o:Oper}{S':St C}(h:stp q Γ P n o S=some (.go S')) (ht:tch Γ P o S=some (l,p)):Keeps S S' o.dst l p:=by
 unfold stp at h;unfold tch at ht;cases hk:Y1 P S o.dst o.op with
 |some k=>
  rw [hk] at h ht;obtain ⟨_,h⟩:=zc h;rw [<- zpV hk];exact zmO h ht
 |none=>rw [hk] at h ht;exact zvm h ht
end
variable [Dfr]
def zaD:List Operand->List Nat
 |[]=>[]
 | .tmp t::r=>t::zaD r
 |_::r=>zaD r
theorem zbl {t:Nat}:∀ {l:List Operand},Operand.tmp t∈l->t∈zaD l
 |x::r,h=>by
  rcases U7.1 h with h | h
  ·subst h;simp [zaD]
  ·have:=zbl h;cases x <;> simp [zaD,this]
def XX (ops:Array Oper) (o:Oper):List Nat:=match o.guard with
 |none=>[]
 |some (j,_)=>match (ops[j]?).bind (·.dst) with
  |some d=>[d]
  |none=>[]
def looks (ops:Array Oper) (o:Oper):List Nat:=zaD o.op.operands.toList++XX ops o
def zz (o:Oper):List Nat:=(o.after.toList.filter (Region.binds .any)).map (·.on)
theorem zmP {o:Oper}{e:Edge}(h:e∈o.after) (hb:Region.binds .any e=true):e.on∈zz o:=UX.2 ⟨e,UZ.2 ⟨by simpa using h,hb⟩,rfl⟩
def zbm (l cl:List Nat):Bool:=l.all fun j=>zB j cl
def zdi:List (Nat×Nat)->Nat->Nat
 |[],_=>0
 |(i,m)::r,j=>bif Nat.beq i j then m else zdi r j
def yT (al:List (Nat×Nat)):List Nat->Nat
 |[]=>0
 |j::ds=>Nat.lor (Nat.lor (Nat.shiftLeft 1 j) (zdi al j)) (yT al ds)
section
variable {C:Cod}{ρ:Type}
def zfh (S:St C) (l:List Nat) (dst:Uc Nat) (t:Nat):Bool:=(S.env t).avoid l && (Nat.blt t vB && (match dst with | some d=> !Nat.beq t d | none=>true))
def zfi (ops:Array Oper) (S:St C) (l:List Nat) (p:Nat->Bool) (dst:Uc Nat) (r:Nat):Bool:=match ops[r]? with
 |some q=>(looks ops q).all (zfh S l dst) && ((match q.dst with | some d=>zfh S l dst d | none=>true) && (zeu S q.op).all fun id=> !p id && zjE l (S.heap id))
 |none=>true
def zcD (S:St C) (l:List Nat):St C:={S with env:=fun t=>bif zB t l then .und else S.env t}
def zwy (ops:Array Oper):List Nat:=ops.toList.filterMap (·.dst)
def Wg (ops:Array Oper) (n:Nat) (cl:List Nat) (taken:List Nat) (i:Nat) (o:Oper):Bool:=match o.dst with
  |none=>true
  |some d=>Nat.blt d n && (Nat.blt d vB && (!zB d (looks ops o) &&
      ((List.range ops.size).all fun j=>Nat.beq j i || (match ops[j]? with
        |none=>true
        |some q=>(bif zB j cl then (!zB j taken || !zB d (looks ops q)) else (!zB d (looks ops q) || zB i (zz q))) && (match q.dst with
            |some d'=> !Nat.beq d d'
            |none=>true)))))
def flB (C:Cod) (P:Program) (ops:Array Oper) (n j:Nat):Bool:=match ops[j]? with
  |none=>false
  |some o=>(match o.dst,o.op,o.guard with
    |some d,.alloc t,none=>(match P.info? t with
      |some ti=>(match ti.zero with
        |some zv=>(match C.oal t zv.cells.toList with
          |none=>Nat.blt d n && (Nat.blt d vB && (List.range ops.size).all fun j'=>Nat.beq j' j || (match ops[j']? with
              |none=>true
              |some q=>(!zB d (looks ops q) || zB j (zz q)) && (match q.dst with
                |some d'=> !Nat.beq d d'
                |none=>true)))
          |some _=>false)
        |none=>false)
      |none=>false)
    |_,_,_=>false)
def Wh (C:Cod) (P:Program) (ops:Array Oper) (n:Nat):List Nat:=(List.range ops.size).filter (flB C P ops n)
def rmL (i:Nat) (l:List Nat):List Nat:=l.filter fun j=> !Nat.beq j i
def zmQ (ops:Array Oper) (fl cl:List Nat) (i:Nat):Bool:=(List.range ops.size).all fun j=>Nat.beq j i || (zB j fl || (zB j cl || (match ops[j]? with
 |none=>true
 |some q=> !zbm (zz q) (rmL i fl++cl))))
def zpX (ops:Array Oper) (fl cl:List Nat) (i i2:Nat):Bool:=(List.range ops.size).all fun j=>(Nat.beq j i || Nat.beq j i2) || (zB j fl || (zB j cl || (match ops[j]? with
 |none=>true
 |some q=> !zbm (zz q) (rmL i (rmL i2 fl)++cl))))
open Classical in
noncomputable def yV (a b:Uc α):Uc α:=if a=b then a else none
theorem ZJ (a:Uc α):yV a a=a:=by unfold yV;grind
theorem zal {a b:Uc α}{r:α}(h:yV a b=some r):a=some r/\b=some r:=by
 unfold yV at h;grind
def yB (stp:yK C) (tc:Oper->St C->Uc Tch) (P:Program) (n:Nat) (ops:Array Oper) (okB:Bool) (cl taken:List Nat) (m:Nat) (K:XE C->St C->Uc ρ) (i:Nat) (early:Bool) (o:Oper) (run:Bool) (S:St C) (next:St C->List Nat->Uc ρ):Uc ρ:=
  bif early then chk (Wg ops n cl taken i o) (bif run then (match o.dst with
      |some d=>chk (rdQ o.op) (zrc P S o.type o.op fun A=>next (S.put d A) (i::taken))
      |none=>none)
    else (match o.dst with
      |some d=>next (S.put d (.tup [])) (i::taken)
      |none=>next S (i::taken)))
  else chk okB (bif run then (match tc o S with
      |none=>none
      |some (l,p)=>chk (taken.all fun r=>Nat.testBit m r || zfi ops S l p o.dst r) (stp o S _ fun out=>match out with
        | .go S'=>next S' taken
        | .pan v S'=>K (.pan v) (zcD S' (zwy ops))))
    else chk (taken.all fun r=>Nat.testBit m r || zfi ops S [] (fun _=>false) o.dst r) (match o.dst with
      |some d=>chk (Nat.blt d n) (next (S.put d (.tup [])) taken)
      |none=>next S taken))
def xp (stp:yK C) (tc:Oper->St C->Uc Tch) (P:Program) (n:Nat) (ops:Array Oper) (okB:Bool) (i:Nat) (early:Bool) (cl taken:List Nat) (al:List (Nat×Nat)) (S:St C) (K:XE C->St C->Uc ρ) (next:List Nat->List Nat->List (Nat×Nat)->St C->Uc ρ):Uc ρ:=match ops[i]? with
    |none=>none
    |some o=>chk (!zB i cl && zbm (zz o) cl) (match o.guard with
      |none=>yB stp tc P n ops okB cl taken (yT al (zz o)) K i early o true S fun S tk=>next (i::cl) tk ((i,yT al (zz o))::al) S
      |some (j,want)=>chk (zB j (zz o)) (match (ops[j]?).bind (·.dst) with
        |none=>none
        |some dg=>match S.env dg with
          | .bool q=>if q=true then yB stp tc P n ops okB cl taken (yT al (zz o)) K i early o want (S.put dg (.bool true)) (fun S tk=>next (i::cl) tk ((i,yT al (zz o))::al) S)
              else yB stp tc P n ops okB cl taken (yT al (zz o)) K i early o (!want) (S.put dg (.bool false)) (fun S tk=>next (i::cl) tk ((i,yT al (zz o))::al) S)
          | .tup []=>yB stp tc P n ops okB cl taken (yT al (zz o)) K i early o false S fun S tk=>next (i::cl) tk ((i,yT al (zz o))::al) S
          |_=>none))
def XQ (ops:Array Oper) (cl:List Nat) (i:Nat):Bool:=match ops[i]? with
 |some o=> !zB i cl && zbm (zz o) cl
 |none=>false
noncomputable def ZN (stp:yK C) (tc:Oper->St C->Uc Tch) (P:Program) (n:Nat) (ops:Array Oper):List (Nat×Bool)->List Nat->List Nat->List (Nat×Nat)->St C->(XE C->St C->Uc ρ)->Uc ρ
  |[],cl,taken,al,S,K=>chk (zbm (List.range ops.size) cl) (K .normal S)
  |(i,early)::ord,cl,taken,al,S,K=>bif Nat.blt i 4096 then
      (bif XQ ops cl i then xp stp tc P n ops (zmQ ops (Wh C P ops n) cl i) i early cl taken al S K fun cl tk al S=>ZN stp tc P n ops ord cl tk al S K
      else ZN stp tc P n ops ord cl taken al S K)
    else bif XQ ops cl ((i - 4096) / 64) && XQ ops cl ((i - 4096) % 64) then chk (zpX ops (Wh C P ops n) cl ((i - 4096) / 64) ((i - 4096) % 64)) (yV
      (xp stp tc P n ops true ((i - 4096) / 64) false cl taken al S K fun cl tk al S=>ZN stp tc P n ops ord cl tk al S K)
      (xp stp tc P n ops true ((i - 4096) % 64) false cl taken al S K fun cl tk al S=>ZN stp tc P n ops ord cl tk al S K))
    else ZN stp tc P n ops ord cl taken al S K
end
variable [Dfr]
section
variable {κ:Kp}{C:Cod}{S S1:St C}{n:Nat}{w0:Start}{σ0:FS}{P:Program}{ρ:Type}{ops:Array Oper}{D:Nat->Prop}{Γ:List (Spec C)}{qo:Opts}
def x7 (ops:Array Oper) (S:St C) (q:Oper) (run:Bool):Prop:=match q.guard with
 |none=>run=true
 |some (j,want)=>∃ dg,(ops[j]?).bind (·.dst)=some dg/\((∃ b,S.env dg = .bool b/\run=(b == want))\/(S.env dg = .tup []/\run=false))
def QV (P:Program) (ops:Array Oper) (S:St C) (q:Oper):Prop:=∃ run,x7 ops S q run/\match run with
 |true=>rdQ q.op=true/\∃ d,q.dst=some d/\evQ P S q.type q.op=some (S.env d)
 |false=>∀ d,q.dst=some d->S.env d = .tup []
theorem x7.congr (h:x7 ops S q run) (he:∀ t∈XX ops q,S1.env t=S.env t):x7 ops S1 q run:=by
 unfold x7 XX at *
 cases hg:q.guard with
 |none=>grind
 |some jw=>
  obtain ⟨j,want⟩:=jw;rw [hg] at h he;simp only at h he |-
  grind
theorem WE {t:Nat}(h:t∈XX ops q):t∈looks ops q:=List.mem_append_right _ h
theorem zcE {ty:TypeId}(he:∀ t∈looks ops q,S1.env t=S.env t) (hh:∀ id∈zeu S q.op,S1.heap id=S.heap id):evQ P S1 ty q.op=evQ P S ty q.op:=by
 have hop:∀ x∈q.op.operands.toList,S.op x=S1.op x:=fun x hx=>by
  cases x with
  |tmp t=>exact (he t (Dd _ (zbl hx))).symm
  |const v=>rfl
  |global g=>rfl
  |func f=>rfl
 unfold evQ;split
 ·rename_i t m parts e;rw [e] at hop;have:∀ e,Ym S1 e (parts.toList.map (·.2))=Ym S e (parts.toList.map (·.2)):=fun e=>zfb (S:=S1) (T:=S) fun x hx=>(hop x (by simpa [Op.operands] using hx)).symm
  unfold zcy;grind
 ·exact (zlB (S:=S) (T:=S1) hop fun id hid=>(hh id hid).symm).symm
theorem QV.congr (h:QV P ops S q) (he:∀ t∈looks ops q,S1.env t=S.env t) (hd:∀ d,q.dst=some d->S1.env d=S.env d) (hh:∀ id∈zeu S q.op,S1.heap id=S.heap id):QV P ops S1 q:=by
 obtain ⟨run,hg,h⟩:=h;refine ⟨run,hg.congr fun t ht=>he t (WE ht),?_⟩;cases run with
 |true=>
  obtain ⟨h1,d,h2,h3⟩:=h;exact ⟨h1,d,h2,by rw [zcE he hh,h3,hd d h2]⟩
 |false=>grind
theorem zcF {t:Nat}(hk:Keeps S S1 dst l p) (h:zfh S l dst t=true):S1.env t=S.env t:=by
 simp only [zfh,g9] at h;obtain ⟨h1,h2,h3⟩:=h;refine hk.env t (by rwa [U6] at h2) (fun e=>?_) h1;rw [e] at h3;simp at h3
omit [Dfr] in
theorem QV.keep {r:Nat}(h:QV P ops S q) (hk:Keeps S S1 dst l p) (hq:ops[r]?=some q) (hr:zfi ops S l p dst r=true):QV P ops S1 q:=by
 unfold zfi at hr;rw [hq] at hr;simp only [g9] at hr;obtain ⟨h1,h2,h3⟩:=hr;refine h.congr (fun t ht=>zcF hk (UR.1 h1 t ht)) (fun d e=>?_) fun id hid=>?_
 ·rw [e] at h2;exact zcF hk h2
 ·have:=UR.1 h3 id hid;simp only [g9,UQ] at this;exact hk.heap id this.1 this.2
theorem x7.wanted (h:x7 ops S q run) (hA:At n w0 σ0 κ S a w):Region.wanted q (yielded ops a.tmps)=run:=by
 unfold x7 at h;unfold Region.wanted;cases hg:q.guard with
 |none=>grind
 |some jw=>
  obtain ⟨j,want⟩:=jw;rw [hg] at h;simp only at h |-
  obtain ⟨dg,e,h⟩:=h;have hy:=hA.yield e;rcases h with ⟨b,h1,h2⟩ | ⟨h1,h2⟩
  ·rw [hy.1 b h1,h2];simp
  grind
theorem At.eqx (h:At n w0 σ0 κ S a w) (e:EqX (fun _=>False) S S1):At n w0 σ0 κ S1 a w:=by
 have:S=S1:=by
  obtain ⟨e1,h1⟩:=S;obtain ⟨e2,h2⟩:=S1;have a1:h1=h2:=e.heap;have a2:e1=e2:=funext fun t=>e.env t fun h=>h
  rw [a1,a2]
 grind
theorem zrj (hgl:C.gl w0.w σ0) (hΓ:∀ s∈Γ,s.OK P) {r:Nat}{So:St C}(hq:ops[r]?=some q) (hA:At n w0 σ0 κ So a w) (hX:EqX D So S) (hv:QV P ops S q) (hl:∀ t∈looks ops q,¬ D t) (hn:∀ d,q.dst=some d->Nat.blt d n=true) 
    (hK:∀ S1 a' w',At n w0 σ0 κ S1 a' w'->EqX (fun t=>D t/\q.dst≠some t) S1 S->K a' w'):wpOp P ops Q r K a w:=by
  obtain ⟨run,hg,hv⟩:=hv;have hg':x7 ops So q run:=hg.congr fun t ht=>hX.env t (hl t (WE ht))
  have hput:∀ d A,q.dst=some d->S.env d=A->EqX (fun t=>D t/\q.dst≠some t) (So.put d A) S:=fun d A e eA=>⟨hX.heap,fun t ht=>by
    show upd So.env d A t=S.env t;by_cases h:t=d
    ·subst h;rw [zr,eA]
    · rw [zt h]
      exact hX.env t fun hd=>ht ⟨hd,fun e'=>h (by grind)⟩⟩
  unfold wpOp;rw [hq];simp only [hg'.wanted hA];cases run with
  |true=>
    simp only [jl];left;obtain ⟨hr,d,hd,he⟩:=hv;obtain ⟨L,b,Z,PV,hAb,hi,hf⟩:=hA;have hev:evQ P So q.type q.op=some (S.env d):=by
      rw [<- he];exact zcE (ops:=ops) (fun t ht=>hX.env t (hl t ht)) fun id _=>by rw [hX.heap]
    obtain ⟨ν,vs,ids,hAb⟩:=hAb;have hok:=zwq (P:=P) (n:=n) (w0:=w0) (σ0:=σ0) (q:=⟨false⟩) (Γ:=Γ) (ps:=q.pos) (af:=q.after) (g:=q.guard) hAb (hn d hd) hr hev;have hqe:q=⟨some d,q.op,q.type,q.pos,q.after,q.guard⟩:=by
      cases q;grind
    rw [<- hqe] at hok;refine hok _ rfl a w hi hf K Q ?_ ?_
    ·intro S' e L' Z' PV' a' w' hi' hf' hA';cases e;exact hK _ _ _ ⟨L',b,Z',PV',hA',hi',hf'⟩ (hput d _ hd rfl)
    grind
  |false=>
    simp only [jg,jk];cases hd:q.dst with
    |none=>
      refine hK So _ _ hA ⟨hX.heap,fun t ht=>hX.env t fun h=>ht ⟨h,by rw [hd];simp⟩⟩
    |some d=>exact hK _ _ _ (hA.skip (hn d hd)) (hput d _ hd (hv d hd))
def WfL (ops:Array Oper):List Nat->Prop
 |[]=>True
 |i::cl=>(∀ o,ops[i]?=some o->∀ j∈zz o,j∈cl)/\WfL ops cl
def zfj (ops:Array Oper) (al:List (Nat×Nat)):Prop:=∀ i m,(i,m)∈al->∀ o,ops[i]?=some o->∀ X:Nat->Prop,(∀ k q,ops[k]?=some q->X k->∀ j∈zz q,X j)->(∀ j,X j->j < ops.size)->X i->∀ a,Nat.testBit m a=true->X a
theorem zhm:∀ {al:List (Nat×Nat)}{j a:Nat},Nat.testBit (zdi al j) a=true->∃ m,(j,m)∈al/\Nat.testBit m a=true
 |[],j,a,h=>by simp [zdi] at h
 |(i,m)::r,j,a,h=>by
  unfold zdi at h;cases e:Nat.beq i j with
  |true=>rw [e] at h;have:=jz e;grind
  |false=>
   rw [e] at h;obtain ⟨m',h1,h2⟩:=zhm h;grind
theorem zjF {a:Nat}(h:Nat.testBit (Nat.shiftLeft 1 j) a=true):a=j:=by
 have h:Nat.testBit (1 <<< j) a=true:=h;rw [Nat.one_shiftLeft,Nat.testBit_two_pow] at h;grind
theorem zdj {al:List (Nat×Nat)}(hal:zfj ops al) (X:Nat->Prop) (hX:∀ k q,ops[k]?=some q->X k->∀ j∈zz q,X j) (hin:∀ j,X j->j < ops.size):∀ {ds:List Nat},(∀ j∈ds,X j)->∀ a,Nat.testBit (yT al ds) a=true->X a
 |[],_,a,h=>by simp [yT] at h
 |j::ds,hd,a,h=>by
  have h:Nat.testBit (((Nat.shiftLeft 1 j) ||| (zdi al j)) ||| (yT al ds)) a=true:=h;rw [Nat.testBit_or,Nat.testBit_or,Uv,Uv] at h;rcases h with (h | h) | h
  ·rw [zjF h];grind
  ·obtain ⟨m,h1,h2⟩:=zhm h;have hj:=hd j (by simp);obtain ⟨o,ho⟩:∃ o,ops[j]?=some o:=⟨ops[j]'(hin j hj),Array.getElem?_eq_getElem _⟩
   exact hal j m h1 o ho X hX hin hj a h2
  ·exact zdj hal X hX hin (fun k hk=>hd k (UW _ hk)) a h
end
variable [Dfr]
abbrev onX (X:Array Bool) (k:Nat):Bool:=X.getD k false
theorem zey {X:Array Bool}(h:i < X.size):onX (X.setIfInBounds i true) i=true:=by
 unfold onX;rw [Ug];simp [h]
theorem wJ {X:Array Bool}(h:i≠k):onX (X.setIfInBounds i true) k=onX X k:=by
 unfold onX;rw [Ug,Array.getElem?_setIfInBounds_ne h,<- Ug]
theorem YX {X:Array Bool}(h:onX X k=true):onX (X.setIfInBounds i true) k=true:=by
 by_cases e:i=k
 ·subst e;rcases Nat.lt_or_ge i X.size with z | z
  ·exact zey z
  grind
 ·rw [wJ e];exact h
theorem YA {X:Array Bool}(h:onX (X.setIfInBounds i true) k=false):onX X k=false:=by
 cases e:onX X k with
 |false=>rfl
 |true=>rw [YX e] at h;cases h
theorem zgw {X:Array Bool}(hi:i < X.size) (h:onX X i=false) {fuel:Nat}(hc:X.toList.count false<=fuel+1):(X.setIfInBounds i true).toList.count false<=fuel:=by
 rw [Array.toList_setIfInBounds,List.count_set (by simpa using hi)];have h0:X.toList[i]'(by simpa using hi)=false:=by
  unfold onX at h;rw [Ug] at h;grind
 grind
theorem zlH {X:Array Bool}(hi:i < X.size) (h:onX X i=false):0 < X.toList.count false:=by
 rw [List.count_pos_iff];have h0:X.toList[i]'(by simpa using hi)=false:=by
  unfold onX at h;rw [Ug] at h;grind
 grind
section
variable {Fx:List Nat}{κ:Kp}{C:Cod}{S S':St C}{n:Nat}{w0:Start}{σ0:FS}{P:Program}{ρ:Type}{ops:Array Oper}{Γ:List (Spec C)}{qo:Opts}{cl taken:List Nat}{al:List (Nat×Nat)}{X:Array Bool}
structure Cfg (P:Program) (ops:Array Oper) (n:Nat) (cl taken:List Nat) (al:List (Nat×Nat)) (S:St C) (X:Array Bool) (Fx:List Nat):Prop where
 size:X.size=ops.size
 sub:∀ i,onX X i=true->i∈cl\/i∈Fx
 fon:∀ i∈Fx,onX X i=true/\i ∉ cl
 wf:WfL ops cl
 tk:∀ i∈cl,onX X i=false->i∈taken
 inc:∀ i∈cl,i < ops.size
 tcl:∀ i∈taken,i∈cl
 closed:∀ k q,ops[k]?=some q->onX X k=true->∀ j∈zz q,onX X j=true
 qv:∀ r q,r∈taken->onX X r=false->ops[r]?=some q->QV P ops S q
 ds:∀ r q d,r∈taken->onX X r=false->ops[r]?=some q->q.dst=some d->Nat.blt d n=true/\d < vB/\d ∉ looks ops q/\∀ j o,ops[j]?=some o->j≠r->(onX X j=false->d∈looks ops o->r∈zz o)/\o.dst≠some d
 anc:zfj ops al
def zmR (ops:Array Oper) (taken:List Nat) (X:Array Bool) (t:Nat):Prop:=∃ r q,r∈taken/\onX X r=false/\ops[r]?=some q/\q.dst=some t
theorem Cfg.hit (h:Cfg P ops n cl taken al S X Fx) (hi:i∈cl) (hd:∀ q,ops[i]?=some q->∀ j∈zz q,onX X j=true):Cfg P ops n cl taken al S (X.setIfInBounds i true) Fx where
 size:=by simp [h.size]
 sub k hk:=by
  by_cases e:i=k
  ·grind
  ·rw [wJ e] at hk;exact h.sub k hk
 fon k hk:=⟨YX (h.fon k hk).1,(h.fon k hk).2⟩
 wf:=h.wf
 tk k hk ho:=h.tk k hk (YA ho)
 inc:=h.inc
 tcl:=h.tcl
 closed k q hq hk j hj:=by
  by_cases e:i=k
  ·subst e;exact YX (hd q hq j hj)
  ·rw [wJ e] at hk;exact YX (h.closed k q hq hk j hj)
 qv r q hr ho hq:=h.qv r q hr (YA ho) hq
 ds r q d hr ho hq he:=by
  obtain ⟨h1,h2,h3,h4⟩:=h.ds r q d hr (YA ho) hq he;exact ⟨h1,h2,h3,fun j o hj hne=>⟨fun k=>(h4 j o hj hne).1 (YA k),(h4 j o hj hne).2⟩⟩
 anc:=h.anc
omit [Dfr] in
theorem zfj.add (h:zfj ops al) {o:Oper}(ho:ops[i]?=some o):zfj ops ((i,yT al (zz o))::al):=by
 intro j m hm q hq Y hY hin hj a ha;rcases U7.1 hm with e | e
 ·cases e;rw [ho] at hq;cases hq;exact zdj h Y hY hin (hY i o ho hj) a ha
 ·exact h j m e q hq Y hY hin hj a ha
theorem Cfg.sync (h:Cfg P ops n cl taken al S X Fx) {o:Oper}(ho:ops[i]?=some o) (hi:i ∉ cl) (hiF:i ∉ Fx) (hd:∀ j∈zz o,j∈cl) (hx:∀ j∈zz o,onX X j=true) (hq:∀ r q,r∈taken->onX X r=false->ops[r]?=some q->QV P ops S' q):Cfg P ops n (i::cl) taken ((i,yT al (zz o))::al) S' (X.setIfInBounds i true) Fx where
 size:=by simp [h.size]
 sub k hk:=by
  by_cases e:i=k
  ·subst e;simp
  ·rw [wJ e] at hk;exact (h.sub k hk).imp_left (UW _)
 fon k hk:=⟨YX (h.fon k hk).1,fun hm=>by
  rcases U7.1 hm with e | e
  ·grind
  ·exact (h.fon k hk).2 e⟩
 wf:=⟨fun o' ho' j hj=>by grind,h.wf⟩
 tk k hk hoff:=by
  rcases U7.1 hk with e | e
  ·subst e;rw [zey (by rw [h.size];grind)] at hoff;cases hoff
  ·exact h.tk k e (YA hoff)
 inc k hk:=by
  rcases U7.1 hk with e | e
  ·grind
  ·exact h.inc k e
 tcl k hk:=UW _ (h.tcl k hk)
 closed k q hq hk j hj:=by
  by_cases e:i=k
  ·subst e;rw [ho] at hq;cases hq;exact YX (hx j hj)
  ·rw [wJ e] at hk;exact YX (h.closed k q hq hk j hj)
 qv r q hr hoff hq':=hq r q hr (YA hoff) hq'
 ds r q d hr hoff hq he:=by
  obtain ⟨h1,h2,h3,h4⟩:=h.ds r q d hr (YA hoff) hq he;exact ⟨h1,h2,h3,fun j o hj hne=>⟨fun k=>(h4 j o hj hne).1 (YA k),(h4 j o hj hne).2⟩⟩
 anc:=h.anc.add ho
omit [Dfr] in
theorem Cfg.early (h:Cfg P ops n cl taken al S X Fx) {o:Oper}(ho:ops[i]?=some o) (hi:i ∉ cl) (hiF:i ∉ Fx) (hd:∀ j∈zz o,j∈cl) (he:Wg ops n cl taken i o=true) (hv:QV P ops S' o) (hS:∀ t,o.dst≠some t->S'.env t=S.env t) (hh:S'.heap=S.heap) :
    Cfg P ops n (i::cl) (i::taken) ((i,yT al (zz o))::al) S' X Fx:=by
  have he2:∀ d,o.dst=some d->Nat.blt d n=true/\d < vB/\d ∉ looks ops o/\∀ j q,ops[j]?=some q->j≠i->(j∈cl->j∈taken->d ∉ looks ops q)/\(j ∉ cl->d∈looks ops q->i∈zz q)/\q.dst≠some d:=fun d e=>by
    unfold Wg at he;rw [e] at he;simp only [g9,UQ] at he;obtain ⟨h1,h2,h3,h4⟩:=he;refine ⟨h1,by rwa [U6] at h2,fun hm=>(by rw [zR.2 hm] at h3;cases h3),fun j q hj hne=>?_⟩;have:=UR.1 h4 j (Da.2 (Ui.1 hj).1);rw [hj] at this;simp only [Uv,g9] at this;rcases this with z | ⟨z1,z2⟩
    ·exact absurd (jz z) hne
    · refine ⟨fun hc ht hm=>?_,fun hc hm=>?_,fun e'=>?_⟩
      ·rw [zR.2 hc,US,zR.2 ht,zR.2 hm] at z1;cases z1
      · have:zB j cl=false:=by
          cases e:zB j cl with
          |false=>rfl
          |true=>exact absurd (zR.1 e) hc
        rw [this,Uh,zR.2 hm] at z1;exact zR.1 (by simpa using z1)
      ·rw [e'] at z2;simp at z2
  refine ⟨h.size,fun k hk=>(h.sub k hk).imp_left (UW _),fun k hk=>⟨(h.fon k hk).1,fun hm=>(by
    rcases U7.1 hm with e | e
    ·grind
    ·exact (h.fon k hk).2 e)⟩,⟨fun o' ho' j hj=>by grind,h.wf⟩,fun k hk hoff=>?_,fun k hk=>?_,fun k hk=>?_,h.closed,fun r q hr hoff hq=>?_,fun r q d hr hoff hq e=>?_,h.anc.add ho⟩
  · rcases U7.1 hk with e | e
    ·subst e;simp
    ·exact UW _ (h.tk k e hoff)
  · rcases U7.1 hk with e | e
    ·grind
    ·exact h.inc k e
  · rcases U7.1 hk with e | e
    ·subst e;simp
    ·exact UW _ (h.tcl k e)
  · rcases U7.1 hr with e | e
    ·grind
    · have hne:r≠i:=fun e'=>hi (e' ▸ h.tcl r e)
      refine (h.qv r q e hoff hq).congr (fun t ht=>?_) (fun d ed=>?_) fun id _=>by rw [hh]
      ·exact hS t fun e'=>((he2 t e').2.2.2 r q hq hne).1 (h.tcl r e) e ht
      grind
  · rcases U7.1 hr with e' | e'
    · subst e';rw [ho] at hq;cases hq;obtain ⟨h1,h2,h3,h4⟩:=he2 d e;refine ⟨h1,h2,h3,fun j o' hj hne=>⟨fun hoff' hm=>?_,(h4 j o' hj hne).2.2⟩⟩;by_cases hc:j∈cl
      ·exact absurd hm ((h4 j o' hj hne).1 hc (h.tk j hc hoff'))
      grind
    ·exact h.ds r q d e' hoff hq e
theorem zrk:∀ {cl:List Nat},WfL ops cl->(∀ i∈cl,i < ops.size)->(∃ i∈cl,onX X i=false)->∃ i q,i∈cl/\onX X i=false/\ops[i]?=some q/\∀ j∈zz q,onX X j=true
 |[],_,_,⟨i,h,_⟩=>by cases h
 |i::cl,⟨h1,h2⟩,hin,hex=>by
  by_cases hx:∃ i∈cl,onX X i=false
  ·obtain ⟨j,q,k1,k2,k3,k4⟩:=zrk h2 (fun j hj=>hin j (UW _ hj)) hx;grind
  ·have hall:∀ j∈cl,onX X j=true:=fun j hj=>by
    grind
   obtain ⟨j,hj,hoff⟩:=hex;rcases U7.1 hj with e | e
   ·subst e;have hlt:=hin j (by simp);exact ⟨j,ops[j],by simp,hoff,Array.getElem?_eq_getElem hlt,fun k hk=>hall k (h1 _ (Array.getElem?_eq_getElem hlt) k hk)⟩
   grind
theorem YI (hs:X.size=ops.size) :i∈Region.ready .any ops X↔onX X i=false/\∃ o,ops[i]?=some o/\∀ j∈zz o,onX X j=true:=by
 rw [mem_ready];constructor
 ·rintro ⟨h1,o,h2,h3⟩;have hlt:i < X.size:=by grind
  refine ⟨by grind,o,h2,fun j hj=>?_⟩;obtain ⟨e,he,rfl⟩:=UX.1 hj;grind
 ·rintro ⟨h1,o,h2,h3⟩;have hlt:i < X.size:=by grind
  exact ⟨by grind,o,h2,fun e he hb=>h3 e.on (zmP he hb)⟩
theorem zhn (hall:∀ i∈taken,onX X i=true):∀ t,¬ zmR ops taken X t:=fun t ⟨r,q,h1,h2,_⟩=>by grind
theorem EqX.weaken {D D':Nat->Prop}{So:St C}(h:EqX D So S) (hD:∀ t,D t->D' t):EqX D' So S:=⟨h.heap,fun t ht=>h.env t fun hd=>ht (hD t hd)⟩
theorem AbsL.mask {L:List (Nat×Value)}{b:Nat->Value}{Z:FS}{PV:List Priv}{ν:Val}{vs:Nat->List Value}{ids:List Nat}{So:St C}(h:AbsL κ So ν vs ids L b Z PV) (e:EqX (fun t=>t∈l) So S):AbsL κ (zcD S l) ν vs ids L b Z PV:=by
 have hh:(zcD S l).heap=So.heap:=e.heap.symm;have henv:∀ t,(zcD S l).env t = .und\/(zcD S l).env t=So.env t:=fun t=>by
  show (bif zB t l then AV.und else S.env t)=_\/(bif zB t l then AV.und else S.env t)=_;cases hm:zB t l with
  |true=>exact .inl rfl
  |false=>
   refine .inr (e.env t fun hd=>?_).symm;rw [zR.2 hd] at hm;cases hm
 refine ⟨⟨h.nd,fun id=>by rw [hh];exact h.dom id,by rw [h.pv,hh],fun id cs hc=>h.cell id cs (by grind),fun t=>?_,h.one⟩,fun t=>?_,fun id cs hc=>?_,fun k hk hs=>have q:=h.keep k hk (by grind);⟨q.1,q.2.1,fun hf=>q.2.2 (by grind)⟩⟩
 ·rcases henv t with z | z
  ·rw [z];trivial
  ·rw [z];exact h.env t
 ·rcases henv t with z | z
  ·rw [z];trivial
  ·rw [z,hh];exact h.live t
 ·rw [hh] at hc |-;exact h.livec id cs hc
theorem zlI {d:Nat}{A:AV C.D}(h:S.env d=A):S.put d A=S:=by
 unfold St.put;have:upd S.env d A=S.env:=by
  funext t;by_cases e:t=d
  ·subst e;rw [zr,h]
  ·rw [zt e]
 rw [this]
theorem z8.inv {D:Nat->Prop}{x:Uc (Out C)}{out:Out C}(h:z8 D x (some out)):∃ out',x=some out'/\match out',out with
    | .go S,.go T=>EqX D S T
    | .pan u S,.pan v T=>u=v/\EqX D S T
    |_,_=>False:=by
  match x,out,h with
  |some (.go S),.go T,h=>exact ⟨_,rfl,h⟩
  |some (.pan u S),.pan v T,h=>exact ⟨_,rfl,h⟩
  |some (.go S),.pan v T,h=>exact h.elim
  |some (.pan u S),.go T,h=>exact h.elim
theorem YY {early:Bool}{next:List Nat->List Nat->List (Nat×Nat)->St C->Uc ρ}{K:XE C->St C->Uc ρ}{r:ρ}{stp:yK C}{tc:Oper->St C->Uc Tch}(h:xp stp tc P n ops okB i early cl taken al S K next=some r) :
    ∃ o run,ops[i]?=some o/\i ∉ cl/\(∀ j∈zz o,j∈cl)/\(∀ t∈XX ops o,∃ j,j∈zz o/\(ops[j]?).bind (·.dst)=some t)/\x7 ops S o run/\yB stp tc P n ops okB cl taken (yT al (zz o)) K i early o run S (fun S tk=>next (i::cl) tk ((i,yT al (zz o))::al) S)=some r:=by
  unfold xp at h;split at h
  ·cases h
  · rename_i o ho;obtain ⟨hc,h⟩:=zc h;simp only [g9,UQ] at hc;have h1:i ∉ cl:=fun hm=>by rw [zR.2 hm] at hc;cases hc.1
    have h2:∀ j∈zz o,j∈cl:=fun j hj=>zR.1 (UR.1 hc.2 j hj)
    split at h
    ·rename_i hg;exact ⟨o,true,ho,h1,h2,fun t ht=>(by unfold XX at ht;grind),(by unfold x7;rw [hg]),h⟩
    · rename_i j want hg;obtain ⟨hj,h⟩:=zc h;have hj:=zR.1 hj;split at h
      ·cases h
      · rename_i dg hdg;have hgt:∀ t∈XX ops o,∃ j,j∈zz o/\(ops[j]?).bind (·.dst)=some t:=fun t ht=>by
          unfold XX at ht;rw [hg] at ht;grind
        have hgr:∀ {run:Bool},((∃ b,S.env dg = .bool b/\run=(b == want))\/(S.env dg = .tup []/\run=false))->x7 ops S o run:=fun {run} k=>by
          unfold x7;grind
        split at h
        · rename_i q e;cases q with
          |true=>
            rw [jr rfl,zlI e] at h;exact ⟨o,want,ho,h1,h2,hgt,hgr (.inl ⟨true,e,by simp⟩),h⟩
          |false=>
            rw [js (by simp),zlI e] at h;grind
        all_goals grind
theorem zcG {early:Bool}{K:XE C->St C->Uc ρ}{stp:yK C}{tc:Oper->St C->Uc Tch}(hi:Nat.blt i 4096=true) (hr:XQ ops cl i=true):ZN stp tc P n ops ((i,early)::ord) cl taken al S K=xp stp tc P n ops (zmQ ops (Wh C P ops n) cl i) i early cl taken al S K fun cl tk al S=>ZN stp tc P n ops ord cl tk al S K:=by
 show (bif Nat.blt i 4096 then (bif XQ ops cl i then _ else _) else _)=_;rw [hi,hr,US,US]
theorem zb9 {early:Bool}{K:XE C->St C->Uc ρ}{stp:yK C}{tc:Oper->St C->Uc Tch}(hi:Nat.blt i 4096=true) (hr:XQ ops cl i=false):ZN stp tc P n ops ((i,early)::ord) cl taken al S K=ZN stp tc P n ops ord cl taken al S K:=by
 show (bif Nat.blt i 4096 then (bif XQ ops cl i then _ else _) else _)=_;rw [hi,hr,US,Uh]
theorem zcH {early:Bool}{K:XE C->St C->Uc ρ}{stp:yK C}{tc:Oper->St C->Uc Tch}(hi:Nat.blt i 4096=false):ZN stp tc P n ops ((i,early)::ord) cl taken al S K=(bif XQ ops cl ((i - 4096) / 64) && XQ ops cl ((i - 4096) % 64) then chk (zpX ops (Wh C P ops n) cl ((i - 4096) / 64) ((i - 4096) % 64)) (yV
      (xp stp tc P n ops true ((i - 4096) / 64) false cl taken al S K fun cl tk al S=>ZN stp tc P n ops ord cl tk al S K)
      (xp stp tc P n ops true ((i - 4096) % 64) false cl taken al S K fun cl tk al S=>ZN stp tc P n ops ord cl tk al S K))
    else ZN stp tc P n ops ord cl taken al S K):=by
  show (bif Nat.blt i 4096 then (bif XQ ops cl i then _ else _) else _)=_;rw [hi,Uh]
theorem zmS {o:Oper}{K:XE C->St C->Uc ρ}{r:ρ}{stp:yK C}{tc:Oper->St C->Uc Tch}{next:St C->List Nat->Uc ρ}(hg:x7 ops S o run) (hgl:∀ t∈XX ops o,o.dst≠some t)
    {okB:Bool} (h:yB stp tc P n ops okB cl taken m K i true o run S next=some r):Wg ops n cl taken i o=true/\∃ S',next S' (i::taken)=some r/\QV P ops S' o/\(∀ t,o.dst≠some t->S'.env t=S.env t)/\S'.heap=S.heap:=by
  unfold yB at h;rw [US] at h;obtain ⟨he,h⟩:=zc h;refine ⟨he,?_⟩;have hlook:∀ d,o.dst=some d->d ∉ looks ops o:=fun d e hm=>by
    unfold Wg at he;rw [e] at he;simp only [g9,UQ] at he;rw [zR.2 hm] at he;cases he.2.2.1
  have hput:∀ d A t,o.dst=some d->o.dst≠some t->(S.put d A).env t=S.env t:=fun d A t e k=>zt fun e'=>k (by rw [e,e'])
  cases run with
  |true=>
    rw [US] at h;split at h
    · rename_i d hd;obtain ⟨hr,h⟩:=zc h;rw [zvd] at h;obtain ⟨A,hA,h⟩:=jy h;refine ⟨_,h,⟨true,hg.congr fun t ht=>hput d A t hd (hgl t ht),hr,d,hd,?_⟩,fun t k=>hput d A t hd k,rfl⟩;rw [zcE (ops:=ops) (S:=S) (fun t ht=>hput d A t hd fun e=>?_) fun id _=>rfl,hA]
      ·show some A=some (upd S.env d A d);rw [zr]
      grind
    ·cases h
  |false=>
    rw [Uh] at h;split at h
    ·rename_i d hd;refine ⟨_,h,⟨false,hg.congr fun t ht=>hput d _ t hd (hgl t ht),fun d' e=>?_⟩,fun t k=>hput d _ t hd k,rfl⟩;rw [hd] at e;cases e;exact zr
    ·rename_i hd;exact ⟨_,h,⟨false,hg,fun d' e=>by grind⟩,fun t _=>rfl,rfl⟩
theorem Sep.perm {Z:FS}{A B:List Priv}(p:A.Perm B):∀ {h:zd},Sep Z A h->Sep Z B h:=by
 induction p with
 |nil=>grind
 |cons x _ ih=>
  intro h k;obtain ⟨h1,h2,k1,k2,l1,l2,d⟩:=k.uncons;exact .cons k1 (ih k2) l1 l2 d
 |swap x y l=>
  intro h k;obtain ⟨h1,h2,k1,k2,l1,l2,d⟩:=k.uncons;obtain ⟨g1,g2,m1,m2,n1,n2,e⟩:=k2.uncons;have d1:h1.disj g2:=d.mono (.refl _) n2;exact .cons (h2:=h1.or g2) m1 (.cons k1 m2 (zd.le_or _ _) (zd.le_or_right d1) d1) (n1.trans l2) (zd.or_le l1 (n2.trans l2)) ((zd.or_disj (d.mono (.refl _) n1) e.symm).symm)
 |trans _ _ i1 i2=>grind
omit [Dfr] in
structure Home (C:Cod) (w0:Start) (σ0:FS) (st:Start) (σs:FS) (FR:List Priv):Prop where
 home:∀ {Z PV w},Inv st σs Z PV w->Inv w0 σ0 Z (PV++FR) w
 gl:C.gl st.w σs
theorem Home.make (hgl:C.gl w0.w σ0) {A B:List Priv}{Z:FS}(hi:Inv w0 σ0 Z (A++B) w):∃ st,Home C w0 σ0 st Z B/\Inv st Z Z A w:=by
 obtain ⟨gg,hs,hg⟩:=hi.own;obtain ⟨f1,f2,s1,s2,l1,l2,dd⟩:=hs.split;exact ⟨⟨w,f1⟩,⟨fun {τ PV w'} k=>hi.call hg s2 l1 l2 dd k,C.glm hi.le hi.ext hgl⟩,.start hi.sub s1 (hg.sub.mono l1) (hg.mono l1).apart⟩
structure Fl where
 i:Nat
 d:Nat
 ad:Addr
 zs:List Value
def frF (F:List Fl):List Priv:=F.map fun f =>.cell f.ad f.zs
def zwz (C:Cod) (P:Program) (ops:Array Oper) (n i d:Nat) (zs:List Value):Prop:=
 ∃ o t ti zv,ops[i]?=some o/\o.dst=some d/\o.op = .alloc t/\o.guard=none/\P.info? t=some ti/\ti.zero=some zv/\zv.cells.toList=zs/\C.oal t zs=none/\Nat.blt d n=true/\d < vB/\∀ j q,ops[j]?=some q->j≠i->(d∈looks ops q->i∈zz q)/\q.dst≠some d
theorem zwA (h:i∈Wh C P ops n):∃ d zs,zwz C P ops n i d zs:=by
 have h:=(UZ.1 h).2;unfold flB at h;split at h
 ·cases h
 ·rename_i o ho;split at h
  ·rename_i d t e1 e2 e3;split at h
   ·rename_i ti hti;split at h
    ·rename_i zv hz;split at h
     ·rename_i hoal;simp only [g9] at h;obtain ⟨h1,h2,h3⟩:=h;refine ⟨d,_,o,t,ti,zv,ho,e1,e2,e3,hti,hz,rfl,hoal,h1,by rwa [U6] at h2,fun j q hq hne=>?_⟩;have:=UR.1 h3 j (Da.2 (Ui.1 hq).1);rw [hq] at this;simp only [Uv,g9,UQ] at this;rcases this with z | ⟨z1,z2⟩
      ·exact absurd (jz z) hne
      ·refine ⟨fun hm=>?_,fun e=>?_⟩
       ·rcases z1 with z | z
        ·rw [zR.2 hm] at z;cases z
        ·exact zR.1 z
       ·rw [e] at z2;simp at z2
     ·cases h
    ·cases h
   ·cases h
  ·cases h
structure FOK (C:Cod) (P:Program) (ops:Array Oper) (n:Nat) (a:Act) (F:List Fl):Prop where
 op:∀ f∈F,zwz C P ops n f.i f.d f.zs
 fl:∀ f∈F,f.i∈Wh C P ops n
 val:∀ f∈F,a.tmps.getD f.d undef = .pointer (some f.ad)
 nd:(F.map Fl.i).Nodup
def flD (ops:Array Oper) (taken:List Nat) (X:Array Bool) (F:List Fl) (t:Nat):Prop:=zmR ops taken X t\/∃ f∈F,f.d=t
structure Rl (P:Program) (ops:Array Oper) (n:Nat) (w0:Start) (σ0:FS) (κ:Kp) (taken:List Nat) (X:Array Bool) (F:List Fl) (So S:St C) (a:Act) (w:World):Prop where
 at_:∃ st σs,Home C w0 σ0 st σs (frF F)/\At n st σs κ So a w
 eqx:EqX (flD ops taken X F) So S
 fok:FOK C P ops n a F
def zdk (ops:Array Oper) (j:Nat) (a a':Act):Prop:=∀ t,(∀ o,ops[j]?=some o->o.dst≠some t)->a'.tmps.getD t undef=a.tmps.getD t undef
theorem vT {v:Value}{t:Nat}(h:dst≠some t):(a.put dst v).tmps.getD t undef=a.tmps.getD t undef:=by
 cases dst with
 |none=>rfl
 |some d=>
  show (a.tmps.setIfInBounds d v).getD t undef=_;rw [Ug,Array.getElem?_setIfInBounds_ne (fun e=>h (by rw [e])),<- Ug]
theorem zlJ {o:Oper}(h:o.wp P a w K Q):o.wp P a w (fun a' w'=>K a' w'/\∀ t,o.dst≠some t->a'.tmps.getD t undef=a.tmps.getD t undef) Q:=by
 unfold Oper.wp at *
 generalize (execOp a.eval o).run P w=r at *
 cases r with
 |ok n w'=>
  cases n <;> simp only [Oper.upon] at h |- <;>
   first
    |exact ⟨h,fun t ht=>vT ht⟩
    |exact Calls.mono h (fun e w'' he=>by cases e <;> first | exact ⟨he,fun t ht=>vT ht⟩ | exact he)
    |exact Rows.mono h (fun _ _ he=>⟨he,fun t ht=>vT ht⟩)
    |exact h
 |halt x w'=>cases x <;> simp only [Oper.upon] at h |- <;> exact h
theorem zho (h:wpOp P ops Q j K a w):wpOp P ops Q j (fun a' w'=>K a' w'/\zdk ops j a a') a w:=by
 unfold wpOp zdk at *
 cases ho:ops[j]? with
 |none=>grind
 |some o=>
  rw [ho] at h;simp only at h |-
  split
  ·rename_i hw;rw [jr hw] at h;refine h.imp (fun h=>Oper.wp_mono (fun a' w' hk=>⟨hk.1,fun t ht=>hk.2 t (ht o rfl)⟩) (zlJ h)) id
  ·rename_i hw;rw [js hw] at h;exact ⟨h,fun t ht=>vT (ht o rfl)⟩
omit [Dfr] in
theorem FOK.next {a':Act}{F:List Fl}(h:FOK C P ops n a F) (ht:zdk ops j a a') (hj:∀ f∈F,f.i≠j):FOK C P ops n a' F:=
 ⟨h.op,h.fl,fun f hf=>by
  obtain ⟨o,t,ti,zv,_,_,_,_,_,_,_,_,_,_,p⟩:=h.op f hf
  rw [ht f.d fun q hq=>(p j q hq (hj f hf).symm).2];exact h.val f hf,h.nd⟩
theorem WfL.deps (hq:ops[j]?=some q) (hk:k∈zz q):∀ {cl:List Nat},WfL ops cl->j∈cl->k∈cl:=by
 intro cl
 induction cl with
 |nil=>grind
 |cons i cl ih=>
  intro h hj;obtain ⟨h1,h2⟩:=(show (∀ o,ops[i]?=some o->∀ j∈zz o,j∈cl)/\WfL ops cl from h);rcases U7.1 hj with e | e
  all_goals grind
omit [Dfr] in
theorem Cfg.flt (h:Cfg P ops n cl taken al S X Fx) {o:Oper}(ho:ops[i]?=some o) (hi:i ∉ cl) (hx:∀ j∈zz o,onX X j=true):Cfg P ops n cl taken al S (X.setIfInBounds i true) (i::Fx) where
 size:=by simp [h.size]
 sub k hk:=by
  by_cases e:i=k
  ·grind
  ·rw [wJ e] at hk;exact (h.sub k hk).imp_right (UW _)
 fon k hk:=by
  rcases U7.1 hk with e | e
  ·subst e;exact ⟨zey (by rw [h.size];grind),hi⟩
  ·exact ⟨YX (h.fon k e).1,(h.fon k e).2⟩
 wf:=h.wf
 tk k hk hoff:=h.tk k hk (YA hoff)
 inc:=h.inc
 tcl:=h.tcl
 closed k q hq hk j hj:=by
  by_cases e:i=k
  ·subst e;rw [ho] at hq;cases hq;exact YX (hx j hj)
  ·rw [wJ e] at hk;exact YX (h.closed k q hq hk j hj)
 qv r q hr ho hq:=h.qv r q hr (YA ho) hq
 ds r q d hr ho hq he:=by
  obtain ⟨h1,h2,h3,h4⟩:=h.ds r q d hr (YA ho) hq he;exact ⟨h1,h2,h3,fun j o hj hne=>⟨fun k=>(h4 j o hj hne).1 (YA k),(h4 j o hj hne).2⟩⟩
 anc:=h.anc
theorem Cfg.absorb (h:Cfg P ops n cl taken al S X Fx) {Fy:List Nat}{o:Oper}(ho:ops[i]?=some o) (hi:i∈Fx) (hd:∀ j∈zz o,j∈cl) (hF:∀ k,k∈Fy↔k∈Fx/\k≠i) (hq:∀ r q,r∈taken->onX X r=false->ops[r]?=some q->QV P ops S' q):Cfg P ops n (i::cl) taken ((i,yT al (zz o))::al) S' X Fy where
 size:=h.size
 sub k hk:=by
  rcases h.sub k hk with z | z
  ·grind
  grind
 fon k hk:=by
  obtain ⟨h1,h2⟩:=(hF k).1 hk;refine ⟨(h.fon k h1).1,fun hm=>?_⟩;rcases U7.1 hm with e | e
  ·exact h2 e
  ·exact (h.fon k h1).2 e
 wf:=⟨fun o' ho' j hj=>by grind,h.wf⟩
 tk k hk hoff:=by
  rcases U7.1 hk with e | e
  ·subst e;rw [(h.fon k hi).1] at hoff;cases hoff
  ·exact h.tk k e hoff
 inc k hk:=by
  rcases U7.1 hk with e | e
  ·grind
  ·exact h.inc k e
 tcl k hk:=UW _ (h.tcl k hk)
 closed:=h.closed
 qv:=hq
 ds:=h.ds
 anc:=h.anc.add ho
theorem zlg {d:Nat}{t:TypeId}:Y1 P S (some d) (.alloc t)=none:=by unfold Y1;rfl
theorem zmT {d:Nat}{t ty:TypeId}:wd qo Γ P d ty S (.alloc t)=xV P S d t:=by unfold wd;rfl
theorem zmU {d:Nat}{t ty:TypeId}{ps:String}{af:Array Edge}{g:Uc (Nat×Bool)}:stp qo Γ P n ⟨some d,.alloc t,ty,ps,af,g⟩ S=chk (Nat.blt d n) (xV P S d t):=by
 unfold stp;simp only [zlg];unfold vP;simp only [zmT]
theorem zpY {o:Oper}{d:Nat}{t:TypeId}{zv:Value}{zs:List Value}{out:Out C}(p2:o.dst=some d) (p3:o.op = .alloc t) (p5:P.info? t=some ti) (p6:ti.zero=some zv) (p7:zv.cells.toList=zs) (p8:C.oal t zs=none) (hs:stp qo Γ P n o S=some out) :
    S.heap (nid d 0)=none/\out = .go {env:=upd S.env d (.pc (nid d 0) 0),heap:=upd S.heap (nid d 0) (some (.cell (zs.map yg)))}:=by
  obtain ⟨dst,op,ty,ps,af,g⟩:=o;simp only at p2 p3;subst p2 p3 p7;rw [zmU] at hs;obtain ⟨_,hs⟩:=zc hs;unfold xV at hs;rw [p5] at hs;simp only [p6,p8] at hs;obtain ⟨h0,hs⟩:=zc hs;cases hs;exact ⟨ZA h0,rfl⟩
theorem absorb (hgl:C.gl w0.w σ0) {next:List Nat->List Nat->List (Nat×Nat)->St C->Uc ρ}{K:XE C->St C->Uc ρ}{r:ρ}(hdr:xp (YW qo Γ P n) (tch Γ P) P n ops okB i false cl taken al S K next=some r) {F:List Fl}(hi:i∈F.map Fl.i) {So:St C}
    (hc:Cfg P ops n cl taken al S X (F.map Fl.i)) (hR:Rl P ops n w0 σ0 κ taken X F So S a w):∃ S' So' F' al',next (i::cl) taken al' S'=some r/\Cfg P ops n (i::cl) taken al' S' X (F'.map Fl.i)/\Rl P ops n w0 σ0 κ taken X F' So' S' a w:=by
  obtain ⟨o,run,ho,hicl,hd,hgt,hg,h⟩:=YY hdr;obtain ⟨f,hf,rfl⟩:=UX.1 hi;obtain ⟨F1,F2,rfl⟩:=List.append_of_mem hf;obtain ⟨o',t,ti,zv,p1,p2,p3,p4,p5,p6,p7,p8,p9,p10,p11⟩:=hR.fok.op f hf;rw [ho] at p1;cases p1;have hrun:run=true:=by unfold x7 at hg;grind
  subst hrun;unfold yB at h;rw [Uh] at h;obtain ⟨_,h⟩:=zc h;rw [US] at h;have hdeps:∀ k∈zz o,onX X k=true:=hc.closed f.i o ho (hc.fon f.i hi).1
  have hanc:∀ r',onX X r'=false->Nat.testBit (yT al (zz o)) r'=false:=fun r' hr'=>by
    cases e:Nat.testBit (yT al (zz o)) r' with
    |false=>rfl
    |true=>
      have this:onX X r'=true:=zdj hc.anc (fun k=>onX X k=true) (fun k q hk hon=>hc.closed k q hk hon) (fun k hk=>by rw [<- hc.size];grind) hdeps r' e;grind
  split at h
  ·cases h
  · rename_i l p htc;obtain ⟨hall,h⟩:=zc h;rw [vw] at h;obtain ⟨out,hs,h⟩:=jy h;obtain ⟨h0,rfl⟩:=zpY p2 p3 p5 p6 p7 p8 hs;have hkeep:=zpW hs htc;have hnd:=hR.fok.nd;rw [Dc,Un] at hnd;obtain ⟨hnd1,hnd2⟩:=List.nodup_cons.1 ((List.Perm.nodup_iff List.perm_middle).1 hnd);refine ⟨_,{env:=upd So.env f.d (.pc (nid f.d 0) 0),heap:=upd So.heap (nid f.d 0) (some (.cell (f.zs.map yg)))},F1++F2,_,h,hc.absorb ho hi hd (fun k=>?_) (fun r' q' h1 h2 h3=>?_),?_,?_,?_⟩
    · simp only [Dc,Un,Ue,U7] at hnd1 |-
      constructor
      ·grind
      grind
    ·have:=UR.1 hall r' h1;rw [hanc r' h2,De] at this;exact (hc.qv r' q' h1 h2 h3).keep hkeep h3 this
    · obtain ⟨st,σs,hh,L,b,Z,PV,⟨ν,vs,ids,hA⟩,hinv,hfi⟩:=hR.at_
      have hi2:Inv w0 σ0 Z ((.cell f.ad f.zs::PV)++frF (F1++F2)) w:=(hh.home hinv).sub_own fun g k=>Sep.perm (by
        simp only [frF,Dc,Un,List.cons_append];rw [<- U8,<- U8]
        exact List.perm_middle) k
      obtain ⟨st',hh',hinv'⟩:=Home.make hgl hi2;refine ⟨st',Z,hh',L,b,Z,_,?_,hinv',hfi⟩;have hv:look L b f.d = .pointer (some (f.ad.add 0)):=by rw [<- hfi.get,hR.fok.val f hf];simp [Addr.add]
      refine zA.unput (hA.new (d:=f.d) (by rw [hR.eqx.heap];exact h0) (xi κ f.d 0) (e :=.cell _) (v :=.slice none 0 0) (a:=⟨f.ad,fun _ =>.slice none 0 0⟩) (us:=f.zs) (A :=.pc (nid f.d 0) 0) (u :=.pointer (some (f.ad.add 0))) (fun ν' h1 h2=>⟨?_,by show nid f.d 0=nid f.d 0;rfl⟩) rfl rfl (fun cs hcs=>?_) (by simp [Ent.at,Addr.add])) hv
      ·show Value.pointer (some f.ad) = .pointer (some ((ν'.adr _).a.add 0));rw [h2];simp [Addr.add]
      ·cases hcs;exact ⟨wm _,YF _⟩
    · refine ⟨?_,fun t' ht'=>?_⟩
      ·show upd So.heap _ _=upd S.heap _ _;rw [hR.eqx.heap]
      · show upd So.env _ _ t'=upd S.env _ _ t';by_cases e:t'=f.d
        ·subst e;rw [zr,zr]
        · rw [zt e,zt e];refine hR.eqx.env t' fun hD=>ht' ?_
          rcases hD with z | ⟨g,hg1,hg2⟩
          ·exact .inl z
          · refine .inr ⟨g,?_,hg2⟩;rcases Ue.1 hg1 with z | z
            ·grind
            · rcases U7.1 z with z | z
              all_goals grind
    · have hsub:∀ g,g∈F1++F2->g∈F1++f::F2:=fun g hg=>by
        rcases Ue.1 hg with z | z
        all_goals grind
      exact ⟨fun g hg=>hR.fok.op g (hsub g hg),fun g hg=>hR.fok.fl g (hsub g hg),fun g hg=>hR.fok.val g (hsub g hg),by grind⟩
theorem zd9 {next:List Nat->List Nat->List (Nat×Nat)->St C->Uc ρ}{K:XE C->St C->Uc ρ}{r:ρ}(hdr:xp (YW qo Γ P n) (tch Γ P) P n ops okB i true cl taken al S K next=some r) {F:List Fl}(hi:i∈F.map Fl.i) (hF:FOK C P ops n a F):False:=by
 obtain ⟨o,run,ho,hicl,hd,hgt,hg,h⟩:=YY hdr;obtain ⟨f,hf,rfl⟩:=UX.1 hi;obtain ⟨o',t,ti,zv,p1,p2,p3,p4,_⟩:=hF.op f hf;rw [ho] at p1;cases p1;have hrun:run=true:=by unfold x7 at hg;grind
 subst hrun;unfold yB at h;rw [US] at h;obtain ⟨_,h⟩:=zc h;rw [US,p2] at h;obtain ⟨h,_⟩:=zc h;rw [p3] at h;cases h
theorem Rl.done {F:List Fl}{So:St C}(hR:Rl P ops n w0 σ0 κ taken X F So S a w) (hF:F=[]) (hp:∀ t,¬ zmR ops taken X t):At n w0 σ0 κ S a w:=by
 subst hF;obtain ⟨st,σs,hh,L,b,Z,PV,hA,hinv,hfi⟩:=hR.at_;have:At n w0 σ0 κ So a w:=⟨L,b,Z,PV,hA,by have:=hh.home hinv;simpa [frF] using this,hfi⟩
 exact this.eqx (hR.eqx.weaken fun t ht=>by
  rcases ht with z | ⟨f,hf,_⟩
  all_goals grind)
theorem zrl (h:k≠i):(!Nat.beq k i)=true:=by
 cases e:Nat.beq k i with
 |true=>exact absurd (jz e) h
 |false=>rfl
theorem zvn (hgl:C.gl w0.w σ0) (hΓ:∀ s∈Γ,s.OK P):∀ (fuel:Nat) (ord:List (Nat×Bool)) {cl taken:List Nat}{al:List (Nat×Nat)}{S:St C}{K:XE C->St C->Uc ρ}{r:ρ},ZN (YW qo Γ P n) (tch Γ P) P n ops ord cl taken al S K=some r->
    ∀ {X:Array Bool} {a:Act} {w:World} {So:St C} {F:List Fl},Cfg P ops n cl taken al S X (F.map Fl.i)->X.toList.count false<=fuel->Rl P ops n w0 σ0 κ taken X F So S a w->wpAny P .any ops (Zj n w0 σ0 κ K r) fuel X a w:=by
  intro fuel;have noF:∀ {cl:List Nat} {F:List Fl} {taken al} {S:St C} {X:Array Bool} {a:Act},Cfg P ops n cl taken al S X (F.map Fl.i)->FOK C P ops n a F->(∀ i,i < ops.size->i∈cl)->F=[]:=by
    intro cl F taken al S X a hc hF hall;cases F with
    |nil=>rfl
    |cons f F=>
      obtain ⟨o,_,_,_,p1,_⟩:=hF.op f (by simp);exact absurd (hall f.i (Ui.1 p1).1) (hc.fon f.i (by simp)).2
  induction fuel with
  |zero=>
    intro ord
    induction ord with
    |nil=>
      intro cl taken al S K r h X a w So F hc hn hR;obtain ⟨hall,h⟩:=zc h;have hcl:∀ i,i < ops.size->i∈cl:=fun i hi=>zR.1 (UR.1 hall i (Da.2 hi))
      have hon:∀ i,i < ops.size->onX X i=true:=fun i hi=>by
        cases e:onX X i with
        |true=>rfl
        |false=>have:=zlH (by rw [hc.size];exact hi) e;omega
      refine ⟨?_,S,h,hR.done (noF hc hR.fok hcl) fun t ht=>zhn (fun i hi=>hon i (hc.inc i (hc.tcl i hi))) t ht⟩;refine List.eq_nil_iff_forall_not_mem.2 fun i hi=>?_
      obtain ⟨h1,o,h2,_⟩:=(YI hc.size).1 hi;grind
    |cons io ord ih=>
      intro cl taken al S K r h X a w So F hc hn hR;obtain ⟨i,early⟩:=io;have zero:∀ {okB:Bool} {i:Nat} {early:Bool} {next},xp (YW qo Γ P n) (tch Γ P) P n ops okB i early cl taken al S K next=some r->i∈F.map Fl.i:=by
        intro okB i early next h
        obtain ⟨o,run,ho,hi,hd,hgt,hg,h⟩:=YY h;by_cases hm:i∈F.map Fl.i
        ·exact hm
        exfalso;have hoff:onX X i=false:=by
          cases e:onX X i with
          |false=>rfl
          |true=>exact ((hc.sub i e).elim hi hm).elim
        have:=zlH (by rw [hc.size];grind) hoff;omega
      cases hb:Nat.blt i 4096 with
      |true=>
        cases hrd:XQ ops cl i with
        |true=>
          rw [zcG hb hrd] at h;cases early with
          |true=>exact (zd9 h (zero h) hR.fok).elim
          |false=>
            obtain ⟨S',So',F',al',h',hc',hR'⟩:=absorb hgl h (zero h) hc hR;grind
        |false=>rw [zb9 hb hrd] at h;grind
      |false=>
        rw [zcH hb] at h;cases hrd:XQ ops cl ((i - 4096) / 64) && XQ ops cl ((i - 4096) % 64) with
        |true=>
          rw [hrd,US] at h;have h:=(zal (zc h).2).1;obtain ⟨S',So',F',al',h',hc',hR'⟩:=absorb hgl h (zero h) hc hR;grind
        |false=>rw [hrd,Uh] at h;grind
  |succ fuel ihf=>
    intro ord;have setX:∀ {taken:List Nat} {X:Array Bool} {F:List Fl} {j:Nat} {t:Nat},j ∉ taken->flD ops taken X F t->flD ops taken (X.setIfInBounds j true) F t:=by
      intro taken X F j t hj ht;rcases ht with ⟨r',q',h1,h2,h3,h4⟩ | z
      ·refine .inl ⟨r',q',h1,?_,h3,h4⟩;rw [wJ (by grind)];exact h2
      ·exact .inr z
    have quiet:∀ (ord:List (Nat×Bool)) {cl taken:List Nat} {al:List (Nat×Nat)} {S:St C} {K:XE C->St C->Uc ρ} {r:ρ},ZN (YW qo Γ P n) (tch Γ P) P n ops ord cl taken al S K=some r->
        ∀ {X:Array Bool} {a:Act} {w:World} {So:St C} {F:List Fl},Cfg P ops n cl taken al S X (F.map Fl.i)->X.toList.count false<=fuel+1->Rl P ops n w0 σ0 κ taken X F So S a w->∀ {j:Nat},j∈Region.ready .any ops X->j∈cl->
          wpOp P ops (Zj n w0 σ0 κ K r) j (wpAny P .any ops (Zj n w0 σ0 κ K r) fuel (X.setIfInBounds j true)) a w:=by
      intro ord cl taken al S K r h X a w So F hc hn hR j hj hjc;obtain ⟨hoff,q,hq,hdeps⟩:=(YI hc.size).1 hj;have hjt:=hc.tk j hjc hoff;have hlt:j < X.size:=by rw [hc.size];grind
      obtain ⟨st,σs,hh,hA⟩:=hR.at_;have hjF:∀ f∈F,f.i≠j:=fun f hf e=>(hc.fon f.i (UX.2 ⟨f,hf,rfl⟩)).2 (e ▸ hjc)
      have base:=zrj (w0:=st) (σ0:=σs) (Q:=Zj n w0 σ0 κ K r) (K:=fun a' w'=>∃ S1,At n st σs κ S1 a' w'/\EqX (fun t=>flD ops taken X F t/\q.dst≠some t) S1 S) hh.gl hΓ hq hA hR.eqx (hc.qv j q hjt hoff hq) (fun t ht hp=>?_) (fun d e=>(hc.ds j q d hjt hoff hq e).1) fun S1 a' w' hA' hX'=>⟨S1,hA',hX'⟩
      · refine wpOp_mono ?_ (zho base);rintro a' w' ⟨⟨S1,hA',hX'⟩,ht⟩;refine ihf ord h (hc.hit hjc fun q' hq' k hk=>?_) (zgw hlt hoff hn) ⟨⟨st,σs,hh,hA'⟩,hX'.weaken fun t ht=>?_,hR.fok.next ht hjF⟩
        ·grind
        · obtain ⟨ht,hne⟩:=ht;rcases ht with ⟨r',q',h1,h2,h3,h4⟩ | z
          · refine .inl ⟨r',q',h1,?_,h3,h4⟩;rw [wJ]
            all_goals grind
          ·exact .inr z
      · rcases hp with ⟨r',q',h1,h2,h3,h4⟩ | ⟨f,hf,rfl⟩
        · obtain ⟨_,_,k3,k4⟩:=hc.ds r' q' t h1 h2 h3 h4;by_cases e:j=r'
          ·grind
          grind
        ·obtain ⟨o,_,_,_,_,_,_,_,_,_,_,_,_,_,p⟩:=hR.fok.op f hf;exact (hc.fon f.i (UX.2 ⟨f,hf,rfl⟩)).2 (WfL.deps hq ((p j q hq (hjF f hf).symm).1 ht) hc.wf hjc)
    have float:∀ (ord:List (Nat×Bool)) {cl taken:List Nat} {al:List (Nat×Nat)} {S:St C} {K:XE C->St C->Uc ρ} {r:ρ},ZN (YW qo Γ P n) (tch Γ P) P n ops ord cl taken al S K=some r->
        ∀ {X:Array Bool} {a:Act} {w:World} {So:St C} {F:List Fl},Cfg P ops n cl taken al S X (F.map Fl.i)->X.toList.count false<=fuel+1->Rl P ops n w0 σ0 κ taken X F So S a w->∀ {j:Nat},j∈Region.ready .any ops X->j ∉ cl->j∈Wh C P ops n->
          wpOp P ops (Zj n w0 σ0 κ K r) j (wpAny P .any ops (Zj n w0 σ0 κ K r) fuel (X.setIfInBounds j true)) a w:=by
      intro ord cl taken al S K r h X a w So F hc hn hR j hj hjc hjf;obtain ⟨hoff,q,hq,hdeps⟩:=(YI hc.size).1 hj;have hlt:j < X.size:=by rw [hc.size];grind
      obtain ⟨d,zs,hfo⟩:=zwA hjf;obtain ⟨o,t,ti,zv,p1,p2,p3,p4,p5,p6,p7,p8,p9,p10,p11⟩:=id hfo;rw [hq] at p1;cases p1;have hjF:∀ f∈F,f.i≠j:=fun f hf e=>by
        have:=(hc.fon f.i (UX.2 ⟨f,hf,rfl⟩)).1;grind
      have hjt:j ∉ taken:=fun hm=>hjc (hc.tcl j hm)
      obtain ⟨st,σs,hh,L,b,Z,PV,⟨ν,vs,ids,hA⟩,hinv,hfi⟩:=hR.at_;have base:wpOp P ops (Zj n w0 σ0 κ K r) j (fun a' w'=>∃ c:Addr,Inv st σs Z (.cell c zs::PV) w'/\Fits n ((d,.pointer (some (c.add 0)))::L) b a') a w:=by
        unfold wpOp;rw [hq];have hw:Region.wanted q (yielded ops a.tmps)=true:=by unfold Region.wanted;rw [p4]
        simp only [hw,jl];left;obtain ⟨dst,op,ty,ps,af,g⟩:=q;simp only at p2 p3 p4;subst p2 p3 p4;refine zjb (w0:=st) (σ0:=σs) (Z:=Z) (PV:=PV) (L:=L) (b:=b) (p:=some ()) (H:=fun _ L' Z' PV'=>∃ c:Addr,L'=(d,.pointer (some (c.add 0)))::L/\Z'=Z/\PV' = .cell c zs::PV) p9 p5 p6 p7 (fun c=>⟨c,rfl,rfl,rfl⟩) () rfl a w hinv hfi _ _ ?_;grind
      refine wpOp_mono ?_ (zho base);rintro a' w' ⟨⟨c,hi',hf'⟩,ht⟩
      have hi2:Inv w0 σ0 Z (PV++frF (⟨j,d,c,zs⟩::F)) w':=(hh.home hi').sub_own fun g k=>Sep.perm (by
        show (Priv.cell c zs::(PV++frF F)).Perm (PV++(Priv.cell c zs::frF F))
        exact List.perm_middle.symm) k
      obtain ⟨st',hh',hinv'⟩:=Home.make hgl hi2;refine ihf ord h (F:=⟨j,d,c,zs⟩::F) (So:=So.put d .und) (hc.flt hq hjc hdeps) (zgw hlt hoff hn) ⟨⟨st',Z,hh',_,b,Z,PV,⟨ν,vs,ids,hA.put (v :=.pointer (some (c.add 0))) trivial trivial⟩,hinv',hf'⟩,⟨hR.eqx.heap,fun t' ht'=>?_⟩,?_⟩
      · show upd So.env d _ t'=S.env t';by_cases e:t'=d
        ·exact absurd (.inr ⟨_,List.mem_cons_self ..,e.symm⟩) ht'
        · rw [zt e];refine hR.eqx.env t' fun hD=>ht' ?_
          rcases setX hjt hD with z | ⟨f,hf,hz⟩
          ·exact .inl z
          ·exact .inr ⟨f,UW _ hf,hz⟩
      · have hn:=hR.fok.next ht hjF;refine ⟨fun f hf=>?_,fun f hf=>?_,fun f hf=>?_,?_⟩
        · rcases U7.1 hf with z | z
          ·grind
          ·exact hn.op f z
        · rcases U7.1 hf with z | z
          ·grind
          ·exact hn.fl f z
        · rcases U7.1 hf with z | z
          ·subst z;show a'.tmps.getD d undef=_;rw [hf'.get];show (bif Nat.beq d d then _ else _)=_;simp [Addr.add]
          ·exact hn.val f z
        ·rw [Un];exact List.nodup_cons.2 ⟨fun hm=>by grind,hn.nd⟩
    have real:∀ {cl taken:List Nat} {al:List (Nat×Nat)} {S:St C} {K:XE C->St C->Uc ρ} {r:ρ} {okB:Bool} {j:Nat} {o:Oper} {run:Bool} {next:St C->List Nat->Uc ρ},ops[j]?=some o->j ∉ cl->(∀ k∈zz o,k∈cl)->x7 ops S o run->yB (YW qo Γ P n) (tch Γ P) P n ops okB cl taken (yT al (zz o)) K j false o run S next=some r->
        ∀ {X:Array Bool} {a:Act} {w:World} {So:St C} {F:List Fl},Cfg P ops n cl taken al S X (F.map Fl.i)->X.toList.count false<=fuel+1->Rl P ops n w0 σ0 κ taken X F So S a w->onX X j=false->(∀ k∈zz o,onX X k=true)->
        (∀ S',next S' taken=some r->∀ {X':Array Bool} {a':Act} {w':World} {So':St C} {F':List Fl},Cfg P ops n (j::cl) taken ((j,yT al (zz o))::al) S' X' (F'.map Fl.i)->X'.toList.count false<=fuel->Rl P ops n w0 σ0 κ taken X' F' So' S' a' w'->wpAny P .any ops (Zj n w0 σ0 κ K r) fuel X' a' w')->
          wpOp P ops (Zj n w0 σ0 κ K r) j (wpAny P .any ops (Zj n w0 σ0 κ K r) fuel (X.setIfInBounds j true)) a w:=by
      intro cl taken al S K r okB j o run next ho hjc hd hg h X a w So F hc hn hR hoff hdeps hnext
      have hlt:j < X.size:=by rw [hc.size];grind
      have hjFm:j ∉ F.map Fl.i:=fun hm=>by have:=(hc.fon j hm).1;grind
      have hjF:∀ f∈F,f.i≠j:=fun f hf e=>hjFm (UX.2 ⟨f,hf,e⟩)
      have hjt:j ∉ taken:=fun hm=>hjc (hc.tcl j hm)
      obtain ⟨st,σs,hh,hA⟩:=hR.at_;have hX:=hR.eqx;unfold yB at h;rw [Uh] at h;obtain ⟨_,h⟩:=zc h;have hanc:∀ r',onX X r'=false->Nat.testBit (yT al (zz o)) r'=false:=fun r' hr'=>by
        cases e:Nat.testBit (yT al (zz o)) r' with
        |false=>rfl
        |true=>
          have:=zdj hc.anc (fun k=>onX X k=true) (fun k q hk hon=>hc.closed k q hk hon) (fun k hk=>by rw [<- hc.size];grind) hdeps r' e;grind
      have hfree:∀ t∈looks ops o,¬ flD ops taken X F t:=fun t ht hD=>by
        rcases hD with ⟨r',q',h1,h2,h3,h4⟩ | ⟨f,hf,rfl⟩
        · obtain ⟨_,_,k3,k4⟩:=hc.ds r' q' t h1 h2 h3 h4;have hne:j≠r':=fun e=>hjc (e ▸ hc.tcl r' h1)
          grind
        ·obtain ⟨_,_,_,_,_,_,_,_,_,_,_,_,_,_,p⟩:=hR.fok.op f hf;exact (hc.fon f.i (UX.2 ⟨f,hf,rfl⟩)).2 (hd _ ((p j o ho (hjF f hf).symm).1 ht))
      have hvB:∀ t,flD ops taken X F t->t < vB:=fun t hD=>by
        rcases hD with ⟨r',q',h1,h2,h3,h4⟩ | ⟨f,hf,rfl⟩
        ·exact (hc.ds r' q' t h1 h2 h3 h4).2.1
        ·obtain ⟨_,_,_,_,_,_,_,_,_,_,_,_,_,p,_⟩:=hR.fok.op f hf;exact p
      have hgo:x7 ops So o run:=hg.congr fun t ht=>hX.env t (hfree t (WE ht))
      have keep:∀ {l p S'},Keeps S S' o.dst l p->(taken.all fun r=>Nat.testBit (yT al (zz o)) r || zfi ops S l p o.dst r)=true->∀ r' q',r'∈taken->onX X r'=false->ops[r']?=some q'->QV P ops S' q':=fun hk hall r' q' h1 h2 h3=>by
        have:=UR.1 hall r' h1;rw [hanc r' h2,De] at this;exact (hc.qv r' q' h1 h2 h3).keep hk h3 this
      have fin:∀ {S' S1 a' w'},next S' taken=some r->(∀ r' q',r'∈taken->onX X r'=false->ops[r']?=some q'->QV P ops S' q')->At n st σs κ S1 a' w'->EqX (flD ops taken X F) S1 S'->zdk ops j a a'->wpAny P .any ops (Zj n w0 σ0 κ K r) fuel (X.setIfInBounds j true) a' w':=fun h' hq' hA' hX' ht=>
        hnext _ h' (hc.sync ho hjc hjFm hd hdeps hq') (zgw hlt hoff hn) ⟨⟨st,σs,hh,hA'⟩,hX'.weaken fun t ht=>setX hjt ht,hR.fok.next ht hjF⟩
      have tk0:∀ {v:Value},zdk ops j a (a.put o.dst v):=fun {v} t ht=>vT (ht o ho)
      unfold wpOp;rw [ho];simp only [hgo.wanted hA];cases run with
      |false=>
        simp only [jg,jk];rw [Uh] at h;obtain ⟨hall,h⟩:=zc h;split at h
        · rename_i d hdst;obtain ⟨hdn,h⟩:=zc h;have tk1:zdk ops j a (a.put (some d) undef):=by grind
          rw [hdst];refine fin h (keep (l:=[]) (p:=fun _=>false) ?_ hall) (hA.skip hdn) ⟨hX.heap,fun t ht=>?_⟩ tk1
          ·rw [hdst];exact .put
          · show upd So.env d _ t=upd S.env d _ t;by_cases e:t=d
            ·subst e;rw [zr,zr]
            ·rw [zt e,zt e];exact hX.env t ht
        ·rename_i hdst;rw [hdst];exact fin h (keep (l:=[]) (p:=fun _=>false) (.refl S) hall) hA hX fun _ _=>rfl
      |true=>
        simp only [jl];left;rw [US] at h;split at h
        ·cases h
        · rename_i l p htc;obtain ⟨hall,h⟩:=zc h;rw [vw] at h;obtain ⟨out,hs,h⟩:=jy h;have hsx:=zyO (q:=qo) (Γ:=Γ) (P:=P) (n:=n) (o:=o) hX hvB (fun t ht=>hfree t (Dd _ (zbl ht)));rw [hs] at hsx;obtain ⟨out',hs',hrel⟩:=hsx.inv;obtain ⟨L,b,Z,PV,hAb,hinv,hf⟩:=hA;have base:o.wp P a w (fun a' w'=>∃ S' S1,out = .go S'/\EqX (flD ops taken X F) S1 S'/\At n st σs κ S1 a' w') (Zj n w0 σ0 κ K r):=by
            refine zjz hΓ n κ st σs hh.gl o So L b Z PV hAb _ hs' a w hinv hf _ _ ?_ ?_
            · intro S1 e L' Z' PV' a' w' hi' hf' hA';subst e;cases out with
              |pan v T=>grind
              |go S'=>exact ⟨S',S1,rfl,hrel,L',b,Z',PV',hA',hi',hf'⟩
            · intro v S1 e u Z' PV' w' hi' hA' hp;subst e;cases out with
              |go S'=>grind
              |pan v' S'=>
                obtain ⟨rfl,hrel⟩:=hrel;obtain ⟨ν,vs,ids,hA'⟩:=hA';have hi3:Inv w0 σ0 Z' PV' w':=(hh.home hi').sub_own fun g k=>by
                  obtain ⟨f1,f2,s1,s2,l1,l2,dd⟩:=k.split;exact s1.mono (.refl _) l1
                refine ⟨v,_,h,u,L,b,Z',PV',rfl,hp,⟨ν,vs,ids,hA'.mask (hrel.weaken fun t hD=>?_)⟩,hi3,hf⟩;rcases hD with ⟨r',q',h1,h2,h3,h4⟩ | ⟨f,hf,rfl⟩
                ·exact List.mem_filterMap.2 ⟨q',Uz (by rw [Array.getElem?_toList];exact h3),h4⟩
                ·obtain ⟨q',_,_,_,p1,p2,_⟩:=hR.fok.op f hf;exact List.mem_filterMap.2 ⟨q',Uz (by rw [Array.getElem?_toList];exact p1),p2⟩
          refine Oper.wp_mono ?_ (zlJ base);rintro a' w' ⟨⟨S',S1,rfl,hrel',hA'⟩,ht⟩;exact fin h (keep (zpW hs htc) hall) hA' hrel' fun t ht'=>ht t (ht' o ho)
    induction ord with
    |nil=>
      intro cl taken al S K r h X a w So F hc hn hR;have h0:=h;obtain ⟨hall,h⟩:=zc h;have hcl:∀ i,i < ops.size->i∈cl:=fun i hi=>zR.1 (UR.1 hall i (Da.2 hi))
      refine ⟨fun hr=>?_,fun j hj=>quiet [] h0 hc hn hR hj (hcl j ?_)⟩
      · have hon:∀ i∈taken,onX X i=true:=fun i hi=>by
          cases e:onX X i with
          |true=>rfl
          |false=>
            obtain ⟨k,q,k1,k2,k3,k4⟩:=zrk hc.wf hc.inc ⟨i,hc.tcl i hi,e⟩;have:k∈Region.ready .any ops X:=(YI hc.size).2 ⟨k2,q,k3,k4⟩;grind
        exact ⟨S,h,hR.done (noF hc hR.fok hcl) fun t ht=>zhn hon t ht⟩
      ·obtain ⟨_,q,hq,_⟩:=(YI hc.size).1 hj;grind
    |cons io ord ih=>
      intro cl taken al S K r h X a w So F hc hn hR;obtain ⟨i,early⟩:=io;have h0:=h;have some_ready:∀ {i:Nat} {o:Oper},ops[i]?=some o->i ∉ cl->i ∉ F.map Fl.i->(∀ k∈zz o,k∈cl)->Region.ready .any ops X=[]->False:=by
        intro i o ho hi hiF hd hr;have hoff:onX X i=false:=by
          cases e:onX X i with
          |false=>rfl
          |true=>exact ((hc.sub i e).elim hi hiF).elim
        by_cases hx:∃ k∈cl,onX X k=false
        ·obtain ⟨k,q,k1,k2,k3,k4⟩:=zrk hc.wf hc.inc hx;have:k∈Region.ready .any ops X:=(YI hc.size).2 ⟨k2,q,k3,k4⟩;grind
        · have:i∈Region.ready .any ops X:=(YI hc.size).2 ⟨hoff,o,ho,fun k hk=>by
            grind⟩
          grind
      have dn:∀ {i k:Nat},i ∉ F.map Fl.i->onX X k=true->k∈cl\/(k∈Wh C P ops n/\k≠i):=fun {i k} hiF hk=>by
        rcases hc.sub k hk with z | z
        ·exact .inl z
        ·obtain ⟨f,hf,e⟩:=UX.1 z;exact .inr ⟨e ▸ hR.fok.fl f hf,fun e'=>hiF (e' ▸ z)⟩
      cases hb:Nat.blt i 4096 with
      |false=>
        rw [zcH hb] at h;cases hrd:XQ ops cl ((i - 4096) / 64) && XQ ops cl ((i - 4096) % 64) with
        |false=>rw [hrd,Uh] at h;grind
        |true=>
        rw [hrd,US] at h;obtain ⟨hchk,h⟩:=zc h;generalize (i - 4096) / 64=i1 at h hchk;generalize (i - 4096) % 64=i2 at h hchk;obtain ⟨g1,g2⟩:=zal h;by_cases hF1:i1∈F.map Fl.i
        ·obtain ⟨S',So',F',al',h',hc',hR'⟩:=absorb hgl g1 hF1 hc hR;grind
        by_cases hF2:i2∈F.map Fl.i
        ·obtain ⟨S',So',F',al',h',hc',hR'⟩:=absorb hgl g2 hF2 hc hR;grind
        obtain ⟨o1,run1,ho1,hi1,hd1,_,hg1,s1⟩:=YY g1;obtain ⟨o2,run2,ho2,hi2,hd2,_,hg2,s2⟩:=YY g2;refine ⟨fun hr=>(some_ready ho1 hi1 hF1 hd1 hr).elim,fun j hj=>?_⟩;by_cases hjc:j∈cl
        ·grind
        · obtain ⟨hjoff,q,hq,hdeps⟩:=(YI hc.size).1 hj;have hji:(j=i1\/j=i2)\/j∈Wh C P ops n:=by
            have:=UR.1 hchk j (Da.2 (Ui.1 hq).1);rw [hq] at this;simp only [Uv,UQ] at this;rcases this with (z | z) | z | z | z
            ·exact .inl (.inl (jz z))
            ·exact .inl (.inr (jz z))
            ·exact .inr (zR.1 z)
            ·exact absurd (zR.1 z) hjc
            · exfalso
              have:zbm (zz q) (rmL i1 (rmL i2 (Wh C P ops n))++cl)=true:=UR.2 fun k hk=>zR.2 (by
                rcases dn hF1 (hdeps k hk) with z | ⟨z1,z2⟩
                ·grind
                · rcases dn hF2 (hdeps k hk) with z | ⟨z3,z4⟩
                  ·grind
                  ·exact Dd _ (UZ.2 ⟨UZ.2 ⟨z1,zrl z4⟩,zrl z2⟩))
              grind
          rcases hji with (e | e) | e
          ·subst e;grind
          ·subst e;grind
          grind
      |true=>
      cases hrd:XQ ops cl i with
      |false=>rw [zb9 hb hrd] at h;grind
      |true=>
      rw [zcG hb hrd] at h;cases early with
      |true=>
        have hiF:i ∉ F.map Fl.i:=fun hm=>zd9 h hm hR.fok
        obtain ⟨o,run,ho,hi,hd,hgt,hg,h⟩:=YY h;have hoff:onX X i=false:=by
          grind
        have hearly:Wg ops n cl taken i o=true:=by
          unfold yB at h;rw [US] at h;exact (zc h).1
        have hgl:∀ t∈XX ops o,o.dst≠some t:=fun t ht e=>by
          unfold Wg at hearly;rw [e] at hearly;simp only [g9,UQ] at hearly;rw [zR.2 (WE ht)] at hearly;grind
        obtain ⟨he,S',h,hv,hS,hh⟩:=zmS hg hgl h;refine ih h (hc.early ho hi hiF hd he hv hS hh) hn ⟨hR.at_,⟨hR.eqx.heap.trans hh.symm,fun t ht=>?_⟩,hR.fok⟩;have hne:o.dst≠some t:=fun e=>ht (.inl ⟨i,o,by simp,hoff,ho,e⟩)
        rw [hS t hne];refine hR.eqx.env t fun hD=>ht ?_
        rcases hD with ⟨r',q',h1,h2⟩ | z
        ·exact .inl ⟨r',q',UW _ h1,h2⟩
        ·exact .inr z
      |false=>
        by_cases hiF:i∈F.map Fl.i
        ·obtain ⟨S',So',F',al',h',hc',hR'⟩:=absorb hgl h hiF hc hR;grind
        obtain ⟨o,run,ho,hi,hd,hgt,hg,h⟩:=YY h;have honly:zmQ ops (Wh C P ops n) cl i=true:=by
          unfold yB at h;rw [Uh] at h;exact (zc h).1
        refine ⟨fun hr=>(some_ready ho hi hiF hd hr).elim,fun j hj=>?_⟩;by_cases hjc:j∈cl
        ·grind
        · obtain ⟨hjoff,q,hq,hdeps⟩:=(YI hc.size).1 hj;have hji:j=i\/j∈Wh C P ops n:=by
            have:=UR.1 honly j (Da.2 (Ui.1 hq).1);rw [hq] at this;simp only [Uv,UQ] at this;rcases this with z | z | z | z
            ·exact .inl (jz z)
            ·exact .inr (zR.1 z)
            ·exact absurd (zR.1 z) hjc
            · exfalso
              have:zbm (zz q) (rmL i (Wh C P ops n)++cl)=true:=UR.2 fun k hk=>zR.2 (by
                rcases dn hiF (hdeps k hk) with z | ⟨z1,z2⟩
                ·grind
                ·exact Dd _ (UZ.2 ⟨z1,zrl z2⟩))
              grind
          rcases hji with e | e
          ·grind
          grind
theorem zlh (hgl:C.gl w0.w σ0) (hΓ:∀ s∈Γ,s.OK P) {K:XE C->St C->Uc ρ}{r:ρ}(h:ZN (YW qo Γ P n) (tch Γ P) P n ops ord [] [] [] S K=some r) (hm:P.follows .mixedOrders=true) (hA:At n w0 σ0 κ S a w):(Code.region id ops true).wp P (Zj n w0 σ0 κ K r) a w:=by
 refine wp_region_any hm ?_;obtain ⟨L,b,Z,PV,hAb,hi,hf⟩:=hA;have h0:∀ i,onX (Array.replicate ops.size false) i=false:=fun i=>by
  unfold onX;rw [Ug];cases e:(Array.replicate ops.size false)[i]? with
  |none=>rfl
  |some v=>grind
 refine zvn hgl hΓ _ _ h (X:=Array.replicate ops.size false) (F:=[]) ⟨by simp,fun i hi=>(by grind),fun i hi=>(by cases hi),trivial,fun i hi=>(by cases hi),fun i hi=>(by cases hi),fun i hi=>(by cases hi),fun k q _ hk=>(by grind),fun r q hr=>(by cases hr),fun r q d hr=>(by cases hr),fun i m hm=>(by cases hm)⟩ ?_ ⟨⟨w0,σ0,⟨fun k=>by simpa [frF] using k,hgl⟩,L,b,Z,PV,hAb,hi.drew,hf⟩,⟨rfl,fun _ _=>rfl⟩,⟨fun f hf=>(by cases hf),fun f hf=>(by cases hf),fun f hf=>(by cases hf),List.nodup_nil⟩⟩;grind
end
end
end Go.Px
