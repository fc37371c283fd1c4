/- Part A5: PxM21 PxMK2 PxMQ PxM22 PxMO5 PxM23 PxM24 PxM2 -/
import Derived.Test.YtepembddmcabhaaGreatDoorA4
import Derived.Test.YtepembddmcabhaaGreatDoorA3
import Derived.Test.YtepembddmcabhaaGreatDoorB3
namespace Go.Px
set_option linter.unusedSectionVars false
variable [Dfr]
set_option linter.unusedVariables false
section
variable {κ:Kp}{C:Cod}{S:St C}{ν:Val}{vs:Nat→List Value}{ids:List Nat}{L:List (Nat×Value)}{b:Nat→Value}{σ:FS}{PV:List Priv}{P:Program}
variable {n:Nat}{w0:Start}{σ0:FS}
def lent:Op→Option (Operand×List Operand)
 | .call ⟨.value c,args,_⟩=>some (c,args.toList)
 |_=>none
def XY (S:St C) (x:Operand):Option (Out C):=match S.op x with
 | .ifc t A=>chk (A.base || A.flat) (some (.pan (.ifc t A) S))
 |_=>none
structure Opts where
 fs:Bool
def xL (q:Opts) (P:Program) (S:St C) (d:Nat) (ty t:TypeId) (x:Operand) (lo hi mx:Option Operand):Option (Out C):=match lo,mx with
 |none,none=>bif q.fs then yJ P S d ty t x none hi else YX P S d t x hi none
 |none,mx=>YX P S d t x hi mx
 |some lo,none=>yJ P S d ty t x (some lo) hi
 |_,_=>none
def XZ {D:Nat→Type}(args:List (AV D)):List (AV D)→List (AV D)
 |[.tup ws]=>ws++args
 |caps=>args++caps
def Wu (args:List Value):List Value→List Value
 |[.tuple a]=>a.toList++args
 |vs=>args++vs
omit [Dfr] in
theorem zjN {σ:FS}{ν:Val}{p:Nat→Prop}{f:Nat}(hone:∀ i,(ν.hdr i).oneCell'=true) {args vals:List Value}{As caps:List (AV C.D)}(hc:zce caps=true) (ha:VRs C σ ν args As) (hr:VRs C σ ν vals caps) (hoa:AV.oks p As) (hoc:AV.oks p caps) :
    VRs C σ ν (Wu args vals) (XZ As caps)∧AV.oks p (XZ As caps)∧∃ fi ca:Array Value,zam f vals = .func (.func f) fi ca∧(fi++args.toArray)++ca=(Wu args vals).toArray:=by
  have plain:(∀ v∈vals,v.oneCell'=true)∨vals.length≠1→XZ As caps=As++caps→VRs C σ ν (Wu args vals) (XZ As caps)∧AV.oks p (XZ As caps)∧∃ fi ca:Array Value,zam f vals = .func (.func f) fi ca∧(fi++args.toArray)++ca=(Wu args vals).toArray:=by
    intro h1 h2
    have e1:Wu args vals=args++vals:=by
      unfold Wu
      split
      · rename_i a
        rcases h1 with h1 | h1
        · have:=h1 (.tuple a) (by simp);cases this
        · exact absurd rfl h1
      · rfl
    have e2:zam f vals = .func (.func f) #[] vals.toArray:=by
      unfold zam
      split
      · rename_i a
        rcases h1 with h1 | h1
        · have:=h1 (.tuple a) (by simp);cases this
        · exact absurd rfl h1
      · rfl
    rw [e1,h2]
    exact ⟨ha.append hr,AV.oks_append hoa hoc, #[],vals.toArray,e2,by simp⟩
  match vals,caps,hr with
  |[],[],hr=>exact plain (.inl fun v hv=>by cases hv) rfl
  |[v],[A],hr=>
    by_cases ht:∃ ws,A = .tup ws
    · obtain ⟨ws,rfl⟩:=ht
      obtain ⟨us,e,h2⟩:=hr.1
      subst e
      exact ⟨h2.append ha,AV.oks_append hoc.1 hoa,us.toArray, #[],rfl,by simp [Wu]⟩
    · have hl:A.leaf=true:=by
        unfold zce at hc
        split at hc
        · rename_i e;cases e;exact absurd ⟨_,rfl⟩ ht
        · rename_i e;cases e;exact hc
        · rename_i h1;exact absurd rfl (h1 A)
      refine plain (.inl fun u hu=>by rw [List.mem_singleton.1 hu];exact hr.1.one hl hone) ?_
      unfold XZ
      split
      · rename_i e;cases e;exact absurd ⟨_,rfl⟩ ht
      · rfl
  |u::v::l,A::B::cs,hr=>exact plain (.inr (by simp)) (by cases A <;> rfl)
  |[v],A::B::cs,hr=>exact hr.2.elim
  |u::v::l,[A],hr=>exact hr.2.elim
def xM (q:Opts) (Γ:List (Spec C)) (P:Program) (d:Nat) (ty:TypeId) (S:St C):Op→Option (Out C)
 | .alloc t=>XV P S d t
 | .box t x=>chk (xx (S.op x)) (bif C.bz t then zmK S d t (zt (S.op x)) else za7 S d (zt (S.op x)))
 | .makeSlice t x y=>WC P S d t x y
 | .buildSlice t m parts=>xK P S d t m parts.toList
 | .slice t x lo hi mx=>match yH P S ty (.slice t x lo hi mx) with
  |some A=>some (.go (S.put d A))
  |none=>xL q P S d ty t x lo hi mx
 | .convert t t' x=>match yH P S ty (.convert t t' x) with
  |some A=>some (.go (S.put d A))
  |none=>match yI P S d t t' x with
   |some o=>some o
   |none=>Wa P S d t t' x
 | .call ⟨.value c,args,_⟩=>match S.op c with
  | .clo f caps=>chk (zce caps) (Vt Γ S d f (XZ (args.toList.map S.op) caps))
  |_=>none
 | .call ⟨.builtin .append,args,ts⟩=>match args.toList,ts.toList with
  |[x,y],[t,t']=>chk (Nat.beq t t') (Yu P S d t x y)
  |_,_=>none
 | .panic x=>XY S x
 |op=>(yH P S ty op).map fun A =>.go (S.put d A)
def Vu (q:Opts) (Γ:List (Spec C)) (P:Program) (n:Nat) (o:Oper) (S:St C):Option (Out C):=match o.dst with
 |some d=>chk (Nat.blt d n) (xM q Γ P d o.type S o.op)
 |none=>match o.op with
  | .store t x y=>yw P S t x y
  | .panic x=>XY S x
  |_=>none
theorem zhM (h:AbsL κ S ν vs ids L b σ PV) {x:Operand}{dst:Option Nat}{ty:TypeId}{ps:String}{af:Array Edge}{g:Option (Nat×Bool)} :
    OpA κ P n w0 σ0 ⟨dst,.panic x,ty,ps,af,g⟩ (XY S x) L b σ PV:=by
  intro out hX a w hi hf K Q hK hP
  have hx:=h.op x
  unfold XY at hX
  split at hX
  · rename_i t A e
    obtain ⟨hb,hX⟩:=zb hX
    cases hX
    rw [e] at hx
    have hk:∀ p:Nat→Prop,(AV.ifc t A).ok p:=fun p=>by
      rcases (Bool.or_eq_true _ _).mp hb with hb | hb
      · exact Vg (A :=.ifc t A) hb
      · exact vb (A :=.ifc t A) hb
    obtain ⟨u,e2,e3⟩:=hx
    have hrun:(execOp a.eval ⟨dst,.panic x,ty,ps,af,g⟩).run P w = .halt (.panic (.iface t u)) w:=by
      rw [hf.eval]
      show (execOp (opv L b) ⟨dst,.panic x,ty,ps,af,g⟩).run P w=_
      simp only [execOp,e2]
      rfl
    unfold Oper.wp
    rw [hrun]
    refine hP _ _ rfl (.iface t u) σ PV w hi ⟨ν,vs,ids,h⟩ ⟨hk _,fun ν' _=>VR.congr (ν:=ν) (p:=fun _=>False) (fun _ h=>h.elim) (hk _) ⟨u,rfl,e3⟩⟩
  · cases hX
theorem zrk (hgl:C.gl w0.w σ0) {Γ:List (Spec C)}(hΓ:∀ s∈Γ,s.OK P) (h:AbsL κ S ν vs ids L b σ PV) {c:Operand}{args:Array Operand}{ts:Array TypeId}{d:Nat}(hn:Nat.blt d n=true) {ty:TypeId}{ps:String}{af:Array Edge}{g:Option (Nat×Bool)}{f:FuncId}{caps:List (AV C.D)}(hc:S.op c = .clo f caps) :
    OpA κ P n w0 σ0 ⟨some d,.call ⟨.value c,args,ts⟩,ty,ps,af,g⟩ (chk (zce caps) (Vt Γ S d f (XZ (args.toList.map S.op) caps))) L b σ PV:=by
  intro out hX a w hi hf K Q hK hP
  obtain ⟨hcaps,hX⟩:=zb hX
  have hcv:=h.op c
  have hco:=h.oks_op c
  rw [hc] at hcv hco
  obtain ⟨cvs,e1,e2⟩:=hcv
  have hla:AV.oks (fun id=>(S.heap id).isSome=true) (args.toList.map S.op):=AV.oks_iff.2 fun A hA=>by
    obtain ⟨x,_,rfl⟩:=List.mem_map.1 hA
    exact h.oks_op x
  obtain ⟨hr,hl,fi,ca,e3,e4⟩:=zjN (f:=f) h.one hcaps (zcQ h.toAbs args.toList) e2 hla hco
  obtain ⟨fn,hfn,hnm,hb,hcalls⟩:=zmS hgl h hr hl hi hΓ hX
  have hrun:(execOp a.eval ⟨some d,.call ⟨.value c,args,ts⟩,ty,ps,af,g⟩).run P w = .ok (.enter f (Wu (args.toList.map (opv L b)) cvs).toArray) w:=by
    have ha':args.map (opv L b)=(args.toList.map (opv L b)).toArray:=by apply Array.toList_inj.1;simp
    rw [hf.eval,← e4]
    simp only [execOp,resolve,e1,e3,ha',Deferred.ofValue,Sem.run_bind,Sem.run_pure,Result.andThen_ok,invoke]
    unfold callFunc
    simp only [Sem.run_bind,run_program,Result.andThen_ok,hfn,hnm,hb,Bool.false_eq_true,if_false,Sem.run_pure]
  unfold Oper.wp
  rw [hrun,Oper.upon_enter]
  refine Calls.mono hcalls ?_
  intro e w' hq
  cases e with
  |returned v=>
    obtain ⟨S',σ',PV',rfl,hi',hA⟩:=hq
    exact hK _ rfl _ σ' PV' _ w' hi' (hf.put (by simpa [Nat.blt_eq] using hn) v) hA
  |panicked chain=>
    obtain ⟨A,S',u,σ',PV',rfl,rfl,hi',hp,hA⟩:=hq
    exact hP _ _ rfl _ σ' PV' w' hi' hA hp
  |outgrown=>exact hq.elim
theorem zi5 (h:AbsL κ S ν vs ids L b σ PV) {op:Op}{d:Nat}(hn:Nat.blt d n=true) {ty:TypeId}{ps:String}{af:Array Edge}{g:Option (Nat×Bool)} :
    OpA κ P n w0 σ0 ⟨some d,op,ty,ps,af,g⟩ ((yH P S ty op).map fun A =>.go (S.put d A)) L b σ PV:=by
  intro out hX
  obtain ⟨A,he,rfl⟩:=Option.map_eq_some_iff.1 hX
  exact VU h hn he (VV h he) _ rfl
theorem zrl {q:Opts}{Γ:List (Spec C)}(hΓ:∀ s∈Γ,s.OK P) (n:Nat) (κ:Kp):zhH P n κ (Vu q Γ P n):=by
 intro w0 σ0 hgl o S L b σ PV hA out hX
 obtain ⟨ν,vs,ids,h⟩:=hA
 obtain ⟨dst,op,ty,ps,af,g⟩:=o
 cases dst with
 |none=>
  unfold Vu at hX
  simp only at hX
  split at hX
  ·exact zjG h _ hX
  ·exact zhM h _ hX
  ·cases hX
 |some d=>
  obtain ⟨hn,hX⟩:=zb hX
  have hX:xM q Γ P d ty S op=some out:=hX
  unfold xM at hX
  split at hX
  ·exact zjF h hn _ hX
  ·obtain ⟨hs,hX⟩:=zb hX
   rw [Bool.cond_eq_ite] at hX
   split at hX
   ·exact zmL h hn hs _ hX
   ·exact zmF h hn hs _ hX
  ·exact zmI h hn _ hX
  ·exact ziE h hn _ hX
  ·split at hX
   ·rename_i A he
    exact VU h hn he (VV h he) _ hX
   ·unfold xL at hX
    split at hX
    ·cases hq:q.fs with
     |true=>rw [hq] at hX;exact zdx h hn _ hX
     |false=>rw [hq] at hX;exact zes h hn _ hX
    ·exact zes h hn _ hX
    ·exact zdx h hn _ hX
    ·cases hX
  ·split at hX
   ·rename_i A he
    exact VU h hn he (VV h he) _ hX
   ·split at hX
    ·rename_i o e;cases hX;exact zjI h hn _ e
    ·exact znK h hn _ hX
  ·split at hX
   ·rename_i f caps hc;exact zrk hgl hΓ h hn hc _ hX
   ·cases hX
  ·split at hX
   ·rename_i args ts x y t t' e1 e2
    obtain ⟨ht,hX2⟩:=zb hX
    have:=Nat.eq_of_beq_eq_true ht
    subst this
    rw [zcf e1,zcf e2]
    exact zdw h hn _ hX2
   ·cases hX
  ·exact zhM h _ hX
  ·exact zi5 h hn _ hX
def zpM (n:Nat):Option Nat→Bool
 |some d=>Nat.blt d n
 |none=>true
def stp (q:Opts) (Γ:List (Spec C)) (P:Program) (n:Nat) (o:Oper) (S:St C):Option (Out C):=match xW P S o.dst o.op with
 |some k=>chk (zpM n o.dst) (WP P S k)
 |none=>Vu q Γ P n o S
theorem zhN {q:Opts}{Γ:List (Spec C)}(hΓ:∀ s∈Γ,s.OK P) (n:Nat) (κ:Kp):zhH P n κ (stp q Γ P n):=by
 intro w0 σ0 hgl o S L b σ PV hA out hX
 unfold stp at hX
 split at hX
 ·rename_i X hN
  obtain ⟨hd,hX2⟩:=zb hX
  obtain ⟨ν,vs,ids,h⟩:=hA
  obtain ⟨dst,op,ty,ps,af,g⟩:=o
  exact zr6 h (fun d e=>by subst e;exact hd) hN out hX2
 ·exact zrl hΓ n κ w0 σ0 hgl o S L b σ PV hA out hX
end
omit [Dfr] in
theorem Xb.loopO:Xb (fun {s β} f x=>loopO f x):=fun f x y h=>zb2.1 h
omit [Dfr] in
theorem Xb.iter (k:Nat):Xb (fun {s β} f x=>Y7 f k x):=fun f x y h=>⟨k,h⟩
end Go.Px
namespace Go.Px
set_option linter.unusedSectionVars false
variable [Dfr]
set_option linter.unusedVariables false
section
variable {C:Cod}{S:St C}{P:Program}{ρ:Type}{Γ:List (Spec C)}
omit [Dfr] in
theorem zew {f:XE C→St C→Option (Out C)}{K:Out C→Option ρ}{k:XK}{g:Sig}{y:XK.ty C k g}:(YD k g y f).bind K=YD k g y fun e Sr=>(f e Sr).bind K:=by
 cases k <;> rfl
omit [Dfr] in
theorem wm {f:XE C→St C→Option (Out C)}{K:Out C→Option ρ}:∀ {outs:List (XK×Sig)}{r:zk C outs},(zO outs r f).bind K=zO outs r fun e Sr=>(f e Sr).bind K
 |[],r=>r.elim
 |[o],r=>zew
 |o::o2::l,r=>by
  cases r with
  |inl a=>exact zew (k:=o.1) (g:=o.2) (y:=a)
  |inr y=>exact wm (outs:=o2::l) (r:=y)
def Vv (s:Spec C) (d:Nat) (S:St C) (x:s.ins.ty C) (K:Out C→Option ρ):Option ρ:=
 chk s.ins.es.isEmpty ((s.F x).bind fun r=>zO s.outs r fun e Sr=>(zaN S d s.nr e Sr).bind K)
def zbh {α:Type}:(outs:List (XK×Sig))→zk C outs→(XE C→St C→List ESh→α)→α
 |[],y,_=>y.elim
 |[o],y,K=>YD o.1 o.2 y fun e S=>K e S o.2.es
 |o::o2::r,y,K=>match (y:XK.ty C o.1 o.2⊕zk C (o2::r)) with
  | .inl a=>YD o.1 o.2 a fun e S=>K e S o.2.es
  | .inr y=>zbh (o2::r) y K
omit [Dfr] in
theorem zao {α:Type}{K:XE C→St C→List ESh→α}:∀ {outs:List (XK×Sig)}{r:zk C outs},zbh outs r K=zO outs r fun e S=>K e S (yf outs r)
 |[],r=>r.elim
 |[o],r=>rfl
 |o::o2::l,r=>by
  cases r with
  |inl a=>rfl
  |inr y=>exact zao (outs:=o2::l) (r:=y)
omit [Dfr] in
theorem zex {α:Type}{k:XK}{g:Sig}{y:XK.ty C k g}:YD k g y (fun _ _=>(none:Option α))=none:=by cases k <;> rfl
omit [Dfr] in
theorem zcp {α:Type}:∀ {outs:List (XK×Sig)}{r:zk C outs},zO outs r (fun _ _=>(none:Option α))=none
 |[],r=>r.elim
 |[o],r=>zex (k:=o.1) (g:=o.2) (y:=r)
 |o::o2::l,r=>by
  cases r with
  |inl a=>exact zex (k:=o.1) (g:=o.2) (y:=a)
  |inr y=>exact zcp (outs:=o2::l) (r:=y)
def zbi (s:Spec C) (d:Nat) (S2:St C) (bl:Bl) (x:s.ins.ty C) (K:Out C→Option ρ):Option ρ:=
 (s.F x).bind fun r=>zbh s.outs r fun e Sr es=>chk (Nat.ble s.ins.es.length es.length) ((WG S2 d s.nr bl es e Sr).bind K)
omit [Dfr] in
theorem zdC {s:Spec C}{d:Nat}{S2:St C}{bl:Bl}{x:s.ins.ty C}{K:Out C→Option ρ}:zbi s d S2 bl x K=(Xe s d S2 bl x).bind K:=by
 unfold zbi Xe
 rw [Option.bind_assoc]
 congr 1
 funext r
 rw [zao,zq,wm]
 cases Nat.ble s.ins.es.length (yf s.outs r).length with
 |true=>rfl
 |false=>exact zcp
def zbj (s:Spec C) (d:Nat) (S:St C) (x:s.ins.ty C) (K:Out C→Option ρ):Option ρ:=
 (s.F x).bind fun r=>zbh s.outs r fun e Sr es=>chk (zpL e) ((WG S d s.nr [] es e Sr).bind K)
omit [Dfr] in
theorem zdD {s:Spec C}{d:Nat}{x:s.ins.ty C}{K:Out C→Option ρ}:zbj s d S x K=(yK s d S x).bind K:=by
 unfold zbj yK
 rw [Option.bind_assoc]
 congr 1
 funext r
 rw [zao,wm]
 simp only [zq]
def zbk (Γ:List (Spec C)) (S:St C) (d f:Nat) (As:List (AV C.D)) (K:Out C→Option ρ):Option ρ:=match Γ with
  |[]=>none
  |s :: Γ=>bif Nat.beq s.f f && (s.view || s.viewO) then WH S As fun Bs=>chk (okX As Bs) (Wb s.ins.ts (zeu S As Bs) fun T=>match xp s.ins T As.length with
     |some (_,_,x)=>bif s.view then Vv s d S x K else zbj s d S x K
     |none=>none) else zbk Γ S d f As K
omit [Dfr] in
theorem ziI {s:Spec C}{d:Nat}{x:s.ins.ty C}{K:Out C→Option ρ}:Vv s d S x K=(Ya s d S x).bind K:=by
 simp only [Vv,Ya,zq,Option.bind_assoc,wm]
omit [Dfr] in
theorem zdE {d f:Nat}{As:List (AV C.D)}{K:Out C→Option ρ}:∀ {Γ:List (Spec C)},zbk Γ S d f As K=(Xf Γ S d f As).bind K
 |[]=>rfl
 |s::Γ=>by
  unfold zbk Xf
  cases (Nat.beq s.f f && (s.view || s.viewO)) with
  |false=>exact zdE
  |true=>
   simp only [cond_true]
   rw [zbe]
   congr 1;funext Bs
   rw [zq,zbf]
   congr 1;congr 1;funext T
   cases xp s.ins T As.length with
   |none=>rfl
   |some q=>
    obtain ⟨S2,bl,x⟩:=q
    simp only
    cases s.view with
    |true=>exact ziI
    |false=>exact zdD
def Vw (Γ0 Γ:List (Spec C)) (S:St C) (d f:Nat) (As:List (AV C.D)) (K:Out C→Option ρ):Option ρ:=match Γ with
 |[]=>zbk Γ0 S d f As K
 |s::Γ=>bif Nat.beq s.f f then (match xA s.ins S As with
  |some (S2,bl,x)=>bif s.view then Vv s d S x K else bif s.viewO then zbj s d S x K else zbi s d S2 bl x K
  |none=>Vw Γ0 Γ S d f As K) else Vw Γ0 Γ S d f As K
omit [Dfr] in
theorem zap {Γ0:List (Spec C)}{d f:Nat}{As:List (AV C.D)}{K:Out C→Option ρ}:∀ {Γ:List (Spec C)},Vw Γ0 Γ S d f As K=(xq Γ0 Γ S d f As).bind K
 |[]=>zdE
 |s::Γ=>by
  unfold Vw xq
  cases Nat.beq s.f f with
  |false=>exact zap
  |true=>
   simp only [cond_true]
   cases xA s.ins S As with
   |none=>exact zap
   |some q=>
    obtain ⟨S2,bl,x⟩:=q
    simp only
    cases s.view with
    |true=>
     simp only [cond_true,Vv,Ya,zq,Option.bind_assoc,wm]
    |false=>
     rw [cond_false,cond_false]
     cases s.viewO with
     |true=>simp only [cond_true,zdD]
     |false=>simp only [cond_false,zdC]
def zi6 (Γ:List (Spec C)) (S:St C) (d f:Nat) (As:List (AV C.D)) (K:Out C→Option ρ):Option ρ:=Vw Γ Γ S d f As K
omit [Dfr] in
theorem zjO {d f:Nat}{As:List (AV C.D)}{K:Out C→Option ρ}:zi6 Γ S d f As K=(Vt Γ S d f As).bind K:=zap
def eff:Op→Bool
 | .slice _ _ _ _ _=>true
 | .convert _ _ _=>true
 |op=> !rdE op
where
 rdE:Op→Bool
  | .alloc _=>false
  | .box _ _=>false
  | .makeSlice _ _ _=>false
  | .buildSlice _ _ _=>false
  | .call ⟨.value _,_,_⟩=>false
  | .call ⟨.builtin .append,_,_⟩=>false
  | .panic _=>false
  |_=>true
def VX (P:Program) (S:St C) (d:Nat) (t:TypeId) (x y:Operand) (K:Out C→Option ρ):Option ρ:=
  match P.underlying t with
  |some (.slice e)=>(match P.info? e with
    |some ti=>(match ti.zero with
      |some zv=>chk (Nat.beq ti.size (C.size e) && (Nat.blt 0 (C.size e) && (Nat.beq zv.cells.size (C.size e) && isNone (S.heap (nid d 0)))))
          (match S.op x with
          | .row id=>(match S.heap id with
            |some (.row T s)=>chk (Nat.beq T e) ((vJ S T (S.op y)).bind fun ts=>(zA ti.bytes s ts).bind fun s'=>
                K (.go {env:=upd (S.sub id .und).env d (.row (nid d 0)),heap:=upd (S.sub id .und).heap (nid d 0) (some (.row T s'))}))
            |_=>none)
          | .nils=>(vJ S e (S.op y)).bind fun ts=>(zA ti.bytes ⟨[],false⟩ ts).bind fun s'=>
                K (.go {env:=upd S.env d (.row (nid d 0)),heap:=upd S.heap (nid d 0) (some (.row e s'))})
          |_=>none)
      |none=>none)
    |none=>none)
  |_=>none
omit [Dfr] in
theorem zcq {d:Nat}{t:TypeId}{x y:Operand}{K:Out C→Option ρ}:VX P S d t x y K=(Yu P S d t x y).bind K:=by
 unfold VX Yu
 cases P.underlying t with
 |none=>rfl
 |some td=>
  cases td <;> first | rfl | skip
  rename_i e
  simp only
  cases P.info? e with
  |none=>rfl
  |some ti=>
   simp only
   cases ti.zero with
   |none=>rfl
   |some zv=>
    simp only [zq]
    congr 1
    cases S.op x <;> first | rfl | skip
    ·rename_i id
     simp only
     cases S.heap id with
     |none=>rfl
     |some en=>
      cases en with
      |cell cs=>rfl
      |row T s=>simp only [zq,Option.bind_assoc,Option.bind_some]
      |obj q T b s=>rfl
      |orow T s g=>rfl
    ·simp only [Option.bind_assoc,Option.bind_some]
def zgs {D:Nat→Type}:AV D→Bool
 | .str _=>true
 | .sl _ _ _=>true
 | .nx _ _ _ _=>true
 |_=>false
omit [Dfr] in
theorem zgn {q:Opts}{d:Nat}{ty t:TypeId}{x:Operand}{lo hi:Option Operand}(h:zgs (S.op x)=true):xL q P S d ty t x lo hi none=none:=by
 have h1:∀ lo,yJ P S d ty t x lo hi=none:=by
  intro lo
  unfold yJ
  cases hx:S.op x <;> rw [hx] at h <;> first | (cases h;done) | rfl
 have h2:YX P S d t x hi none=none:=by
  unfold YX
  cases P.underlying t with
  |none=>rfl
  |some td=>
   cases td <;> first | rfl | skip
   rename_i e
   simp only
   cases P.info? e with
   |none=>rfl
   |some ti=>
    simp only
    cases hx:S.op x <;> rw [hx] at h <;> first | (cases h;done) | rfl | skip
    rename_i T s c
    show chk (Nat.beq ti.size (C.size T) && isNone (S.heap (nid d 0))) _=none
    cases hi <;> cases (Nat.beq ti.size (C.size T) && isNone (S.heap (nid d 0))) <;> rfl
 unfold xL
 cases lo with
 |none=>simp only;cases q.fs <;> simp [h1,h2]
 |some lo=>exact h1 _
omit [Dfr] in
theorem u8K {α β:Type}{o:Option TypeDesc}{a:Option α}{b:Option β}{K:β→Option α}(h:a=b.bind K) :
    (match o with | some (.int .u8)=>a | _=>none)=Option.bind (match o with | some (.int .u8)=>b | _=>none) K:=by
  cases o with
  |none=>rfl
  |some td=>
    cases td <;> first | rfl | skip
    rename_i k
    cases k <;> first | rfl | exact h
def zdX (P:Program) (S:St C) (d:Nat) (t t':TypeId) (s:ByteArray) (K:Out C→Option ρ):Option ρ:=match P.underlying t,P.underlying t' with
 |some _,some (.slice e)=>(match P.underlying e with
  |some (.int .u8)=>chk (Nat.beq (C.size e) 1 && decide (s.size≤140737488355328)) ((zjH C e s.data.toList).bind fun l=>K (.go (S.put d (.sl e ⟨l,true⟩ false))))
  |_=>none)
 |_,_=>none
def zhO (P:Program) (S:St C) (d:Nat) (t t':TypeId) (A:AV C.D) (K:Out C→Option ρ):Option ρ:=match P.underlying t,P.underlying t' with
 |some (.slice e),some .string=>(match P.underlying e with
  |some (.int .u8)=>chk (Nat.beq (C.size e) 1) ((vJ S e A).bind fun ts=>(zet C e ts).bind fun l=>K (.go (S.put d (.str (zcj l)))))
  |_=>none)
 |_,_=>none
def zfn (P:Program) (S:St C) (d:Nat) (t t':TypeId) (A:AV C.D) (K:Out C→Option ρ):Option ρ:=match A with
 | .str s=>zdX P S d t t' s K
 |A=>zhO P S d t t' A K
omit [Dfr] in
theorem zjP {d:Nat}{t t':TypeId}{x:Operand}{K:Out C→Option ρ}:zfn P S d t t' (S.op x) K=(match yI P S d t t' x with | some o=>some o | none=>Wa P S d t t' x).bind K:=by
 have hstr:zhO P S d t t' (S.op x) K=(Wa P S d t t' x).bind K:=by
  unfold zhO Wa
  cases P.underlying t with
  |none=>rfl
  |some td=>
   cases td <;> first | rfl | skip
   cases P.underlying t' with
   |none=>rfl
   |some td'=>
    cases td' <;> first | rfl | skip
    simp only
    exact u8K (by simp only [zq,Option.bind_assoc,Option.bind_some])
 unfold zfn
 split
 ·rename_i s e
  have h0:Wa P S d t t' x=none:=by
   unfold Wa
   rw [e]
   split
   ·split
    ·simp only [vJ,Option.bind_none];cases Nat.beq _ 1 <;> rfl
    ·rfl
   ·rfl
  have h1:zdX P S d t t' s K=(yI P S d t t' x).bind K:=by
   unfold zdX yI
   rw [e]
   cases P.underlying t with
   |none=>rfl
   |some td=>
    cases P.underlying t' with
    |none=>rfl
    |some td'=>
     cases td' <;> first | rfl | skip
     simp only
     exact u8K (by simp only [zq,Option.bind_assoc,Option.bind_some])
  rw [h1,h0]
  cases yI P S d t t' x <;> rfl
 ·rename_i hne
  rw [hstr]
  have:yI P S d t t' x=none:=by
   unfold yI
   split
   ·rename_i e;exact absurd e (hne _)
   ·rfl
  rw [this]
def zjQ (q:Opts) {α:Type}:Option α→Bool
 |none=>q.fs
 |some _=>true
def zcr (P:Program) (S:St C) (d:Nat) (ty t:TypeId) (A:AV C.D) (x:Operand) (lo hi:Option Operand) (K:Out C→Option ρ):Option ρ:=match A with
 | .row id=>zcT P (S.frz1 id) ty (.slice t x lo hi none) fun A=>K (.go ((S.frz1 id).put d A))
 |_=>none
omit [Dfr] in
theorem zhP {q:Opts}{d:Nat}{ty t:TypeId}{x:Operand}{lo hi:Option Operand}{K:Out C→Option ρ}(hl:zjQ q lo=true) (hf:zgs (S.op x)=false) :
    zcr P S d ty t (S.op x) x lo hi K=(xM q Γ P d ty S (.slice t x lo hi none)).bind K:=by
  have he:yH P S ty (.slice t x lo hi none)=none:=by
    show Xa P S t (S.op x) lo hi=none
    revert hf
    unfold Xa
    cases S.op x <;> intro hf <;> first | (cases hf;done) | skip
    all_goals (split <;> first | rfl | simp_all)
  have ho:xL q P S d ty t x lo hi none=yJ P S d ty t x lo hi:=by
    unfold xL
    cases lo with
    |none=>simp only;rw [show q.fs=true from hl];rfl
    |some lo=>rfl
  unfold xM
  simp only
  rw [he]
  simp only
  rw [ho]
  unfold zcr yJ
  cases S.op x <;> first | rfl | skip
  simp only
  rw [zba,Option.bind_assoc]
  rfl
def zfo (P:Program) (S:St C) (d:Nat) (t:TypeId) (x h m:Operand) (K:Out C→Option ρ):Option ρ:=
  match P.underlying t with
  |some (.slice e)=>(match P.info? e with
    |some ti=>(match S.op x with
      | .row id=>(match S.heap id with
        |some (.row T s)=>chk (Nat.beq ti.size (C.size T) && isNone (S.heap (nid d 0))) (bif isZ h && isZ m then K (.go {env:=upd S.env d (.row (nid d 0)),heap:=upd S.heap (nid d 0) (some (.row T ⟨[],s.nn⟩))}) else
            (match S.op h,S.op m with
            | .int _ i,.int _ j=>chk (decide (i=j)) ((z6 s 0 i).bind fun s'=>K (.go {env:=upd (S.sub id .und).env d (.row (nid d 0)),heap:=upd (S.sub id .und).heap (nid d 0) (some (.row T s'))}))
            |_,_=>none))
        |_=>none)
      | .sl T s _=>chk (Nat.beq ti.size (C.size T) && isNone (S.heap (nid d 0))) (chk (isZ h && isZ m) (K (.go {env:=upd S.env d (.row (nid d 0)),heap:=upd S.heap (nid d 0) (some (.row T ⟨[],s.nn⟩))})))
      |_=>none)
    |none=>none)
  |_=>none
omit [Dfr] in
theorem zjR {q:Opts}{d:Nat}{ty t:TypeId}{x h m:Operand}{K:Out C→Option ρ}:zfo P S d t x h m K=(xM q Γ P d ty S (.slice t x none (some h) (some m))).bind K:=by
 have ho:xM q Γ P d ty S (.slice t x none (some h) (some m))=YX P S d t x (some h) (some m):=by unfold xM;rfl
 rw [ho]
 unfold zfo YX
 cases P.underlying t with
 |none=>rfl
 |some u=>
 cases u <;> first | rfl | skip
 rename_i e
 simp only
 cases P.info? e with
 |none=>rfl
 |some ti=>
 simp only
 cases S.op x <;> first | rfl | skip
 ·simp only [zq,Option.bind_some]
 ·rename_i id
  simp only
  cases S.heap id with
  |none=>rfl
  |some en=>
  cases en <;> first | rfl | skip
  simp only [zq]
  congr 1
  cases isZ h && isZ m with
  |true=>rfl
  |false=>
   simp only [cond_false]
   cases S.op h <;> first | rfl | skip
   cases S.op m <;> first | rfl | skip
   simp only [zq,Option.bind_assoc,Option.bind_some]
def Vx (P:Program) (S:St C) (t:TypeId) (x y:Operand) (K:Out C→Option ρ):Option ρ:=match P.info? t,S.op x with
 |some ti,.pr _ _ _ _=>go ti (S.frz (AV.rows (S.op y)))
 |_,_=>(yw P S t x y).bind K
where
  go (ti:TypeInfo) (S:St C):Option ρ:=match S.op x with
    | .pr id T i off=>(match S.heap id with
      |some (.row T' s)=>chk (Nat.beq T T' && (xx (S.op y) && (Nat.beq ti.size (zt (S.op y)).length && (Nat.ble (off+(zt (S.op y)).length) (C.size T') && Nat.blt 0 (zt (S.op y)).length))))
          ((ze s i).bind fun q=>(C.imp T' ((C.emb T' q).take off++zt (S.op y)++(C.emb T' q).drop (off+(zt (S.op y)).length))).bind fun q'=>
            K (.go {S with heap:=upd S.heap id (some (.row T' (s.set i q')))}))
      |_=>none)
    |_=>none
omit [Dfr] in
theorem ziJ {x y:Operand}{ti:TypeInfo}{K:Out C→Option ρ}:Vx.go x y K ti S=(yw.go x y ti S).bind K:=by
 unfold Vx.go yw.go
 cases S.op x <;> first | rfl | skip
 rename_i id T i off
 simp only
 cases S.heap id with
 |none=>rfl
 |some e=>
  cases e with
  |cell cs=>rfl
  |row T' s=>simp only [zq,Option.bind_assoc,Option.bind_some]
  |obj q T b s=>rfl
  |orow T s g=>rfl
omit [Dfr] in
theorem ziK {t:TypeId}{x y:Operand}{K:Out C→Option ρ}:Vx P S t x y K=(yw P S t x y).bind K:=by
 unfold Vx
 split
 ·rename_i ti id T i off h1 h2
  rw [ziJ]
  unfold yw
  rw [h1,h2]
 ·rfl
def zfp (P:Program) (S:St C) (d:Nat) (t:TypeId) (x y:Operand) (K:Out C→Option ρ):Option ρ:=
  match P.underlying t with
  |some (.slice e)=>(match P.info? e with
    |some ti=>(match ti.zero,S.op x with
      |some zv,.int _ i=>chk (zch x y && (Nat.beq ti.size (C.size e) && (Nat.blt 0 (C.size e) && isNone (S.heap (nid d 0)))))
          ((C.imp e (zv.cells.toList.map ZL)).bind fun q=>(Wy ti.bytes i q).bind fun s=>K (.go {env:=upd S.env d (.row (nid d 0)),heap:=upd S.heap (nid d 0) (some (.row e s))}))
      |_,_=>none)
    |none=>none)
  |_=>none
omit [Dfr] in
theorem zjS {d:Nat}{t:TypeId}{x y:Operand}{K:Out C→Option ρ}:zfp P S d t x y K=(WC P S d t x y).bind K:=by
 unfold zfp WC
 cases P.underlying t with
 |none=>rfl
 |some td=>
  cases td <;> first | rfl | skip
  rename_i e
  simp only
  cases P.info? e with
  |none=>rfl
  |some ti=>
   simp only
   cases ti.zero with
   |none=>rfl
   |some zv=>
    cases S.op x <;> first | rfl | (simp only [zq,Option.bind_assoc,Option.bind_some])
def zpN (q:Opts) (Γ:List (Spec C)) (P:Program) (n:Nat):yV C:=fun o S _ K=>match o.dst with
 |some d=>chk (Nat.blt d n) (match o.op with
  | .call ⟨.value c,args,_⟩=>(match S.op c with
   | .clo f caps=>chk (zce caps) (zi6 Γ S d f (XZ (args.toList.map S.op) caps) K)
   |_=>none)
  | .call ⟨.builtin .append,args,ts⟩=>(match args.toList,ts.toList with
   |[x,y],[t,t']=>chk (Nat.beq t t') (VX P S d t x y K)
   |_,_=>none)
  | .makeSlice t x y=>zfp P S d t x y K
  | .slice t x none (some hi) (some mx)=>zfo P S d t x hi mx K
  | .slice t x lo hi none=>bif zgs (S.op x) then zcT P S o.type (.slice t x lo hi none) fun A=>K (.go (S.put d A)) else bif zjQ q lo then zcr P S d o.type t (S.op x) x lo hi K else (xM q Γ P d o.type S (.slice t x lo hi none)).bind K
  | .convert t t' x=>(match yH P S o.type (.convert t t' x) with
   |some A=>K (.go (S.put d A))
   |none=>zfn P S d t t' (S.op x) K)
  |op=>bif eff op then (xM q Γ P d o.type S op).bind K else zcT P S o.type op fun A=>K (.go (S.put d A)))
 |none=>(match o.op with
  | .store t x y=>Vx P S t x y K
  |_=>(Vu q Γ P n o S).bind K)
omit [Dfr] in
theorem zrm {q:Opts}{d:Nat}{ty:TypeId}{op:Op}(h:eff op=false):xM q Γ P d ty S op=(yH P S ty op).map fun A =>.go (S.put d A):=by
 unfold xM
 split <;> first | (cases h;done) | rfl
omit [Dfr] in
theorem znN {q:Opts}{n:Nat}{o:Oper}{K:Out C→Option ρ}:zpN q Γ P n o S ρ K=(Vu q Γ P n o S).bind K:=by
 obtain ⟨dst,op,ty,ps,af,g⟩:=o
 cases dst with
 |none=>cases op <;> first | rfl | exact ziK
 |some d=>
  show chk (Nat.blt d n) _=(chk (Nat.blt d n) (xM q Γ P d ty S op)).bind K
  rw [zq]
  congr 1
  simp only
  split
  ·rename_i c args ts
   unfold xM
   simp only
   cases S.op c <;> first | rfl | (simp only [zq];rw [zjO])
  ·rename_i args ts
   unfold xM
   simp only
   generalize args.toList=l
   generalize ts.toList=m
   match l,m with
   |[],_=>rfl
   |[_],_=>rfl
   |[x,y],[]=>rfl
   |[x,y],[_]=>rfl
   |[x,y],[t,t']=>simp only [zq,zcq]
   |[x,y],_::_::_::_=>rfl
   |_::_::_::_,_=>rfl
  ·rename_i t x y
   exact zjS
  ·exact zjR
  ·rename_i t x lo hi
   cases hf:zgs (S.op x) with
   |false=>
    rw [cond_false]
    cases hl:zjQ q lo with
    |false=>rfl
    |true=>rw [cond_true];exact zhP hl hf
   |true=>
    rw [cond_true,zba]
    unfold xM
    simp only
    rw [zgn hf]
    cases yH P S ty (.slice t x lo hi none) <;> rfl
  ·rename_i t t' x
   unfold xM
   simp only
   cases yH P S ty (.convert t t' x) with
   |some A=>rfl
   |none=>exact zjP
  ·cases he:eff op with
   |true=>rfl
   |false=>
    rw [cond_false,zba,zrm he]
    cases yH P S ty op <;> rfl
def zfq (P:Program) (S:St C) (d:Nat) (t:TypeId) (x y:Operand) (K:Out C→Option ρ):Option ρ:=match x with
 | .tmp tx=>(match S.env tx with
  | .nx id T i .whole=>WM S tx id T i (nid d 1) fun S1=>VX P S1 d t x y K
  |_=>none)
 |_=>none
omit [Dfr] in
theorem zjT {d:Nat}{t:TypeId}{x y:Operand}{K:Out C→Option ρ}:zfq P S d t x y K=(WN P S d t x y).bind K:=by
 unfold zfq WN
 cases x <;> first | rfl | skip
 rename_i tx
 simp only
 cases S.env tx <;> first | rfl | skip
 rename_i id T i nx
 cases nx <;> first | rfl | skip
 simp only [zkk]
 congr 1;funext S1
 exact zcq
def zjU (P:Program) (S:St C) (K:Out C→Option ρ):KN→Option ρ
 | .st t x y=>wo P S t x y K
 | .cl t x=>Wo P S t x K
 | .apn d t t' x y=>chk (Nat.beq t t') (zfq P S d t x y K)
 | .apo d t t' x y=>chk (Nat.beq t t') (vj P S d t x y K)
 | .bl d t i m y=>chk (Nat.beq i 0 && Nat.beq m 1) (wr P S d t y K)
 | .mk d t x y=>Wm P S d t x y K
 | .cp d t x hi mx=>Wn P S d t x hi mx K
omit [Dfr] in
theorem znO {k:KN}{K:Out C→Option ρ}:zjU P S K k=(WP P S k).bind K:=by
 cases k <;> simp only [zjU,WP,zq]
 ·exact zh6
 ·exact ziW
 ·rw [zjT]
 ·rw [zkl]
 ·rw [zid]
 ·exact ziU
 ·exact ziV
def xN (q:Opts) (Γ:List (Spec C)) (P:Program) (n:Nat):yV C:=fun o S _ K=>match xW P S o.dst o.op with
 |some k=>chk (zpM n o.dst) (zjU P S K k)
 |none=>zpN q Γ P n o S _ K
omit [Dfr] in
theorem Vh {q:Opts}{n:Nat}{o:Oper}{K:Out C→Option ρ}:xN q Γ P n o S ρ K=(stp q Γ P n o S).bind K:=by
 unfold xN stp
 cases xW P S o.dst o.op with
 |some k=>simp only [zq,znO]
 |none=>exact znN
omit [Dfr] in
theorem zhQ {q:Opts}{n:Nat}{o:Oper}{K:Out C→Option ρ}:xN q Γ P n o S ρ K=(xN q Γ P n o S _ some).bind K:=by
 rw [Vh,Vh,Option.bind_assoc]
 rfl
end
end Go.Px
namespace Go.Px
set_option linter.unusedSectionVars false
variable [Dfr]
set_option linter.unusedVariables false
section
variable {κ:Kp}{C:Cod}{S T:St C}{ν:Val}{vs:Nat→List Value}{ids:List Nat}{L:List (Nat×Value)}{b:Nat→Value}{σ:FS}{PV:List Priv}{P:Program}{ρ:Type}
variable {t t' ty:TypeId}{x y z:Operand}{d:Nat}{ps:String}{af:Array Edge}{g:Option (Nat×Bool)}{A:AV C.D}{n:Nat}{w0:Start}{σ0:FS}{o:Oper}{D:Nat→Prop}
def zcs (P:Program) (S:St C) (t:TypeId) (m:Nat) (parts:List (Nat×Operand)):Option (AV C.D):=match P.underlying t with
  |some (.slice e)=>(match P.info? e with
    |some ti=>(match ti.zero with
      |some zv=>chk (Nat.beq ti.size (C.size e) && (Nat.blt 0 (C.size e) && (Nat.ble (m * C.size e) 16777216 && (Nat.beq parts.length m && zcS parts 0))))
          ((Y2 S e (parts.map (·.2))).bind fun xs=>some (.sl e ⟨xs,true⟩ false))
      |none=>none)
    |none=>none)
  |_=>none
theorem zmT (h:AbsL κ S ν vs ids L b σ PV) (hn:Nat.blt d n=true) {m:Nat}{parts:Array (Nat×Operand)}(hX:zcs P S t m parts.toList=some A):OpA κ P n w0 σ0 ⟨some d,.buildSlice t m parts,ty,ps,af,g⟩ (some (.go (S.put d A))) L b σ PV:=by
 unfold zcs at hX
 split at hX
 ·rename_i e hu
  split at hX
  ·rename_i ti hi
   split at hX
   ·rename_i zv hz
    obtain ⟨hc,hX2⟩:=zb hX
    simp only [Bool.and_eq_true] at hc
    obtain ⟨c1,c2,c3,c4,c5⟩:=hc
    obtain ⟨xs,hxs,hX3⟩:=Option.bind_eq_some_iff.1 hX2
    cases hX3
    obtain ⟨r1,r2,r3⟩:=zci h hxs
    have hlen:((parts.toList.map (·.2)).map (opv L b)).length=m:=by
     have:=Nat.eq_of_beq_eq_true c4;simpa using this
    intro out ho a w hinv hf K Q hK hP
    cases ho
    refine vI (ρ:=Unit) (p:=some ()) (H:=fun p' L' σ' PV'=>∃ v,L'=(d,v)::L∧σ'=σ∧PV'=Priv.row (zw C e).o e v ⟨xs,true⟩::PV) (T:=(zw C e).o) (vs:=(parts.toList.map (·.2)).map (opv L b)) (xs:=xs) [] PV hn hu hi hz (Nat.eq_of_beq_eq_true c1) c3 c2 (za9 c5) hlen (fun hh _=>⟨zd.none,zd.none_le _,Ty.rels_o.2 r1,by rw [List.length_map];exact r2,r3⟩) (fun v=>⟨v,rfl,rfl,rfl⟩) () rfl a w hinv hf K Q ?_
    rintro p' L' σ' PV' a' w' hp' hi' hf' ⟨v,rfl,rfl,rfl⟩
    obtain ⟨h1,hh,hsub,hle,hi2⟩:=hi'.freeze (m:=0) rfl
    have hh:zn (zw C e).o e v ⟨xs,true⟩ σ' h1:=hh
    refine hK _ rfl _ _ _ _ _ hi2 hf' ⟨ν,vs,ids,(h.le hle).put (A :=.sl e ⟨xs,true⟩ false) (Rv.of_vrel (hh.fast hle fun b o v e=>wi b o v e)).vr trivial⟩
   ·cases hX
  ·cases hX
 ·cases hX
def rdQ:Op→Bool
 | .alloc _=>false
 | .box _ _=>false
 | .makeSlice _ _ _=>false
 | .call ⟨.value _,_,_⟩=>false
 | .call ⟨.builtin .append,_,_⟩=>false
 | .panic _=>false
 |_=>true
def evQ (P:Program) (S:St C) (ty:TypeId):Op→Option (AV C.D)
 | .buildSlice t m parts=>zcs P S t m parts.toList
 |op=>yH P S ty op
def znP (P:Program) (S:St C) (ty:TypeId) (op:Op) (K:AV C.D→Option ρ):Option ρ:=match op with
  | .buildSlice t m parts=>(match P.underlying t with
    |some (.slice e)=>(match P.info? e with
      |some ti=>(match ti.zero with
        |some zv=>chk (Nat.beq ti.size (C.size e) && (Nat.blt 0 (C.size e) && (Nat.ble (m * C.size e) 16777216 && (Nat.beq parts.toList.length m && zcS parts.toList 0))))
            ((Y2 S e (parts.toList.map (·.2))).bind fun xs=>K (.sl e ⟨xs,true⟩ false))
        |none=>none)
      |none=>none)
    |_=>none)
  |op=>zcT P S ty op K
omit [Dfr] in
theorem zrn {op:Op}{K:AV C.D→Option ρ}:znP P S ty op K=(evQ P S ty op).bind K:=by
 unfold znP evQ
 split
 ·unfold zcs
  cases P.underlying _ with
  |none=>rfl
  |some td=>
   cases td <;> first | rfl | skip
   simp only
   cases P.info? _ with
   |none=>rfl
   |some ti=>
    simp only
    cases ti.zero with
    |none=>rfl
    |some zv=>simp only [zq,Option.bind_assoc,Option.bind_some]
 ·exact zba
theorem zrS {q:Opts}{Γ:List (Spec C)}(h:AbsL κ S ν vs ids L b σ PV) (hn:Nat.blt d n=true) {op:Op}(hr:rdQ op=true) (he:evQ P S ty op=some A):OpA κ P n w0 σ0 ⟨some d,op,ty,ps,af,g⟩ (some (.go (S.put d A))) L b σ PV:=by
 unfold evQ at he
 split at he
 ·exact zmT h hn he
 ·have:=zi5 (P:=P) (n:=n) (w0:=w0) (σ0:=σ0) (ps:=ps) (af:=af) (g:=g) h (op:=op) hn (ty:=ty)
  rw [he] at this
  exact this
omit [Dfr] in
theorem zey {e:Nat}:∀ {l:List Operand},(∀ x∈l,S.op x=T.op x)→Y2 S e l=Y2 T e l
 |[],_=>rfl
 |x::r,h=>by
  unfold Y2
  rw [h x (by simp),zey fun y hy=>h y (by simp [hy])]
end
end Go.Px
namespace Go.Px
set_option linter.unusedSectionVars false
variable [Dfr]
set_option linter.unusedVariables false
section
variable {C:Cod}{S T:St C}{P:Program}
def AV.hid {D:Nat→Type}:AV D→List Nat
 | .row id=>[id]
 | .pc id _=>[id]
 | .pr id _ _ _=>[id]
 | .nx id _ _ _=>[id]
 |_=>[]
def zdY (S:St C):Op→List Nat
 | .load _ x=>(S.op x).hid
 | .indexAddr _ x _=>(S.op x).hid
 | .binOp _ _ x _ _=>match S.op x with
  | .row id=>[id]
  | .nx id _ _ _=>[id]
  |_=>[]
 | .call ⟨.builtin .len,args,_⟩=>match args.toList with
  |[x]=>(S.op x).hid
  |_=>[]
 | .slice _ x _ _ _=>match S.op x with
  | .nx id _ _ _=>[id]
  |_=>[]
 |_=>[]
omit [Dfr] in
theorem WI {α:Type}{id U:Nat}{i:Int}{K:(U:Nat)→Sl (C.D U)→Option α}(h:S.heap id=T.heap id):zI S id U i K=zI T id U i K:=by
 unfold zI;rw [h]
omit [Dfr] in
theorem zmU {t:TypeId}{A:AV C.D}(h:∀ id∈A.hid,S.heap id=T.heap id):XP P S t A=XP P T t A:=by
 cases A <;> first | rfl | (simp only [XP];rw [h _ (by simp [AV.hid])]) | skip
 rename_i id U i x
 cases x <;> first | rfl | (simp only [XP];rw [WI (h _ (by simp [AV.hid]))])
omit [Dfr] in
theorem zjV {t:TypeId}{A B:AV C.D}(h:∀ id∈A.hid,S.heap id=T.heap id):wE P S t A B=wE P T t A B:=by
 unfold wE
 split
 ·split
  ·cases A <;> first | rfl | (cases B <;> first | rfl | (simp only;rw [h _ (by simp [AV.hid])])) | skip
   rename_i id U i x
   cases x <;> cases B <;> first | rfl | (simp only;rw [WI (h _ (by simp [AV.hid]))])
  ·rfl
 ·rfl
 ·rfl
omit [Dfr] in
theorem znQ {t:TypeId}{A:AV C.D}(h:∀ id∈A.hid,S.heap id=T.heap id):WB P S t A=WB P T t A:=by
 unfold WB
 cases P.underlying t with
 |none=>rfl
 |some td=>
  cases A <;> first | rfl | (cases td <;> first | rfl | (simp only;rw [h _ (by simp [AV.hid])])) | skip
  rename_i id U i x
  cases x <;> cases td <;> first | rfl | (simp only;rw [WI (h _ (by simp [AV.hid]))])
omit [Dfr] in
theorem zbl {dflt:Int}{o:Option Operand}(h:∀ x,o=some x→S.op x=T.op x):Zl S dflt o=Zl T dflt o:=by
 cases o with
 |none=>rfl
 |some x=>simp only [Zl];rw [h x rfl]
omit [Dfr] in
theorem zjW {t:TypeId}{A:AV C.D}{lo hi:Option Operand}(h1:∀ x,lo=some x→S.op x=T.op x) (h2:∀ x,hi=some x→S.op x=T.op x) (h3:∀ id U i x,A = .nx id U i x→S.heap id=T.heap id):Xa P S t A lo hi=Xa P T t A lo hi:=by
 unfold Xa
 have e1:=fun dflt=>zbl (S:=S) (T:=T) (dflt:=dflt) h1
 have e2:=fun dflt=>zbl (S:=S) (T:=T) (dflt:=dflt) h2
 simp only [e1,e2]
 split
 ·rfl
 ·rfl
 ·split
  ·exact WI (h3 _ _ _ _ rfl)
  ·rfl
 ·rfl
omit [Dfr] in
theorem zmV {l:List Operand}(h:∀ x∈l,S.op x=T.op x):l.map S.op=l.map T.op:=List.map_congr_left h
omit [Dfr] in
theorem zjX {t:TypeId}{parts:List (Nat×Operand)}(h:∀ q∈parts,S.op q.2=T.op q.2):W9 P S t parts=W9 P T t parts:=by
 unfold W9
 have:parts.map (fun q=>(q.1,S.op q.2))=parts.map fun q=>(q.1,T.op q.2):=List.map_congr_left fun q hq=>by rw [h q hq]
 rw [this]
omit [Dfr] in
theorem zi7 {ty:TypeId}{op:Op}(hop:∀ x∈op.operands.toList,S.op x=T.op x) (hh:∀ id∈zdY S op,S.heap id=T.heap id):yH P S ty op=yH P T ty op:=by
 unfold yH
 cases op
 case move x=>simp only;rw [hop x (by simp [Op.operands])]
 case assign x=>simp only;rw [hop x (by simp [Op.operands])]
 case pick c a e=>simp only;rw [hop c (by simp [Op.operands]),hop a (by simp [Op.operands]),hop e (by simp [Op.operands])]
 case nilCheck x=>simp only;rw [hop x (by simp [Op.operands])]
 case binOp bo t x y t'=>
  simp only
  unfold XQ
  rw [← hop x (by simp [Op.operands]),← hop y (by simp [Op.operands])]
  cases Yy y with
  |true=>rfl
  |false=>
  simp only [cond_false]
  unfold wX
  simp only [zdY] at hh
  split
  ·rename_i id e
   rw [e] at hh
   rw [hh id (by simp)]
  ·rename_i id U i e
   rw [e] at hh
   split
   ·exact WI (hh id (by simp))
   ·rfl
  ·rfl
 case unOp u t x=>cases u <;> first | rfl | (simp only;rw [hop x (by simp [Op.operands])])
 case convert t t' x=>simp only;rw [hop x (by simp [Op.operands])]
 case makeFunc f fs caps=>
  cases f <;> first | rfl | skip
  simp only
  have hfs:=zmV (l:=fs.toList) fun x hx=>hop x (by simp [Op.operands];exact .inl (by simpa using hx))
  unfold zaJ
  generalize fs.toList=fl at hfs
  rw [zmV (l:=caps.toList) fun x hx=>hop x (by simp [Op.operands];exact .inr (by simpa using hx))]
  cases fl with
  |nil=>rfl
  |cons y l=>simp only;rw [hfs]
 case makeInterface t x=>simp only;rw [hop x (by simp [Op.operands])]
 case extract x i=>simp only;rw [hop x (by simp [Op.operands])]
 case typeAssert x xt t ok=>simp only;rw [hop x (by simp [Op.operands])]
 case build t parts=>exact zjX fun q hq=>hop q.2 (by simp [Op.operands];exact ⟨q.1,by simpa using hq⟩)
 case field t x m=>simp only;rw [hop x (by simp [Op.operands])]
 case fieldAddr t x m=>simp only;rw [hop x (by simp [Op.operands])]
 case indexAddr t x y=>
  simp only;rw [← hop x (by simp [Op.operands]),← hop y (by simp [Op.operands])]
  exact zjV hh
 case load t x=>
  simp only;rw [← hop x (by simp [Op.operands])]
  exact zmU hh
 case index t x y=>simp only;rw [hop x (by simp [Op.operands]),hop y (by simp [Op.operands])]
 case slice t x lo hi mx=>
  cases mx with
  |some m=>rfl
  |none=>
   simp only;rw [← hop x (by simp [Op.operands])]
   simp only [zdY] at hh
   exact zjW (fun y e=>hop y (by subst e;simp [Op.operands])) (fun y e=>hop y (by subst e;simp [Op.operands])) fun id U i x e=>by
    rw [e] at hh
    exact hh id (by simp)
 case call c=>
  obtain ⟨cal,args,ts⟩:=c
  cases cal
  case value c=>rfl
  case invoke r m=>rfl
  case builtin bi=>
   have ha:∀ x∈args.toList,S.op x=T.op x:=fun x hx=>hop x (by simp [Op.operands,Call.operands];simpa using hx)
   cases bi <;> first | rfl | skip
   case len=>
    simp only
    split
    ·rename_i x t e1 e2
     rw [e1] at ha
     rw [← ha x (by simp)]
     refine znQ fun id hid=>hh id ?_
     simp only [zdY,e1];exact hid
    ·rfl
   case min=>
    simp only
    split
    ·rename_i x y e1
     rw [e1] at ha
     rw [ha x (by simp),ha y (by simp)]
    ·rfl
   case max=>
    simp only
    split
    ·rename_i x y e1
     rw [e1] at ha
     rw [ha x (by simp),ha y (by simp)]
    ·rfl
 all_goals rfl
structure EqX (D:Nat→Prop) (S T:St C):Prop where
 heap:S.heap=T.heap
 env:∀ t,¬ D t→S.env t=T.env t
variable {D:Nat→Prop}
def zR (D:Nat→Prop):Option (Out C)→Option (Out C)→Prop
 |some (.go S),some (.go T)=>EqX D S T
 |some (.pan u S),some (.pan v T)=>u=v∧EqX D S T
 |none,none=>True
 |_,_=>False
omit [Dfr] in
theorem zR.go {S' T':St C}(h:EqX D S' T'):zR D (some (.go S')) (some (.go T')):=h
omit [Dfr] in
theorem zR.none:zR (C:=C) D none none:=trivial
omit [Dfr] in
theorem zR.chk {c:Bool}{x y:Option (Out C)}(h:zR D x y):zR D (chk c x) (chk c y):=by
 cases c with
 |true=>exact h
 |false=>trivial
omit [Dfr] in
theorem zR.bind {α:Type}{x:Option α}{f g:α→Option (Out C)}(h:∀ a,zR D (f a) (g a)):zR D (x.bind f) (x.bind g):=by
 cases x with
 |none=>trivial
 |some a=>exact h a
omit [Dfr] in
theorem EqX.refl (S:St C):EqX D S S:=⟨rfl,fun _ _=>rfl⟩
omit [Dfr] in
theorem EqX.put (h:EqX D S T) (d:Nat) (A:AV C.D) {hp:Nat→Option (Ent C)}:EqX D {env:=upd S.env d A,heap:=hp} {env:=upd T.env d A,heap:=hp}:=⟨rfl,fun t ht=>by
 show upd S.env d A t=upd T.env d A t
 unfold upd
 cases Nat.beq t d with
 |true=>rfl
 |false=>exact h.env t ht⟩
omit [Dfr] in
theorem EqX.sub (h:EqX D S T) (id:Nat) (R:AV C.D):EqX D (S.sub id R) (T.sub id R):=by
 refine ⟨?_,fun t ht=>?_⟩
 ·unfold St.sub;simp only;rw [h.heap]
 ·show AV.sub id R (S.env t)=AV.sub id R (T.env t);rw [h.env t ht]
omit [Dfr] in
theorem EqX.frz1 (h:EqX D S T) (id:Nat):EqX D (S.frz1 id) (T.frz1 id):=by
 unfold St.frz1
 rw [h.heap]
 split
 ·exact h.sub _ _
 ·rename_i T0 s g _
  cases g.rd with
  |true=>exact h.sub _ _
  |false=>exact h
 ·exact h
omit [Dfr] in
theorem EqX.frz:∀ (l:List Nat) {S T:St C},EqX D S T→EqX D (S.frz l) (T.frz l)
 |[],_,_,h=>h
 |id::r,_,_,h=>EqX.frz r (h.frz1 id)
omit [Dfr] in
theorem EqX.op (h:EqX D S T) {x:Operand}(hx:∀ t,x = .tmp t→¬ D t):S.op x=T.op x:=by
 cases x with
 |tmp t=>exact h.env t (hx t rfl)
 |const v=>rfl
 |global g=>rfl
 |func f=>rfl
def vF (D:Nat→Prop) (l:List Operand):Prop:=∀ t,Operand.tmp t∈l→¬ D t
omit [Dfr] in
theorem EqX.ops (h:EqX D S T) {l:List Operand}(hl:vF D l):∀ x∈l,S.op x=T.op x:=fun x hx=>h.op fun t e=>hl t (e ▸ hx)
omit [Dfr] in
theorem zi8 (h:EqX D S T) {d:Nat}{cs:List (AV C.D)}:zR D (za7 S d cs) (za7 T d cs):=by
 unfold za7
 rw [h.heap]
 exact .chk (h.put d _)
omit [Dfr] in
theorem zmW (h:EqX D S T) {d:Nat}{t:TypeId}:zR D (XV P S d t) (XV P T d t):=by
 unfold XV
 split
 ·split
  ·split
   ·unfold zmG
    rw [h.heap]
    exact .chk (h.put d _)
   ·exact zi8 h
  ·trivial
 ·trivial
omit [Dfr] in
theorem znR (h:EqX D S T) {d:Nat}{t:TypeId}{x y:Operand}(hx:S.op x=T.op x):zR D (WC P S d t x y) (WC P T d t x y):=by
 unfold WC
 rw [hx,h.heap]
 split
 ·split
  ·split
   ·exact .chk (.bind fun q =>.bind fun s=>h.put d _)
   ·trivial
  ·trivial
 ·trivial
omit [Dfr] in
theorem zf1 {e:Nat}:∀ {l:List Operand},(∀ x∈l,S.op x=T.op x)→Y2 S e l=Y2 T e l
 |[],_=>rfl
 |x::r,h=>by
  unfold Y2
  rw [h x (by simp),zf1 fun y hy=>h y (List.mem_cons_of_mem _ hy)]
omit [Dfr] in
theorem zjY (h:EqX D S T) {d:Nat}{t:TypeId}{m:Nat}{parts:List (Nat×Operand)}(hp:vF D (parts.map (·.2))):zR D (xK P S d t m parts) (xK P T d t m parts):=by
 unfold xK
 have e:parts.map (fun q=>S.op q.2)=parts.map fun q=>T.op q.2:=List.map_congr_left fun q hq=>h.ops hp _ (List.mem_map.2 ⟨q,hq,rfl⟩)
 rw [e]
 have h':=EqX.frz (AV.rowss (parts.map fun q=>T.op q.2)) h
 generalize S.frz _=S' at h' ⊢
 generalize T.frz _=T' at h' ⊢
 unfold xK.go
 have e2:=fun e=>zf1 (e:=e) (h'.ops hp)
 simp only [h'.heap,e2]
 split
 ·split
  ·split
   ·exact .chk (.bind fun xs=>h'.put d _)
   ·trivial
  ·trivial
 ·trivial
omit [Dfr] in
theorem EqX.heap' (h:EqX D S T) {hp:Nat→Option (Ent C)}:EqX D {S with heap:=hp} {T with heap:=hp}:=⟨rfl,h.env⟩
omit [Dfr] in
theorem zmX (h:EqX D S T) {t:TypeId}{x y:Operand}(hx:∀ t,x = .tmp t→¬ D t) (hy:∀ t,y = .tmp t→¬ D t):zR D (yw P S t x y) (yw P T t x y):=by
 unfold yw
 have ex:=h.op hx
 have ey:=h.op hy
 rw [ex,ey,h.heap]
 split
 ·split
  ·exact .chk h.heap'
  ·trivial
 ·rename_i ti _ _ _ _ _ _
  have h':=EqX.frz (AV.rows (T.op y)) h
  have ex':=h'.op hx
  have ey':=h'.op hy
  generalize S.frz _=S' at h' ex' ey' ⊢
  generalize T.frz _=T' at h' ex' ey' ⊢
  unfold yw.go
  rw [ex',ey',h'.heap]
  split
  ·split
   ·exact .chk (.bind fun q =>.bind fun q'=>h'.heap')
   ·trivial
  ·trivial
 ·trivial
omit [Dfr] in
theorem zi9 (h:S.heap=T.heap) {e:Nat}{A:AV C.D}:vJ S e A=vJ T e A:=by
 unfold vJ;rw [h]
omit [Dfr] in
theorem EqX.subRow (h:EqX D S T) (d id T':Nat) (s':Sl (C.D T')):EqX D {env:=upd (S.sub id .und).env d (.row (nid d 0)),heap:=upd (S.sub id .und).heap (nid d 0) (some (.row T' s'))} {env:=upd (T.sub id .und).env d (.row (nid d 0)),heap:=upd (T.sub id .und).heap (nid d 0) (some (.row T' s'))}:=by
 have:=h.sub id .und
 exact ⟨by show upd _ _ _=upd _ _ _;rw [this.heap],(this.put d _ (hp:=T.heap)).env⟩
omit [Dfr] in
theorem zez (h:EqX D S T) {d:Nat}{t:TypeId}{x y:Operand}(hx:S.op x=T.op x) (hy:S.op y=T.op y):zR D (Yu P S d t x y) (Yu P T d t x y):=by
 unfold Yu
 have e:=fun e A=>zi9 (e:=e) (A:=A) h.heap
 simp only [hx,hy,h.heap,e]
 split
 ·split
  ·split
   ·refine .chk ?_
    split
    ·split
     ·exact .chk (.bind fun ts =>.bind fun s'=>EqX.subRow h _ _ _ _)
     ·trivial
    ·exact .bind fun ts =>.bind fun s'=>h.put d _
    ·trivial
   ·trivial
  ·trivial
 ·trivial
omit [Dfr] in
theorem zf2 (h:EqX D S T) {d:Nat}{t:TypeId}{x:Operand}{hi mx:Option Operand}(hx:S.op x=T.op x) (h1:∀ y,hi=some y→S.op y=T.op y) (h2:∀ y,mx=some y→S.op y=T.op y):zR D (YX P S d t x hi mx) (YX P T d t x hi mx):=by
 unfold YX
 have e1:=fun dflt=>zbl (S:=S) (T:=T) (dflt:=dflt) h1
 have hs:=fun id T' s'=>EqX.subRow h d id T' s'
 rw [hx]
 simp only [h.heap,e1]
 split
 ·split
  ·split
   ·split
    ·refine .chk ?_
     split
     ·split
      ·exact .bind fun s'=>hs _ _ _
      ·trivial
     ·rename_i hh m
      rw [h1 hh rfl,h2 m rfl]
      cases isZ hh && isZ m with
      |true=>exact h.put d _
      |false=>
       simp only [cond_false]
       split
       ·exact .chk (.bind fun s'=>hs _ _ _)
       ·trivial
     ·trivial
    ·trivial
   ·refine .chk ?_
    split
    ·exact .chk (h.put d _)
    ·trivial
   ·trivial
  ·trivial
 ·trivial
end
end Go.Px
namespace Go.Px
set_option linter.unusedSectionVars false
variable [Dfr]
set_option linter.unusedVariables false
section
variable {C:Cod}{S T:St C}{P:Program}{D:Nat→Prop}
omit [Dfr] in
theorem EqX.owk (h:EqX D S T) (id:Nat) (e:Ent C):EqX D (S.owk id e) (T.owk id e):=by
 refine ⟨?_,fun t ht=>?_⟩
 ·unfold St.owk;simp only;rw [h.heap]
 ·show AV.knx _ (S.env t)=AV.knx _ (T.env t);rw [h.env t ht]
omit [Dfr] in
theorem EqX.newE (h:EqX D S T) (d i:Nat) (A:AV C.D) (e:Option (Ent C)):EqX D {env:=upd S.env d A,heap:=upd S.heap i e} {env:=upd T.env d A,heap:=upd T.heap i e}:=by
 rw [h.heap];exact h.put d A
omit [Dfr] in
theorem zja (h:EqX D S T) {id T0:Nat}{s:Sl (C.D T0)}{g:Own}{i:Int}{off:Nat}{cells:List (AV C.D)}:zR D (Wc S id T0 s g i off cells some) (Wc T id T0 s g i off cells some):=by
 unfold Wc
 simp only [vt]
 split
 ·rw [h.heap]
  split
  ·exact .chk (.bind fun q =>.bind fun g' =>.bind fun q'=>(h.sub _ _).owk _ _)
  ·trivial
 ·refine .bind fun q=>?_
  split
  ·exact .bind fun g' =>.bind fun q'=>h.owk _ _
  ·trivial
 ·trivial
omit [Dfr] in
theorem zro {ti:TypeInfo}{y:Operand}{off N:Nat}(hy:S.op y=T.op y):VB S ti y off N=VB T ti y off N:=by unfold VB;rw [hy]
omit [Dfr] in
theorem zjZ (h:EqX D S T) {t:TypeId}{x y:Operand}(hx:S.op x=T.op x) (hy:S.op y=T.op y):zR D (Xy P S t x y) (Xy P T t x y):=by
 have e1:=fun ti off N=>zro (S:=S) (T:=T) (ti:=ti) (y:=y) (off:=off) (N:=N) hy
 unfold Xy wo
 rw [hx,hy,h.heap]
 simp only [e1]
 split
 ·split
  ·refine .chk ?_
   cases XS _ _ _ with
   |true=>exact zja h
   |false=>exact .bind fun q =>.bind fun q'=>⟨rfl,h.env⟩
  ·exact .chk (zja h)
  ·trivial
 ·split
  ·refine .chk (.bind fun q=>?_)
   split
   ·exact .chk (.bind fun y0 =>.bind fun y1 =>.bind fun q'=>⟨rfl,h.env⟩)
   ·trivial
  ·trivial
 ·trivial
omit [Dfr] in
theorem zmY (h:EqX D S T) {t:TypeId}{x:Operand}(hx:S.op x=T.op x):zR D (wK P S t x) (wK P T t x):=by
 unfold wK Wo
 rw [hx,h.heap]
 split
 ·split
  ·split
   ·split
    ·split
     ·exact .chk (.bind fun q=>⟨rfl,h.env⟩)
     ·trivial
    ·split
     ·refine .chk (.bind fun q=>?_)
      split
      ·exact .chk (.bind fun z =>.bind fun q'=>⟨rfl,h.env⟩)
      ·trivial
     ·trivial
    ·trivial
   ·trivial
  ·trivial
 ·trivial
omit [Dfr] in
theorem zrp (h:EqX D S T) {tx id T0:Nat}{i:Int}{gid:Nat}{K K':St C→Option (Out C)}(hK:∀ S1 T1,EqX D S1 T1→(∀ z,(∀ t,z = .tmp t→t=tx∨¬ D t)→S1.op z=T1.op z)→zR D (K S1) (K' T1)):zR D (WM S tx id T0 i gid K) (WM T tx id T0 i gid K'):=by
 unfold WM
 rw [h.heap]
 split
 ·refine .chk (.bind fun q=>?_)
  split
  ·refine hK _ _ (h.put tx _) fun z hz=>?_
   cases z with
   |tmp t=>
    show upd S.env tx _ t=upd T.env tx _ t
    unfold upd
    cases e:Nat.beq t tx with
    |true=>rfl
    |false=>
     simp only [cond_false]
     rcases hz t rfl with z | z
     ·subst z;simp at e
     ·exact h.env t z
   |const v=>rfl
   |global g=>rfl
   |func f=>rfl
  ·trivial
 ·trivial
omit [Dfr] in
theorem znS (h:EqX D S T) {d:Nat}{t:TypeId}{x y:Operand}(hx:∀ t,x = .tmp t→¬ D t) (hy:∀ t,y = .tmp t→¬ D t):zR D (WN P S d t x y) (WN P T d t x y):=by
 unfold WN
 cases x with
 |tmp tx=>
  simp only
  rw [h.env tx (hx tx rfl)]
  split
  ·exact zrp h fun S1 T1 h1 hz=>zez h1 (hz _ fun t e =>.inr (hx t e)) (hz _ fun t e =>.inr (hy t e))
  ·trivial
 |const v=>trivial
 |global g=>trivial
 |func f=>trivial
omit [Dfr] in
theorem znT (h:EqX D S T) {d:Nat}{t:TypeId}{x y:Operand}(hx:S.op x=T.op x) (hy:S.op y=T.op y):zR D (WO P S d t x y) (WO P T d t x y):=by
 have hs:=fun id id2 (e:Option (Ent C))=>((h.sub id .und).sub id2 .und).newE d (nid d 0) (.row (nid d 0)) e
 have hs2:=fun id2 (e:Option (Ent C))=>(h.sub id2 .und).newE d (nid d 0) (.row (nid d 0)) e
 unfold WO vj
 rw [hx,hy]
 rw [show isNone (S.heap (nid d 0))=isNone (T.heap (nid d 0)) by rw [h.heap]]
 split
 ·split
  ·split
   ·refine .chk ?_
    split
    ·rw [h.heap]
     split
     ·split
      ·split
       ·exact .chk (.bind fun ts =>.bind fun s'=>hs _ _ _)
       ·trivial
      ·exact .bind fun ts =>.bind fun s'=>hs2 _ _
      ·trivial
     ·trivial
    ·trivial
   ·trivial
  ·trivial
 ·trivial
omit [Dfr] in
theorem zj0 (h:EqX D S T) {d:Nat}{t:TypeId}{y:Operand}(hy:S.op y=T.op y):zR D (XA P S d t y) (XA P T d t y):=by
 have hs2:=fun id2 (e:Option (Ent C))=>(h.sub id2 .und).newE d (nid d 0) (.row (nid d 0)) e
 unfold XA wr
 rw [hy]
 rw [show isNone (S.heap (nid d 0))=isNone (T.heap (nid d 0)) by rw [h.heap]]
 split
 ·split
  ·split
   ·refine .chk ?_
    split
    ·rw [show ∀ i,S.heap i=T.heap i from fun i=>by rw [h.heap]]
     split
     ·exact .bind fun q=>hs2 _ _
     ·trivial
    ·trivial
   ·trivial
  ·trivial
 ·trivial
omit [Dfr] in
theorem zmZ (h:EqX D S T) {d:Nat}{t:TypeId}{x y:Operand}(hx:S.op x=T.op x):zR D (wI P S d t x y) (wI P T d t x y):=by
 unfold wI Wm
 rw [hx,h.heap]
 split
 ·split
  ·split
   ·refine .chk ?_
    split
    ·refine .bind fun q=>?_
     split
     ·exact .chk (.bind fun s=>h.put d _)
     ·trivial
    ·trivial
   ·trivial
  ·trivial
 ·trivial
omit [Dfr] in
theorem zm0 (h:EqX D S T) {d:Nat}{t:TypeId}{x hi mx:Operand}(hx:S.op x=T.op x) (h1:S.op hi=T.op hi) (h2:S.op mx=T.op mx):zR D (wJ P S d t x hi mx) (wJ P T d t x hi mx):=by
 have hs2:=fun id2 (e:Option (Ent C))=>(h.sub id2 .und).newE d (nid d 0) (.row (nid d 0)) e
 unfold wJ Wn
 rw [hx,h1,h2]
 rw [show isNone (S.heap (nid d 0))=isNone (T.heap (nid d 0)) by rw [h.heap]]
 split
 ·split
  ·split
   ·rw [show ∀ i,S.heap i=T.heap i from fun i=>by rw [h.heap]]
    split
    ·refine .chk ?_
     split
     ·exact .chk (.bind fun s'=>hs2 _ _)
     ·trivial
    ·trivial
   ·trivial
  ·trivial
 ·trivial
omit [Dfr] in
theorem zrq (h:S.heap=T.heap) {x y:Operand}(hx:S.op x=T.op x) (hy:S.op y=T.op y):zd9 S x y=zd9 T x y:=by unfold zd9;rw [h,hx,hy]
omit [Dfr] in
theorem zrr {x:Operand}(hx:S.op x=T.op x):zd8 S x=zd8 T x:=by unfold zd8;rw [hx]
omit [Dfr] in
theorem zm1 (h:S.heap=T.heap) {x:Operand}(hx:S.op x=T.op x):isO S x=isO T x:=by unfold isO;rw [h,hx]
omit [Dfr] in
theorem zrs (h:EqX D S T) {dst:Option Nat}{op:Op}(hf:vF D op.operands.toList):xW P S dst op=xW P T dst op∧∀ k,xW P T dst op=some k→zR D (WP P S k) (WP P T k):=by
 have hop:=h.ops hf
 unfold xW
 split
 ·rename_i t x y
  have hx:=hop x (by simp [Op.operands])
  have hy:=hop y (by simp [Op.operands])
  rw [zrq h.heap hx hy]
  refine ⟨rfl,fun k hk=>?_⟩
  cases hc:zd9 T x y with
  |false=>rw [hc] at hk;cases hk
  |true=>rw [hc] at hk;cases hk;exact zjZ h hx hy
 ·rename_i args ts
  refine ⟨rfl,fun k hk=>?_⟩
  split at hk
  ·rename_i x t e1 e2
   cases hk
   exact zmY h (hop x (by simp [Op.operands,Call.operands];rw [← Array.mem_toList_iff,e1];simp))
  ·cases hk
 ·rename_i d args ts
  split
  ·rename_i x y t t' e1 e2
   have mx:x∈(Op.operands (.call ⟨.builtin .append,args,ts⟩)).toList:=by simp [Op.operands,Call.operands];rw [← Array.mem_toList_iff,e1];simp
   have my:y∈(Op.operands (.call ⟨.builtin .append,args,ts⟩)).toList:=by simp [Op.operands,Call.operands];rw [← Array.mem_toList_iff,e1];simp
   have hx:=hop x mx
   have hy:=hop y my
   rw [zrr hx,zm1 h.heap hy]
   refine ⟨rfl,fun k hk=>?_⟩
   cases hc:zd8 T x with
   |true=>
    rw [hc] at hk;cases hk
    exact .chk (znS h (fun t e=>hf t (e ▸ mx)) (fun t e=>hf t (e ▸ my)))
   |false=>
    rw [hc,cond_false] at hk
    cases hc2:isO T y with
    |true=>rw [hc2] at hk;cases hk;exact .chk (znT h hx hy)
    |false=>rw [hc2] at hk;cases hk
  ·exact ⟨rfl,fun k hk=>by cases hk⟩
 ·rename_i d t m parts
  split
  ·rename_i i y e1
   have hy:=hop y (by simp [Op.operands];exact ⟨i,by rw [← Array.mem_toList_iff,e1];simp⟩)
   rw [hy]
   refine ⟨rfl,fun k hk=>?_⟩
   cases hc:(C.own (xu P t) && zcI (zt (T.op y)) (C.nst (xu P t))) with
   |true=>rw [hc] at hk;cases hk;exact .chk (zj0 h hy)
   |false=>rw [hc] at hk;cases hk
  ·exact ⟨rfl,fun k hk=>by cases hk⟩
 ·rename_i d t x y
  refine ⟨rfl,fun k hk=>?_⟩
  cases hc:C.own (xu P t) with
  |true=>rw [hc] at hk;cases hk;exact zmZ h (hop x (by simp [Op.operands]))
  |false=>rw [hc] at hk;cases hk
 ·rename_i d t x hi mx
  have hx:=hop x (by simp [Op.operands])
  rw [zm1 h.heap hx]
  refine ⟨rfl,fun k hk=>?_⟩
  cases hc:isO T x with
  |true=>rw [hc] at hk;cases hk;exact zm0 h hx (hop hi (by simp [Op.operands])) (hop mx (by simp [Op.operands]))
  |false=>rw [hc] at hk;cases hk
 ·exact ⟨rfl,fun k hk=>by cases hk⟩
end
end Go.Px
namespace Go.Px
set_option linter.unusedSectionVars false
variable [Dfr]
set_option linter.unusedVariables false
section
variable {C:Cod}{S T:St C}{P:Program}{D:Nat→Prop}
def vG (D:Nat→Prop) (ts:List (Nat×Sh)):Prop:=∀ q∈ts,¬ D q.1
omit [Dfr] in
theorem zpO (h:EqX D S T):∀ {ts:List (Nat×Sh)},vG D ts→fzT S ts=fzT T ts
 |[],_=>rfl
 |(t,s)::ts,hf=>by
  unfold fzT
  rw [h.env t (hf (t,s) (by simp)),zpO h fun q hq=>hf q (List.mem_cons_of_mem _ hq)]
omit [Dfr] in
theorem zrt {es:List ESh}{t:Nat}{s:Sh}{p:Nat}(h:EqX D S T) (ht:¬ D t):EqX D (nilA1 es t s p S) (nilA1 es t s p T):=by
 unfold nilA1
 rw [h.env t ht,h.heap]
 split
 ·split
  ·cases isNone (T.heap _) with
   |true=>exact h.put t _
   |false=>exact h
  ·exact h
 ·exact h
omit [Dfr] in
theorem zm2 {es:List ESh}{t:Nat}(ht:¬ D t):∀ (l:List Sh) (p:Nat) {S T:St C},EqX D S T→EqX D (nilA es t l p S) (nilA es t l p T)
 |[],_,S,T,h=>h
 |s::l,p,S,T,h=>zm2 ht l _ (zrt h ht)
omit [Dfr] in
theorem zaO {es:List ESh}:∀ (ts:List (Nat×Sh)) {S T:St C},EqX D S T→vG D ts→EqX D (nilT es ts S) (nilT es ts T)
 |[],S,T,h,_=>h
 |(t,s)::ts,S,T,h,hf=>by
  unfold nilT
  rw [h.env t (hf (t,s) (by simp)),h.heap]
  have hf':vG D ts:=fun q hq=>hf q (List.mem_cons_of_mem _ hq)
  split
  ·split
   ·cases isNone (T.heap _) with
    |true=>exact zaO ts (h.put t _) hf'
    |false=>exact zaO ts h hf'
   ·exact zaO ts h hf'
  ·exact zaO ts (zm2 (hf _ (List.mem_cons_self ..)) _ 0 h) hf'
  ·exact zaO ts h hf'
omit [Dfr] in
theorem zdZ (h:S.heap=T.heap) {bl:Bl}:vH S bl=vH T bl:=by
 funext k;unfold vH;rw [h]
omit [Dfr] in
theorem zjb (h:EqX D S T):∀ {ts:List (Nat×Sh)}{bl:Bl},vG D ts→zeN S ts bl=zeN T ts bl
 |[],bl,_=>rfl
 |(t,s)::ts,bl,hf=>by
  unfold zeN
  rw [h.env t (hf (t,s) (by simp)),zjb h fun q hq=>hf q (List.mem_cons_of_mem _ hq)]
omit [Dfr] in
theorem zjc (h:S.heap=T.heap):∀ {es:List ESh}{k:Nat}{bl:Bl},zeO S es k bl=zeO T es k bl
 |[],k,bl=>rfl
 |e::es,k,bl=>by
  unfold zeO
  rw [zdZ h,zjc h]
omit [Dfr] in
theorem VY (h:EqX D S T) {g:Sig}{m:Nat}(hf:vG D g.ts):ZA g m S=ZA g m T:=by
 unfold ZA
 rw [zjb h hf,zjc h.heap]
omit [Dfr] in
theorem zpP (h:S.heap=T.heap) {bl:Bl}:∀ {es:List ESh}{k:Nat},fzE S bl es k=fzE T bl es k
 |[],k=>rfl
 |e::es,k=>by
  unfold fzE
  rw [zdZ h,zpP h]
omit [Dfr] in
theorem zrT (h:EqX D S T) {es:List ESh}{id p:Nat}{s:Sh}:EqX D (nil1 es id s p S) (nil1 es id s p T):=by
 unfold nil1
 rw [h.heap]
 split
 ·split
  ·cases isNone (T.heap _) with
   |true=>exact h.heap'
   |false=>exact h
  ·exact h
 ·exact h
omit [Dfr] in
theorem zm3 {es:List ESh}{id:Nat}:∀ (l:List Sh) (p:Nat) {S T:St C},EqX D S T→EqX D (nilC es id l p S) (nilC es id l p T)
 |[],p,S,T,h=>h
 |s::l,p,S,T,h=>zm3 l _ (zrT h)
omit [Dfr] in
theorem zm4 {all:List ESh}{bl:Bl}:∀ (es:List ESh) (k:Nat) {S T:St C},EqX D S T→EqX D (nilE all bl es k S) (nilE all bl es k T)
 |[],k,S,T,h=>h
 |e::es,k,S,T,h=>by
  refine zm4 es _ ?_
  unfold zeQ
  split
  ·exact zm3 _ 0 h
  ·exact h
omit [Dfr] in
theorem zm5 (h:EqX D S T) {g:Sig}{m:Nat}(hf:vG D g.ts):EqX D (g.prep m S) (g.prep m T):=by
 unfold Sig.prep
 rw [zpO h hf]
 have h':=zaO (es:=g.es) g.ts (EqX.frz (fzT T g.ts) h) hf
 generalize nilT g.es g.ts (S.frz _)=S' at h' ⊢
 generalize nilT g.es g.ts (T.frz _)=T' at h' ⊢
 simp only
 rw [VY h' hf]
 have h2:=zm4 (all:=g.es) (bl:=ZA g m T') g.es 0 h'
 generalize nilE g.es _ g.es 0 S'=S2 at h2 ⊢
 generalize nilE g.es _ g.es 0 T'=T2 at h2 ⊢
 rw [VY h2 hf,zpP h2.heap]
 exact EqX.frz _ h2
omit [Dfr] in
theorem zm6 (h:S.heap=T.heap) {m:Nat}:∀ {es:List ESh}{k:Nat},zd7 S m es k=zd7 T m es k
 |[],_=>rfl
 |e::es,k=>by unfold zd7;rw [h,zm6 h]
omit [Dfr] in
theorem zhR (h:EqX D S T) {g:Sig}{m:Nat}{bl:Bl}(hf:vG D g.ts):xC g m S bl=xC g m T bl:=by
 unfold xC
 rw [zm6 h.heap,zdZ h.heap,show g.ts.map (fun t=>S.env t.1)=g.ts.map fun t=>T.env t.1 from List.map_congr_left fun q hq=>h.env _ (hf q hq)]
omit [Dfr] in
theorem zm7 (h:EqX D S T) (As:List (AV C.D)):EqX D (virt S As) (virt T As):=⟨h.heap,fun t ht=>by
 show (bif Nat.blt t vB then S.env t else _)=(bif Nat.blt t vB then T.env t else _)
 rw [h.env t ht]⟩
omit [Dfr] in
theorem zhS (h:EqX D S T):EqX D (unvirt S) (unvirt T):=⟨h.heap,fun t ht=>by
 show (bif Nat.blt t vB then S.env t else _)=(bif Nat.blt t vB then T.env t else _)
 rw [h.env t ht]⟩
omit [Dfr] in
theorem zjd (h:EqX D S T):EqX (fun t=>D (vB+t)) (xV S) (xV T):=⟨h.heap,fun t ht=>h.env _ ht⟩
omit [Dfr] in
theorem zeA (hD:∀ t,D t→t < vB) {g:Sig}:vG D g.shift.ts:=fun q hq=>by
 obtain ⟨p,hp,rfl⟩:=List.mem_map.1 hq
 intro hd
 have:=hD _ hd
 simp only at this;omega
def zgt (D:Nat→Prop) {ins:Sig}:Option (St C×Bl×ins.ty C)→Option (St C×Bl×ins.ty C)→Prop
 |some (S,bl,x),some (T,bl',x')=>EqX D S T∧bl=bl'∧x=x'
 |none,none=>True
 |_,_=>False
omit [Dfr] in
theorem zm8 (hp0:EqX D S T) (hD:∀ t,D t→t < vB) {ins:Sig}{N:Nat}:zgt D (xp ins S N) (xp ins T N):=by
 unfold xp
 have hf:=zeA hD (g:=ins)
 have hp:=zm5 hp0 (g:=ins.shift) (m:=0) hf
 have hb:=VY hp (g:=ins.shift) (m:=0) hf
 have hg:∀ bl,xC ins 0 (xV (ins.shift.prep 0 S)) bl=xC ins 0 (xV (ins.shift.prep 0 T)) bl:=fun bl=>zhR (zjd hp) fun q hq hd=>by
  have:=hD _ hd;omega
 simp only [hb,hg]
 cases Nat.beq N ins.ts.length && Nat.ble ins.es.length 64 with
 |false=>trivial
 |true=>
  show zgt D (Option.map _ _) (Option.map _ _)
  cases xC ins 0 (xV (ins.shift.prep 0 T)) (ZA ins.shift 0 (ins.shift.prep 0 T)) with
  |none=>trivial
  |some x=>exact ⟨hp,rfl,rfl⟩
omit [Dfr] in
theorem znU (h:EqX D S T) (hD:∀ t,D t→t < vB) {ins:Sig}{As:List (AV C.D)}:zgt D (xA ins S As) (xA ins T As):=by
 unfold xA
 have hv:=zm7 h As
 have hf:=zeA hD (g:=ins)
 have hp:=zm5 hv (g:=ins.shift) (m:=0) hf
 have hb:=VY hp (g:=ins.shift) (m:=0) hf
 have hg:∀ bl,xC ins 0 (xV (ins.shift.prep 0 (virt S As))) bl=xC ins 0 (xV (ins.shift.prep 0 (virt T As))) bl:=fun bl=>zhR (zjd hp) fun q hq hd=>by
  have:=hD _ hd;omega
 simp only [hb,hg]
 cases Nat.beq As.length ins.ts.length && Nat.ble ins.es.length 64 with
 |false=>trivial
 |true=>
  show zgt D (Option.map _ _) (Option.map _ _)
  cases xC ins 0 (xV (ins.shift.prep 0 (virt T As))) (ZA ins.shift 0 (ins.shift.prep 0 (virt T As))) with
  |none=>trivial
  |some x=>exact ⟨hp,rfl,rfl⟩
omit [Dfr] in
theorem zf3 (h:EqX D S T) {Sr:St C}{d:Nat}{bl:Bl}{es:List ESh}:EqX D (Zz S Sr d bl es) (Zz T Sr d bl es):=by
 refine ⟨?_,fun t ht=>?_⟩
 ·unfold Zz;simp only;rw [h.heap]
 ·show AV.kill _ (AV.knx _ (S.env t))=AV.kill _ (AV.knx _ (T.env t));rw [h.env t ht]
omit [Dfr] in
theorem zd0 (h:S.heap=T.heap) {Sr:St C}{d:Nat}{bl:Bl}:∀ {k:Nat},Vs S Sr d bl k=Vs T Sr d bl k
 |0=>rfl
 |k+1=>by unfold Vs;rw [h,zd0 h]
omit [Dfr] in
theorem zct {outs:List (XK×Sig)}{r:zk C outs}{f g:XE C→St C→Option (Out C)}(h:∀ e Sr,zR D (f e Sr) (g e Sr)):zR D (zO outs r f) (zO outs r g):=by
 have hf:zO outs r (fun _ _=>True):=by
  revert r
  induction outs with
  |nil=>intro r;exact r.elim
  |cons o l ih=>
   have one:∀ y:XK.ty C o.1 o.2,YD o.1 o.2 y (fun _ _=>True):=fun y=>by
    obtain ⟨k,g⟩:=o;cases k <;> trivial
   cases l with
   |nil=>intro r;exact one r
   |cons o2 l=>
    intro r
    cases r with
    |inl a=>exact one a
    |inr y=>exact ih (r:=y)
 revert r
 induction outs with
 |nil=>intro r;exact r.elim
 |cons o l ih=>
  have one:∀ y:XK.ty C o.1 o.2,zR D (YD o.1 o.2 y f) (YD o.1 o.2 y g):=fun y=>by
   obtain ⟨k,sg⟩:=o;cases k <;> exact h _ _
  cases l with
  |nil=>intro r _;exact one r
  |cons o2 l=>
   intro r hr
   cases r with
   |inl a=>exact one a
   |inr y=>exact ih (r:=y) hr
omit [Dfr] in
theorem zm9 (h:EqX D S T) {s:Spec C}{d:Nat}{bl:Bl}{x:s.ins.ty C}:zR D (Xe s d S bl x) (Xe s d T bl x):=by
 unfold Xe
 refine .bind fun r =>.chk (zct fun e Sr=>?_)
 unfold WG
 rw [zd0 h.heap]
 refine .chk ?_
 have hm:=zhS (zf3 h (Sr:=Sr) (d:=d) (bl:=bl) (es:=yf s.outs r))
 cases e with
 |ret=>exact ⟨hm.heap,(hm.put d _ (hp:=fun _=>none)).env⟩
 |pan A=>exact ⟨rfl,hm⟩
 |normal=>trivial
 |exit i=>trivial
omit [Dfr] in
theorem zf4 (h:EqX D S T) {s:Spec C}{d:Nat}{x:s.ins.ty C}:zR D (yK s d S x) (yK s d T x):=by
 unfold yK
 refine .bind fun r=>zct fun e Sr =>.chk ?_
 unfold WG
 rw [zd0 h.heap]
 refine .chk ?_
 have hm:=zhS (zf3 h (Sr:=Sr) (d:=d) (bl:=[]) (es:=yf s.outs r))
 cases e with
 |ret=>exact ⟨hm.heap,(hm.put d _ (hp:=fun _=>none)).env⟩
 |pan A=>exact ⟨rfl,hm⟩
 |normal=>trivial
 |exit i=>trivial
omit [Dfr] in
theorem zf5 (h:EqX D S T) {s:Spec C}{d:Nat}{x:s.ins.ty C}:zR D (Ya s d S x) (Ya s d T x):=by
 unfold Ya
 refine .chk (.bind fun r=>zct fun e Sr=>?_)
 unfold zaN
 cases e with
 |ret=>exact .chk ⟨h.heap,(h.put d _ (hp:=fun _=>none)).env⟩
 |pan A=>exact .chk ⟨rfl,h⟩
 |normal=>trivial
 |exit i=>trivial
omit [Dfr] in
theorem zj1 {α:Type}(h:S.heap=T.heap) {id T0:Nat}{i:Int}{K:(U:Nat)→Sl (C.D U)→Option α}:zI S id T0 i K=zI T id T0 i K:=by
 unfold zI;rw [h]
omit [Dfr] in
mutual
theorem zrU {α:Type}(h:S.heap=T.heap):∀ {A:AV C.D}{K:AV C.D→Option α},vM S A K=vM T A K
 | .nx id T i .whole,K=>zj1 h
 | .agg cs,K=>zfr h (As:=cs)
 | .nx _ _ _ (.part _ _ _),K=>rfl
 | .nx _ _ _ (.elem _ _ _),K=>rfl
 | .int _ _,K=>rfl
 | .bool _,K=>rfl
 | .str _,K=>rfl
 | .tup _,K=>rfl
 | .sl _ _ _,K=>rfl
 | .row _,K=>rfl
 | .pc _ _,K=>rfl
 | .pr _ _ _ _,K=>rfl
 | .pz _ _ _,K=>rfl
 | .pnil,K=>rfl
 | .nils,K=>rfl
 | .clo _ _,K=>rfl
 | .nilf,K=>rfl
 | .ifc _ _,K=>rfl
 | .nili,K=>rfl
 | .und,K=>rfl
theorem zfr {α:Type}(h:S.heap=T.heap):∀ {As:List (AV C.D)}{K:List (AV C.D)→Option α},WH S As K=WH T As K
 |[],K=>rfl
 |A::As,K=>by
  show vM S A _=vM T A _
  rw [zrU h (A:=A)]
  congr 1;funext B
  exact zfr h (As:=As)
end
omit [Dfr] in
mutual
theorem zrV:∀ {A:AV C.D}{f g:AV C.D→Option (Out C)},(∀ B,zR D (f B) (g B))→zR D (vM T A f) (vM T A g)
 | .nx id T0 i .whole,f,g,h=>by
  show zR D (zI T id T0 i _) (zI T id T0 i _)
  unfold zI
  split
  ·refine .chk (.bind fun q=>?_)
   split
   ·exact h _
   ·trivial
  ·trivial
 | .agg cs,f,g,h=>zfs (As:=cs) fun Bs=>h _
 | .nx _ _ _ (.part _ _ _),f,g,h=>h _
 | .nx _ _ _ (.elem _ _ _),f,g,h=>h _
 | .int _ _,f,g,h=>h _
 | .bool _,f,g,h=>h _
 | .str _,f,g,h=>h _
 | .tup _,f,g,h=>h _
 | .sl _ _ _,f,g,h=>h _
 | .row _,f,g,h=>h _
 | .pc _ _,f,g,h=>h _
 | .pr _ _ _ _,f,g,h=>h _
 | .pz _ _ _,f,g,h=>h _
 | .pnil,f,g,h=>h _
 | .nils,f,g,h=>h _
 | .clo _ _,f,g,h=>h _
 | .nilf,f,g,h=>h _
 | .ifc _ _,f,g,h=>h _
 | .nili,f,g,h=>h _
 | .und,f,g,h=>h _
theorem zfs:∀ {As:List (AV C.D)}{f g:List (AV C.D)→Option (Out C)},(∀ Bs,zR D (f Bs) (g Bs))→zR D (WH T As f) (WH T As g)
 |[],f,g,h=>h _
 |A::As,f,g,h=>zrV (A:=A) fun B=>zfs (As:=As) fun Bs=>h _
end
omit [Dfr] in
theorem zru (h:EqX D S T) (hD:∀ t,D t→t < vB) (As Bs:List (AV C.D)):EqX D (zeu S As Bs) (zeu T As Bs):=by
 have h1:=EqX.frz (AV.nxss As) (zm7 h As)
 refine ⟨h1.heap,fun t ht=>?_⟩
 show (bif Nat.blt t vB then _ else match zan As Bs (t - vB) with | some B=>B | none=>_)=(bif Nat.blt t vB then _ else match zan As Bs (t - vB) with | some B=>B | none=>_)
 rw [h1.env t ht]
omit [Dfr] in
theorem zft (hD:∀ t,D t→t < vB):∀ {ts:List (Nat×Sh)}{S T:St C}{f g:St C→Option (Out C)},EqX D S T→(∀ S1 T1,EqX D S1 T1→zR D (f S1) (g T1))→zR D (Wb ts S f) (Wb ts T g)
 |[],S,T,f,g,h,k=>k _ _ h
 |(t,s)::ts,S,T,f,g,h,k=>by
  unfold Wb
  have hn:¬ D (vB+t):=fun hd=>by have:=hD _ hd;omega
  have hc:∀ id,wl S id=wl T id:=fun id=>by unfold wl;rw [h.heap]
  rw [h.env _ hn]
  split
  ·rename_i T0 o id off _
   rw [hc]
   have h1:=EqX.frz (wl T id) h
   rw [h1.heap]
   split
   ·refine .bind fun q=>zft hD ?_ k
    have h2:=h1.sub id .und
    rw [h2.heap]
    exact h2.put (vB+t) _
   ·trivial
  ·exact zft hD h k
omit [Dfr] in
theorem zf6 (h:EqX D S T) (hD:∀ t,D t→t < vB) {d f:Nat}{As:List (AV C.D)}:∀ {Γ:List (Spec C)},zR D (Xf Γ S d f As) (Xf Γ T d f As)
 |[]=>trivial
 |s::Γ=>by
  unfold Xf
  cases (Nat.beq s.f f && (s.view || s.viewO)) with
  |false=>exact zf6 h hD
  |true=>
   simp only [cond_true]
   rw [zfr h.heap]
   refine zfs fun Bs =>.chk (zft hD (zru h hD As Bs) fun S1 T1 h1=>?_)
   have hl:=zm8 h1 hD (ins:=s.ins) (N:=As.length)
   generalize xp s.ins S1 As.length=a at hl
   generalize xp s.ins T1 As.length=b at hl
   match a,b,hl with
   |none,none,_=>trivial
   |some (S2,bl,x),some (T2,_,_),⟨h2,rfl,rfl⟩=>
    show zR D (bif s.view then Ya s d S x else yK s d S x) (bif s.view then Ya s d T x else yK s d T x)
    cases s.view with
    |true=>exact zf5 h
    |false=>exact zf4 h
omit [Dfr] in
theorem zcu (h:EqX D S T) (hD:∀ t,D t→t < vB) {Γ0:List (Spec C)}{d f:Nat}{As:List (AV C.D)}:∀ {Γ:List (Spec C)},zR D (xq Γ0 Γ S d f As) (xq Γ0 Γ T d f As)
 |[]=>zf6 h hD
 |s::Γ=>by
  unfold xq
  cases Nat.beq s.f f with
  |false=>exact zcu h hD
  |true=>
   simp only [cond_true]
   have hl:=znU h hD (ins:=s.ins) (As:=As)
   generalize xA s.ins S As=a at hl
   generalize xA s.ins T As=b at hl
   match a,b,hl with
   |none,none,_=>exact zcu h hD
   |some (S2,bl,x),some (T2,_,_),⟨h2,rfl,rfl⟩=>
    show zR D (bif s.view then Ya s d S x else bif s.viewO then yK s d S x else Xe s d S2 bl x) (bif s.view then Ya s d T x else bif s.viewO then yK s d T x else Xe s d T2 bl x)
    cases s.view with
    |true=>exact zf5 h
    |false=>
     cases s.viewO with
     |true=>exact zf4 h
     |false=>exact zm9 h2
omit [Dfr] in
theorem znV (h:EqX D S T) (hD:∀ t,D t→t < vB) {d f:Nat}{As:List (AV C.D)}{Γ:List (Spec C)}:zR D (Vt Γ S d f As) (Vt Γ T d f As):=zcu h hD
omit [Dfr] in
theorem zeB (h:EqX D S T) {ty:TypeId}{op:Op}(hf:vF D op.operands.toList):yH P S ty op=yH P T ty op:=zi7 (h.ops hf) fun id _=>by rw [h.heap]
omit [Dfr] in
theorem zR.map {x:Option (AV C.D)}{d:Nat}(h:EqX D S T):zR D (x.map fun A =>.go (S.put d A)) (x.map fun A =>.go (T.put d A)):=by
 cases x with
 |none=>trivial
 |some A=>exact ⟨h.heap,(h.put d A (hp:=fun _=>Option.none)).env⟩
omit [Dfr] in
theorem zf7 (h:EqX D S T) {x:Operand}(hx:S.op x=T.op x):zR D (XY S x) (XY T x):=by
 unfold XY
 rw [hx]
 split
 ·exact .chk ⟨rfl,h⟩
 ·trivial
omit [Dfr] in
theorem zeC (h:EqX D S T) {d:Nat}{ty t:TypeId}{x:Operand}{lo hi:Option Operand}(hx:S.op x=T.op x) (hf:vF D (Op.slice t x lo hi none).operands.toList):zR D (yJ P S d ty t x lo hi) (yJ P T d ty t x lo hi):=by
 unfold yJ
 rw [hx]
 split
 ·rename_i id e
  have h1:=EqX.frz1 h id
  rw [zeB h1 hf]
  exact .bind fun A=>⟨h1.heap,(h1.put d A (hp:=fun _=>none)).env⟩
 ·trivial
omit [Dfr] in
theorem zj2 (h:EqX D S T) {q:Opts}{d:Nat}{ty t:TypeId}{x:Operand}{lo hi mx:Option Operand}(hf:vF D (Op.slice t x lo hi mx).operands.toList):zR D (xL q P S d ty t x lo hi mx) (xL q P T d ty t x lo hi mx):=by
 have hop:=h.ops hf
 have hx:S.op x=T.op x:=hop x (by simp [Op.operands])
 unfold xL
 split
 ·cases q.fs with
  |true=>exact zeC h hx hf
  |false=>
   have h1:∀ y,hi=some y→S.op y=T.op y:=fun y e=>hop y (by subst e;simp [Op.operands])
   have h2:∀ y,(none:Option Operand)=some y→S.op y=T.op y:=fun y e=>by cases e
   exact zf2 h hx h1 h2
 ·have h1:∀ y,hi=some y→S.op y=T.op y:=fun y e=>hop y (by subst e;simp [Op.operands])
  have h2:∀ y,mx=some y→S.op y=T.op y:=fun y e=>hop y (by subst e;simp [Op.operands])
  exact zf2 h hx h1 h2
 ·exact zeC h hx hf
 ·trivial
omit [Dfr] in
theorem zna (h:EqX D S T) {d:Nat}{t t':TypeId}{x:Operand}(hx:S.op x=T.op x):zR D (yI P S d t t' x) (yI P T d t t' x):=by
 unfold yI
 rw [hx]
 split
 ·split
  ·exact .chk (.bind fun l=>⟨h.heap,(h.put d _ (hp:=fun _=>none)).env⟩)
  ·trivial
 ·trivial
omit [Dfr] in
theorem zrv (h:EqX D S T) {d:Nat}{t t':TypeId}{x:Operand}(hx:S.op x=T.op x):zR D (Wa P S d t t' x) (Wa P T d t t' x):=by
 unfold Wa
 rw [hx]
 split
 ·split
  ·rw [zi9 h.heap]
   exact .chk (.bind fun ts =>.bind fun l=>⟨h.heap,(h.put d _ (hp:=fun _=>none)).env⟩)
  ·trivial
 ·trivial
omit [Dfr] in
theorem zrW {q:Opts}{Γ:List (Spec C)}{n:Nat}{o:Oper}(h:EqX D S T) (hD:∀ t,D t→t < vB) (hf:vF D o.op.operands.toList):zR D (Vu q Γ P n o S) (Vu q Γ P n o T):=by
 obtain ⟨dst,op,ty,ps,af,g⟩:=o
 have hop:=h.ops hf
 simp only at hf hop
 unfold Vu
 cases dst with
 |none=>
  simp only
  split
  ·rename_i t x y
   exact zmX h (fun t e=>hf t (by simp [Op.operands,e])) (fun t e=>hf t (by simp [Op.operands,e]))
  ·rename_i x;exact zf7 h (hop x (by simp [Op.operands]))
  ·trivial
 |some d=>
  simp only
  refine .chk ?_
  have rd:∀ op',op'=op→zR D ((yH P S ty op').map fun A =>.go (S.put d A)) ((yH P T ty op').map fun A =>.go (T.put d A)):=fun op' e=>by
   subst e;rw [zeB h hf];exact .map h
  unfold xM
  split
  ·exact zmW h
  ·rename_i t x
   rw [hop x (by simp [Op.operands])]
   refine .chk ?_
   cases C.bz t with
   |true=>exact .bind fun q=>zR.map (x:=some (.pz _ q 0)) h
   |false=>exact zi8 h
  ·rename_i t x y;exact znR h (hop x (by simp [Op.operands]))
  ·rename_i t m parts;exact zjY h (by simpa [Op.operands] using hf)
  ·rename_i t x lo hi mx
   rw [zeB h hf]
   split
   ·exact ⟨h.heap,(h.put d _ (hp:=fun _=>none)).env⟩
   ·exact zj2 h hf
  ·rename_i t t' x
   have hx:=hop x (by simp [Op.operands])
   rw [zeB h hf]
   split
   ·exact ⟨h.heap,(h.put d _ (hp:=fun _=>none)).env⟩
   ·have h1:=zna (P:=P) h (d:=d) (t:=t) (t':=t') hx
    have h2:=zrv (P:=P) h (d:=d) (t:=t) (t':=t') hx
    revert h1
    cases yI P S d t t' x <;> cases yI P T d t t' x <;> intro h1
    ·exact h2
    ·exact h1.elim
    ·rename_i o;cases o <;> exact h1.elim
    ·exact h1
  ·rename_i c args ts
   have ha:args.toList.map S.op=args.toList.map T.op:=List.map_congr_left fun x hx=>hop x (by simp [Op.operands,Call.operands];exact .inr (by simpa using hx))
   rw [hop c (by simp [Op.operands,Call.operands]),ha]
   split
   ·exact zR.chk (znV h hD)
   ·trivial
  ·rename_i args ts
   split
   ·rename_i x y t t' e1 e2
    have ha:∀ z∈args.toList,S.op z=T.op z:=fun z hz=>hop z (by simp [Op.operands,Call.operands];simpa using hz)
    rw [e1] at ha
    exact .chk (zez h (ha x (by simp)) (ha y (by simp)))
   ·trivial
  ·rename_i x;exact zf7 h (hop x (by simp [Op.operands]))
  ·exact rd _ rfl
omit [Dfr] in
theorem ztD {q:Opts}{Γ:List (Spec C)}{n:Nat}{o:Oper}(h:EqX D S T) (hD:∀ t,D t→t < vB) (hf:vF D o.op.operands.toList):zR D (stp q Γ P n o S) (stp q Γ P n o T):=by
 obtain ⟨h1,h2⟩:=zrs (P:=P) (dst:=o.dst) h hf
 unfold stp
 rw [h1]
 cases hk:xW P T o.dst o.op with
 |some k=>exact .chk (h2 k hk)
 |none=>exact zrW h hD hf
end
end Go.Px
namespace Go.Px
set_option linter.unusedSectionVars false
variable [Dfr]
set_option linter.unusedVariables false
def xo (id:Nat):Nat:=id+1099511627776
mutual
def AV.avoid {D:Nat→Type}(l:List Nat):AV D→Bool
 | .row id=> !zx id l
 | .pc id _=> !zx id l
 | .pr id _ _ _=> !zx id l
 | .nx id _ _ _=> !zx id l && !zx (xo id) l
 | .agg cs=>AV.avoids l cs
 | .tup cs=>AV.avoids l cs
 | .clo _ cs=>AV.avoids l cs
 | .ifc _ A=>AV.avoid l A
 |_=>true
def AV.avoids {D:Nat→Type}(l:List Nat):List (AV D)→Bool
 |[]=>true
 |A::As=>AV.avoid l A && AV.avoids l As
end
omit [Dfr] in
mutual
theorem zcv {D:Nat→Type}{l:List Nat}{id:Nat}{R:AV D}(hm:zx id l=true):∀ {A:AV D},A.avoid l=true→AV.sub id R A=A
 | .row j,h=>by
  unfold AV.sub
  cases e:Nat.beq j id with
  |true=>
   have:=Nat.eq_of_beq_eq_true e;subst this
   simp only [AV.avoid,hm] at h;cases h
  |false=>rfl
 | .pc j o,h=>by
  unfold AV.sub
  cases e:Nat.beq j id with
  |true=>
   have:=Nat.eq_of_beq_eq_true e;subst this
   simp only [AV.avoid,hm] at h;cases h
  |false=>rfl
 | .pr j _ _ _,h=>by
  unfold AV.sub
  cases e:Nat.beq j id with
  |true=>
   have:=Nat.eq_of_beq_eq_true e;subst this
   simp only [AV.avoid,hm] at h;cases h
  |false=>rfl
 | .nx j _ _ _,h=>by
  unfold AV.sub
  cases e:Nat.beq j id with
  |true=>
   have:=Nat.eq_of_beq_eq_true e;subst this
   simp only [AV.avoid,hm] at h;cases h
  |false=>rfl
 | .agg cs,h=>by unfold AV.sub;rw [WJ hm h]
 | .tup cs,h=>by unfold AV.sub;rw [WJ hm h]
 | .clo f cs,h=>by unfold AV.sub;rw [WJ hm h]
 | .ifc t A,h=>by unfold AV.sub;rw [zcv hm (A:=A) h]
 | .int _ _,_=>rfl
 | .bool _,_=>rfl
 | .str _,_=>rfl
 | .sl _ _ _,_=>rfl
 | .pz _ _ _,_=>rfl
 | .pnil,_=>rfl
 | .nils,_=>rfl
 | .nilf,_=>rfl
 | .nili,_=>rfl
 | .und,_=>rfl
theorem WJ {D:Nat→Type}{l:List Nat}{id:Nat}{R:AV D}(hm:zx id l=true):∀ {A:List (AV D)},AV.avoids l A=true→AV.subs id R A=A
 |[],_=>rfl
 |A::As,h=>by
  simp only [AV.avoids,Bool.and_eq_true] at h
  unfold AV.subs;rw [zcv hm h.1,WJ hm h.2]
end
omit [Dfr] in
mutual
theorem zbm {D:Nat→Type}{l:List Nat}{p:Nat→Bool}(hp:∀ i,p i=true→zx i l=true):∀ {A:AV D},A.avoid l=true→AV.kill p A=A
 | .row j,h=>by
  unfold AV.kill
  cases e:p j with
  |true=>simp only [AV.avoid,hp j e] at h;cases h
  |false=>rfl
 | .pc j o,h=>by
  unfold AV.kill
  cases e:p j with
  |true=>simp only [AV.avoid,hp j e] at h;cases h
  |false=>rfl
 | .pr j _ _ _,h=>by
  unfold AV.kill
  cases e:p j with
  |true=>simp only [AV.avoid,hp j e] at h;cases h
  |false=>rfl
 | .nx j _ _ _,h=>by
  unfold AV.kill
  cases e:p j with
  |true=>simp only [AV.avoid,hp j e] at h;cases h
  |false=>rfl
 | .agg cs,h=>by unfold AV.kill;rw [wY hp h]
 | .tup cs,h=>by unfold AV.kill;rw [wY hp h]
 | .clo f cs,h=>by unfold AV.kill;rw [wY hp h]
 | .ifc t A,h=>by unfold AV.kill;rw [zbm hp (A:=A) h]
 | .int _ _,_=>rfl
 | .bool _,_=>rfl
 | .str _,_=>rfl
 | .sl _ _ _,_=>rfl
 | .pz _ _ _,_=>rfl
 | .pnil,_=>rfl
 | .nils,_=>rfl
 | .nilf,_=>rfl
 | .nili,_=>rfl
 | .und,_=>rfl
theorem wY {D:Nat→Type}{l:List Nat}{p:Nat→Bool}(hp:∀ i,p i=true→zx i l=true):∀ {A:List (AV D)},AV.avoids l A=true→AV.kills p A=A
 |[],_=>rfl
 |A::As,h=>by
  simp only [AV.avoids,Bool.and_eq_true] at h
  unfold AV.kills;rw [zbm hp h.1,wY hp h.2]
end
omit [Dfr] in
mutual
theorem VZ {D:Nat→Type}{l:List Nat}{p:Nat→Bool}(hp:∀ i,p i=true→zx (xo i) l=true):∀ {A:AV D},A.avoid l=true→AV.knx p A=A
 | .row j,h=>rfl
 | .pc j o,h=>rfl
 | .pr j _ _ _,h=>rfl
 | .nx j _ _ _,h=>by
  unfold AV.knx
  cases e:p j with
  |true=>simp only [AV.avoid,hp j e,Bool.not_true,Bool.and_false] at h;cases h
  |false=>rfl
 | .agg cs,h=>by unfold AV.knx;rw [wG hp h]
 | .tup cs,h=>by unfold AV.knx;rw [wG hp h]
 | .clo f cs,h=>by unfold AV.knx;rw [wG hp h]
 | .ifc t A,h=>by unfold AV.knx;rw [VZ hp (A:=A) h]
 | .int _ _,_=>rfl
 | .bool _,_=>rfl
 | .str _,_=>rfl
 | .sl _ _ _,_=>rfl
 | .pz _ _ _,_=>rfl
 | .pnil,_=>rfl
 | .nils,_=>rfl
 | .nilf,_=>rfl
 | .nili,_=>rfl
 | .und,_=>rfl
theorem wG {D:Nat→Type}{l:List Nat}{p:Nat→Bool}(hp:∀ i,p i=true→zx (xo i) l=true):∀ {A:List (AV D)},AV.avoids l A=true→AV.knxs p A=A
 |[],_=>rfl
 |A::As,h=>by
  simp only [AV.avoids,Bool.and_eq_true] at h
  unfold AV.knxs;rw [VZ hp h.1,wG hp h.2]
end
section
variable {C:Cod}{S T:St C}{P:Program}
def Ent.avoid (l:List Nat):Ent C→Bool
 | .cell cs=>AV.avoids l cs
 | .row _ _=>true
 | .obj _ _ _ _=>true
 | .orow _ _ _=>true
def zhT (l:List Nat):Option (Ent C)→Bool
 |some e=>e.avoid l
 |none=>true
structure Keeps (S T:St C) (d:Option Nat) (l:List Nat) (p:Nat→Bool):Prop where
 env:∀ t,t < vB→d≠some t→(S.env t).avoid l=true→T.env t=S.env t
 heap:∀ id,p id=false→zhT l (S.heap id)=true→T.heap id=S.heap id
omit [Dfr] in
theorem Keeps.refl (S:St C) {d:Option Nat}{l:List Nat}{p:Nat→Bool}:Keeps S S d l p:=⟨fun _ _ _ _=>rfl,fun _ _ _=>rfl⟩
omit [Dfr] in
theorem Keeps.trans {U:St C}{d:Option Nat}{l:List Nat}{p:Nat→Bool}(h:Keeps S T d l p) (k:Keeps T U d l p):Keeps S U d l p:=
 ⟨fun t h1 h2 h3=>by have e:=h.env t h1 h2 h3;rw [k.env t h1 h2 (by rw [e];exact h3),e],fun id h1 h2=>by have e:=h.heap id h1 h2;rw [k.heap id h1 (by rw [e];exact h2),e]⟩
omit [Dfr] in
theorem Keeps.sub {id:Nat}{R:AV C.D}{d:Option Nat}{l:List Nat}{p:Nat→Bool}(hm:zx id l=true) (hp:p id=true):Keeps S (S.sub id R) d l p:=by
 refine ⟨fun t _ _ h=>zcv hm h,fun j hj h=>?_⟩
 show (bif Nat.beq j id then none else (S.heap j).map (Ent.sub id R))=S.heap j
 cases e:Nat.beq j id with
 |true=>have:=Nat.eq_of_beq_eq_true e;subst this;rw [hp] at hj;cases hj
 |false=>
  simp only [cond_false]
  cases hs:S.heap j with
  |none=>rfl
  |some en=>
   rw [hs] at h
   cases en with
   |row T s=>rfl
   |obj q T b s=>rfl
   |orow T s g=>rfl
   |cell cs=>show some (Ent.cell (AV.subs id R cs))=_;rw [WJ hm h]
omit [Dfr] in
theorem zbn (S:St C) (id:Nat):(∃ R,S.frz1 id=S.sub id R)∨S.frz1 id=S:=by
 unfold St.frz1
 split
 ·exact .inl ⟨_,rfl⟩
 ·rename_i T s g _
  cases g.rd with
  |true=>exact .inl ⟨_,rfl⟩
  |false=>exact .inr rfl
 ·exact .inr rfl
omit [Dfr] in
theorem Keeps.frz {d:Option Nat}{l:List Nat}{p:Nat→Bool}:∀ (r:List Nat) {S:St C},(∀ id∈r,zx id l=true∧p id=true)→Keeps S (S.frz r) d l p
 |[],S,_ =>.refl S
 |id::r,S,h=>by
  have h1:=h id (by simp)
  have k:Keeps S (S.frz1 id) d l p:=by
   rcases zbn S id with ⟨R,e⟩ | e
   ·rw [e];exact .sub h1.1 h1.2
   ·rw [e];exact .refl S
  exact k.trans (Keeps.frz r fun j hj=>h j (List.mem_cons_of_mem _ hj))
omit [Dfr] in
theorem Keeps.new {d id:Nat}{A:AV C.D}{e:Option (Ent C)}{l:List Nat}{p:Nat→Bool}(hp:p id=true):Keeps S {env:=upd S.env d A,heap:=upd S.heap id e} (some d) l p:=
 ⟨fun t _ h2 _=>zr fun e=>h2 (by rw [e]),fun j hj _=>zr fun e=>by subst e;rw [hp] at hj;cases hj⟩
omit [Dfr] in
theorem Keeps.ent {id:Nat}{e:Option (Ent C)}{d:Option Nat}{l:List Nat}{p:Nat→Bool}(hp:p id=true):Keeps S {S with heap:=upd S.heap id e} d l p:=
 ⟨fun t _ _ _=>rfl,fun j hj _=>zr fun e=>by subst e;rw [hp] at hj;cases hj⟩
omit [Dfr] in
theorem Keeps.put {d:Nat}{A:AV C.D}{l:List Nat}{p:Nat→Bool}:Keeps S (S.put d A) (some d) l p:=⟨fun t _ h2 _=>zr fun e=>h2 (by rw [e]),fun j _ _=>rfl⟩
omit [Dfr] in
theorem Keeps.virt {As:List (AV C.D)}{d:Option Nat}{l:List Nat}{p:Nat→Bool}:Keeps S (virt S As) d l p:=⟨fun t ht _ _=>by
 show (bif Nat.blt t vB then S.env t else _)=_
 rw [show Nat.blt t vB=true from by rw [Nat.blt_eq];exact ht];rfl,fun j _ _=>rfl⟩
omit [Dfr] in
theorem Keeps.unvirt {d:Option Nat}{l:List Nat}{p:Nat→Bool}:Keeps S (unvirt S) d l p:=⟨fun t ht _ _=>by
 show (bif Nat.blt t vB then S.env t else _)=_
 rw [show Nat.blt t vB=true from by rw [Nat.blt_eq];exact ht];rfl,fun j _ _=>rfl⟩
omit [Dfr] in
theorem Keeps.nilA1 {es:List ESh}{t q:Nat}{s:Sh}{d:Option Nat}{l:List Nat}{p:Nat→Bool}(hp:∀ id,1048576≤id→p id=true) (ht:vB≤t):Keeps S (nilA1 es t s q S) d l p:=by
 unfold Px.nilA1
 split
 ·split
  ·cases isNone (S.heap _) with
   |true=>
    refine ⟨fun t' ht' _ _=>zr fun e=>?_,fun j hj _=>zr fun e=>?_⟩
    ·omega
    ·rw [hp j (by omega)] at hj;cases hj
   |false=>exact .refl S
  ·exact .refl S
 ·exact .refl S
omit [Dfr] in
theorem Keeps.nilA {es:List ESh}{t:Nat}{d:Option Nat}{l:List Nat}{p:Nat→Bool}(hp:∀ id,1048576≤id→p id=true) (ht:vB≤t):∀ (sl:List Sh) (q:Nat) {S:St C},Keeps S (nilA es t sl q S) d l p
 |[],q,S =>.refl S
 |s::sl,q,S=>(Keeps.nilA1 hp ht).trans (Keeps.nilA hp ht sl _)
omit [Dfr] in
theorem Keeps.nilT {es:List ESh}{d:Option Nat}{l:List Nat}{p:Nat→Bool}(hp:∀ id,1048576≤id→p id=true):∀ (ts:List (Nat×Sh)) {S:St C},(∀ q∈ts,vB≤q.1)→Keeps S (nilT es ts S) d l p
 |[],S,_ =>.refl S
 |(t,s)::ts,S,hts=>by
  have hts':∀ q∈ts,vB≤q.1:=fun q hq=>hts q (List.mem_cons_of_mem _ hq)
  unfold Px.nilT
  split
  ·split
   ·cases isNone (S.heap _) with
    |false=>exact Keeps.nilT hp ts hts'
    |true=>
     refine Keeps.trans ?_ (Keeps.nilT hp ts hts')
     refine ⟨fun t' ht' _ _=>zr fun e=>?_,fun j hj _=>zr fun e=>?_⟩
     ·have:=hts _ (List.mem_cons_self ..);simp only at this;omega
     ·rw [hp j (by omega)] at hj;cases hj
   ·exact Keeps.nilT hp ts hts'
  ·exact (Keeps.nilA hp (hts _ (List.mem_cons_self ..)) _ 0).trans (Keeps.nilT hp ts hts')
  ·exact Keeps.nilT hp ts hts'
omit [Dfr] in
theorem Keeps.nil1 {es:List ESh}{id q:Nat}{s:Sh}{d:Option Nat}{l:List Nat}{p:Nat→Bool}(hp:∀ id,1048576≤id→p id=true) (hid:p id=true):Keeps S (nil1 es id s q S) d l p:=by
 unfold Px.nil1
 split
 ·split
  ·cases isNone (S.heap _) with
   |true=>
    refine ⟨fun _ _ _ _=>rfl,fun j hj _=>?_⟩
    show upd (upd S.heap _ _) id _ j=S.heap j
    have e1:j≠id:=fun e=>by subst e;rw [hid] at hj;cases hj
    rw [zr e1]
    exact zr fun e=>by rw [hp j (by omega)] at hj;cases hj
   |false=>exact .refl S
  ·exact .refl S
 ·exact .refl S
omit [Dfr] in
theorem Keeps.nilC {es:List ESh}{id:Nat}{d:Option Nat}{l:List Nat}{p:Nat→Bool}(hp:∀ id,1048576≤id→p id=true) (hid:p id=true):∀ (sl:List Sh) (q:Nat) {S:St C},Keeps S (nilC es id sl q S) d l p
 |[],q,S =>.refl S
 |s::sl,q,S=>(Keeps.nil1 hp hid).trans (Keeps.nilC hp hid sl _)
omit [Dfr] in
theorem Keeps.nilE {all:List ESh}{bl:Bl}{d:Option Nat}{l:List Nat}{p:Nat→Bool}(hp:∀ id,1048576≤id→p id=true) (hb:∀ id,Z7 id bl=true→p id=true):∀ (es:List ESh) (k:Nat) {S:St C},Keeps S (nilE all bl es k S) d l p
 |[],k,S =>.refl S
 |e::es,k,S=>by
  refine Keeps.trans ?_ (Keeps.nilE hp hb es _)
  unfold zeQ
  split
  ·rename_i id e';exact Keeps.nilC hp (hb id (X1 e')) _ 0
  ·exact .refl S
def zpQ (g:Sig) (m:Nat) (S:St C):Bl:=ZA g m (nilT g.es g.ts (S.frz (fzT S g.ts)))
def zeD (g:Sig) (m:Nat) (S:St C):List Nat:=
 let S1:=nilT g.es g.ts (S.frz (fzT S g.ts))
 let S2:=nilE g.es (ZA g m S1) g.es 0 S1
 fzT S g.ts++fzE S2 (ZA g m S2) g.es 0
omit [Dfr] in
theorem Keeps.prep {g:Sig}{m:Nat}{d:Option Nat}{l:List Nat}{p:Nat→Bool}(hp:∀ id,1048576≤id→p id=true) (hts:∀ q∈g.ts,vB≤q.1) (hb:∀ id,Z7 id (zpQ g m S)=true→p id=true) (hf:∀ id∈zeD g m S,zx id l=true∧p id=true):Keeps S (g.prep m S) d l p:=by
 unfold Sig.prep
 simp only
 refine (Keeps.frz _ fun id hid=>hf id (by unfold zeD;simp only;exact List.mem_append_left _ hid)).trans ((Keeps.nilT hp g.ts hts).trans ((Keeps.nilE hp hb g.es 0).trans (Keeps.frz _ fun id hid=>hf id (by unfold zeD;simp only;exact List.mem_append_right _ hid))))
omit [Dfr] in
theorem zaP (d k:Nat) (hk:k < 64):nid d k / 64=d+1:=by unfold nid;omega
omit [Dfr] in
theorem Keeps.merge {Sr:St C}{d:Nat}{bl:Bl}{es:List ESh}{l:List Nat}{p:Nat→Bool}(hg:∀ id∈Y9 es bl,zx id l=true∧p id=true) (hb:∀ id,Z7 id bl=true→p id=true) (hn:∀ k,k < 64→p (nid d k)=true) (hes:es.length≤64) (hx:∀ id,Z7 id bl=true→zx (xo id) l=true):Keeps S (Zz S Sr d bl es) (some d) l p:=by
 have hg':∀ i,zx i (Y9 es bl)=true→zx i l=true:=fun i hi=>(hg i (zN.1 hi)).1
 refine ⟨fun t _ _ h=>by show AV.kill _ (AV.knx _ (S.env t))=_;rw [VZ (fun id hid=>hx id (by simp only [Bool.and_eq_true] at hid;exact hid.1)) h,zbm hg' h],fun j hj h=>?_⟩
 have e1:(Zz S Sr d bl es).heap j=bif zx j (Y9 es bl) then none else (S.heap j).map fun e=>Ent.kill (fun i=>zx i (Y9 es bl)) (Ent.knx (fun i=>Z7 i bl && !zx i (kpL Sr bl 0)) e):=by
  refine vL fun k e he hge=>?_
  rw [Nat.zero_add]
  intro e'
  unfold Xd at e'
  split at e'
  ·rename_i id hid
   subst e'
   rw [hb _ (X1 hid)] at hj;cases hj
  ·subst e'
   rw [hn k (by have:=(List.getElem?_eq_some_iff.1 he).1;omega)] at hj;cases hj
 rw [e1]
 cases hm:zx j (Y9 es bl) with
 |true=>rw [(hg j (zN.1 hm)).2] at hj;cases hj
 |false=>
  simp only [cond_false]
  cases hs:S.heap j with
  |none=>rfl
  |some en=>
   rw [hs] at h
   cases en with
   |row T s=>rfl
   |obj q T b s=>rfl
   |orow T s g=>rfl
   |cell cs=>show some (Ent.cell (AV.kills _ (AV.knxs _ cs)))=_;rw [wG (fun id hid=>hx id (by simp only [Bool.and_eq_true] at hid;exact hid.1)) h,wY hg' h]
abbrev Tch:=List Nat×(Nat→Bool)
def zeE (d:Nat):Option Tch:=some ([],fun i=>Nat.beq (i / 64) (d+1))
def zbo:Bl→List Nat
 |[]=>[]
 |some id::r=>xo id::zbo r
 |none::r=>zbo r
omit [Dfr] in
theorem zd1 {id:Nat}:∀ {bl:Bl},Z7 id bl=true→xo id∈zbo bl
 |some a::r,h=>by
  simp only [Z7,Bool.or_eq_true] at h
  rcases h with h | h
  ·rw [Nat.eq_of_beq_eq_true h];simp [zbo]
  ·exact List.mem_cons_of_mem _ (zd1 h)
 |none::r,h=>zd1 (bl:=r) h
 |[],h=>by cases h
def znb (id:Nat) (l:List Nat):Option Tch:=some (l,fun i=>Nat.beq i id || zx i l)
def Vi (Γ:List (Spec C)) (S:St C) (d f:Nat) (As:List (AV C.D)):Option Tch:=match Γ with
 |[]=>some ([],fun i=>Nat.beq (i / 64) (d+1))
 |s::Γ=>bif Nat.beq s.f f then (match xA s.ins S As with
  |some (S2,bl,x)=>bif s.view then some ([],fun _=>false) else bif s.viewO then chk (s.outs.all fun o=>Nat.ble o.2.es.length 64) (some ([],fun i=>Nat.beq (i / 64) (d+1))) else go s bl (zpQ s.ins.shift 0 (virt S As)) (zeD s.ins.shift 0 (virt S As)++((s.outs.flatMap fun o=>Y9 o.2.es bl)++zbo bl))
  |none=>Vi Γ S d f As) else Vi Γ S d f As
where
 go (s:Spec C) (bl b1:Bl) (l:List Nat):Option Tch:=chk (s.outs.all fun o=>Nat.ble o.2.es.length 64) (some (l,fun i=>zx i l || (Z7 i bl || (Nat.beq (i / 64) (d+1) || (Nat.ble 1048576 i || Z7 i b1)))))
def znW (Γ:List (Spec C)) (P:Program) (o:Oper) (S:St C):Option Tch:=match o.dst with
 |none=>match o.op with
  | .store t x y=>(match S.op x with
   | .pc id _=>znb id []
   | .pr id _ _ _=>znb id (AV.rows (S.op y))
   |_=>none)
  |_=>some ([],fun _=>false)
 |some d=>match o.op with
  | .alloc _=>zeE d
  | .box _ _=>zeE d
  | .makeSlice _ _ _=>zeE d
  | .buildSlice _ _ parts=>go d (AV.rowss (parts.toList.map fun q=>S.op q.2))
  | .call ⟨.value c,args,_⟩=>(match S.op c with
   | .clo f caps=>Vi Γ S d f (XZ (args.toList.map S.op) caps)
   |_=>none)
  | .call ⟨.builtin .append,args,_⟩=>(match args.toList with
   |[x,y]=>(match S.op x with
    | .row id=>go d [id]
    | .nils=>zeE d
    |_=>none)
   |_=>none)
  | .slice _ x _ _ _=>go d (S.op x).hid
  | .panic _=>some ([],fun _=>false)
  |_=>some ([],fun _=>false)
where
 go (d:Nat) (l:List Nat):Option Tch:=some (l,fun i=>zx i l || Nat.beq (i / 64) (d+1))
omit [Dfr] in
theorem ZQ {id:Nat}{l:List Nat}(h:id∈l):zx id l=true:=zN.2 h
omit [Dfr] in
theorem wR (d:Nat):Nat.beq (nid d 0 / 64) (d+1)=true:=by rw [zaP d 0 (by omega)];simp
omit [Dfr] in
theorem V0:∀ {outs:List (XK×Sig)}{r:zk C outs},∃ o∈outs,yf outs r=o.2.es
 |[],r=>r.elim
 |[o],r=>⟨o,by simp,rfl⟩
 |o::o2::l,r=>by
  cases r with
  |inl a=>exact ⟨o,by simp,rfl⟩
  |inr y=>
   obtain ⟨o',h1,h2⟩:=V0 (outs:=o2::l) (r:=y)
   exact ⟨o',List.mem_cons_of_mem _ h1,h2⟩
omit [Dfr] in
theorem wn {α:Type}{K:XE C→St C→Option α}{z:α}{outs:List (XK×Sig)}{r:zk C outs}(h:zO outs r K=some z):∃ e S,K e S=some z:=by
 have hq:zO outs r (fun _ _=>True):=by
  clear h
  revert r
  induction outs with
  |nil=>intro r;exact r.elim
  |cons o l ih=>
   have one:∀ y:XK.ty C o.1 o.2,YD o.1 o.2 y (fun _ _=>True):=fun y=>by
    obtain ⟨k,g⟩:=o;cases k <;> trivial
   cases l with
   |nil=>intro r;exact one r
   |cons o2 l=>
    intro r
    cases r with
    |inl a=>exact one a
    |inr y=>exact ih (r:=y)
 obtain ⟨e,S,h1,_⟩:=wk h hq
 exact ⟨e,S,h1⟩
omit [Dfr] in
theorem zgo {s:Spec C}(hvo:s.viewO=true) {d:Nat}{x:s.ins.ty C}{S':St C}(h:yK s d S x=some (.go S')):Keeps S S' (some d) [] fun i=>Nat.beq (i / 64) (d+1):=by
 simp only [Spec.viewO,Bool.and_eq_true] at hvo
 unfold yK at h
 obtain ⟨r,_,h⟩:=Option.bind_eq_some_iff.1 h
 obtain ⟨e,Sr,h⟩:=wn h
 obtain ⟨_,h⟩:=zb h
 unfold WG at h
 obtain ⟨_,h⟩:=zb h
 cases e with
 |normal=>cases h
 |exit i=>cases h
 |pan A=>cases h
 |ret=>
  cases h
  obtain ⟨o,ho,he⟩:=V0 (outs:=s.outs) (r:=r)
  have hg:Y9 (yf s.outs r) []=[]:=by cases yf s.outs r <;> rfl
  have hc:=List.all_eq_true.1 hvo.2 o ho
  simp only [Bool.and_eq_true] at hc
  refine Keeps.trans (.merge (fun id hid=>?_) (fun id hid=>?_) (fun k hk=>?_) ?_ (fun id hid=>?_)) (Keeps.trans .unvirt .put)
  ·rw [hg] at hid;cases hid
  ·cases hid
  ·simp only [zaP d k hk,Nat.beq_refl]
  ·rw [he];exact Nat.le_of_ble_eq_true hc.2
  ·cases hid
omit [Dfr] in
theorem zgp {s:Spec C}{d:Nat}{x:s.ins.ty C}{S':St C}{l:List Nat}{p:Nat→Bool}(h:Ya s d S x=some (.go S')):Keeps S S' (some d) l p:=by
 obtain ⟨_,h⟩:=zb h
 obtain ⟨r,_,h⟩:=Option.bind_eq_some_iff.1 h
 obtain ⟨e,Sr,h⟩:=wn h
 unfold zaN at h
 cases e with
 |normal=>cases h
 |exit i=>cases h
 |pan A=>obtain ⟨_,h⟩:=zb h;cases h
 |ret=>obtain ⟨_,h⟩:=zb h;cases h;exact .put
omit [Dfr] in
theorem zbV {d f:Nat}{As:List (AV C.D)}{S':St C}:∀ {Γ:List (Spec C)},Xf Γ S d f As=some (.go S')→Keeps S S' (some d) [] fun i=>Nat.beq (i / 64) (d+1)
 |[],h=>by cases h
 |s::Γ,h=>by
  unfold Xf at h
  cases hf:(Nat.beq s.f f && (s.view || s.viewO)) with
  |false=>rw [hf] at h;exact zbV h
  |true=>
   rw [hf,cond_true] at h
   obtain ⟨Bs,h,_⟩:=zbd h
   obtain ⟨_,h⟩:=zb h
   obtain ⟨T,h,_⟩:=vV h
   split at h
   ·rename_i S2 bl x hl
    cases hv:s.view with
    |true=>rw [hv] at h;exact zgp h
    |false=>
     rw [hv] at h
     simp only [Bool.and_eq_true,Bool.or_eq_true,hv] at hf
     exact zgo (by simpa using hf.2) h
   ·cases h
omit [Dfr] in
theorem zaq {Γ0:List (Spec C)}{d f:Nat}{As:List (AV C.D)}{S':St C}{l:List Nat}{p:Nat→Bool}:∀ {Γ:List (Spec C)},xq Γ0 Γ S d f As=some (.go S')→Vi Γ S d f As=some (l,p)→Keeps S S' (some d) l p
 |[],h,ht=>by cases ht;exact zbV h
 |s::Γ,h,ht=>by
  unfold xq at h
  unfold Vi at ht
  cases hf:Nat.beq s.f f with
  |false=>rw [hf] at h ht;exact zaq h ht
  |true=>
   rw [hf] at h ht
   simp only [cond_true] at h ht
   split at h
   ·rename_i S2 bl x hl
    rw [hl] at ht
    simp only at ht
    cases hv:s.view with
    |true=>
     rw [hv] at h ht
     cases ht
     simp only [cond_true] at h
     obtain ⟨_,h⟩:=zb h
     obtain ⟨r,_,h⟩:=Option.bind_eq_some_iff.1 h
     obtain ⟨e,Sr,h⟩:=wn h
     unfold zaN at h
     cases e with
     |normal=>cases h
     |exit i=>cases h
     |pan A=>obtain ⟨_,h⟩:=zb h;cases h
     |ret=>obtain ⟨_,h⟩:=zb h;cases h;exact .put
    |false=>
    rw [hv] at h ht
    rw [cond_false] at h ht
    cases hv2:s.viewO with
    |true=>
     rw [hv2] at h ht
     rw [cond_true] at h ht
     obtain ⟨hc,ht⟩:=zb ht
     cases ht
     unfold yK at h
     obtain ⟨r,_,h⟩:=Option.bind_eq_some_iff.1 h
     obtain ⟨e,Sr,h⟩:=wn h
     obtain ⟨_,h⟩:=zb h
     unfold WG at h
     obtain ⟨_,h⟩:=zb h
     cases e with
     |normal=>cases h
     |exit i=>cases h
     |pan A=>cases h
     |ret=>
      cases h
      obtain ⟨o,ho,he⟩:=V0 (outs:=s.outs) (r:=r)
      have hg:Y9 (yf s.outs r) []=[]:=by cases yf s.outs r <;> rfl
      refine Keeps.trans (.merge (fun id hid=>?_) (fun id hid=>?_) (fun k hk=>?_) ?_ (fun id hid=>?_)) (Keeps.trans .unvirt .put)
      ·rw [hg] at hid;cases hid
      ·cases hid
      ·simp only [zaP d k hk,Nat.beq_refl]
      ·rw [he];exact Nat.le_of_ble_eq_true (List.all_eq_true.1 hc o ho)
      ·cases hid
    |false=>
    rw [hv2] at h ht
    simp only [cond_false] at h ht
    obtain ⟨hc,ht⟩:=zb ht
    cases ht
    unfold xA at hl
    obtain ⟨_,hl⟩:=zb hl
    obtain ⟨x',hx,he⟩:=Option.map_eq_some_iff.1 hl
    cases he
    unfold Xe at h
    obtain ⟨r,_,h⟩:=Option.bind_eq_some_iff.1 h
    obtain ⟨_,h⟩:=zb h
    obtain ⟨e,Sr,h⟩:=wn h
    unfold WG at h
    obtain ⟨_,h⟩:=zb h
    cases e with
    |normal=>cases h
    |exit i=>cases h
    |pan A=>cases h
    |ret=>
     cases h
     obtain ⟨o,ho,he⟩:=V0 (outs:=s.outs) (r:=r)
     refine Keeps.trans .virt (Keeps.trans (.prep (g:=s.ins.shift) (m:=0) (fun id h=>?_) (fun q hq=>?_) (fun id hid=>?_) (fun id hid=>?_)) (Keeps.trans (.merge (fun id hid=>?_) (fun id hid=>?_) (fun k hk=>?_) ?_ (fun id hid=>?_)) (Keeps.trans .unvirt .put)))
     ·simp [Nat.ble_eq,h]
     ·obtain ⟨p,hp,rfl⟩:=List.mem_map.1 hq
      simp only;omega
     ·simp only [hid,Bool.or_true]
     ·have:=ZQ (List.mem_append_left ((s.outs.flatMap fun o=>Y9 o.2.es (ZA s.ins.shift 0 (s.ins.shift.prep 0 (virt S As))))++zbo (ZA s.ins.shift 0 (s.ins.shift.prep 0 (virt S As)))) hid)
      exact ⟨this,by simp only [this,Bool.true_or]⟩
     ·have:id∈zeD s.ins.shift 0 (virt S As)++((s.outs.flatMap fun o=>Y9 o.2.es (ZA s.ins.shift 0 (s.ins.shift.prep 0 (virt S As))))++zbo (ZA s.ins.shift 0 (s.ins.shift.prep 0 (virt S As)))):=List.mem_append_right _ (List.mem_append_left _ (List.mem_flatMap.2 ⟨o,ho,by rw [← he];exact hid⟩))
      have:=ZQ this
      exact ⟨this,by simp only [this,Bool.true_or]⟩
     ·simp only [hid,Bool.true_or,Bool.or_true]
     ·simp only [zaP d k hk,Nat.beq_refl,Bool.true_or,Bool.or_true]
     ·rw [he];exact Nat.le_of_ble_eq_true (List.all_eq_true.1 hc o ho)
     ·exact ZQ (List.mem_append_right _ (List.mem_append_right _ (zd1 hid)))
   ·rename_i hl
    rw [hl] at ht
    exact zaq h ht
omit [Dfr] in
theorem zj3 {d f:Nat}{As:List (AV C.D)}{S':St C}{l:List Nat}{p:Nat→Bool}{Γ:List (Spec C)}(h:Vt Γ S d f As=some (.go S')) (ht:Vi Γ S d f As=some (l,p)):Keeps S S' (some d) l p:=zaq h ht
omit [Dfr] in
theorem zdF {d:Nat}{cs:List (AV C.D)}{S':St C}{l:List Nat}{p:Nat→Bool}(h:za7 S d cs=some (.go S')) (hp:p (nid d 0)=true):Keeps S S' (some d) l p:=by
 obtain ⟨_,h⟩:=zb h
 cases h
 exact .new hp
omit [Dfr] in
theorem zbW {d:Nat}{t:TypeId}{x:Operand}{hi mx:Option Operand}{S':St C}(h:YX P S d t x hi mx=some (.go S')):Keeps S S' (some d) (S.op x).hid fun i=>zx i (S.op x).hid || Nat.beq (i / 64) (d+1):=by
      unfold YX at h
      split at h
      · split at h
        · split at h
          · rename_i id ex
            rw [ex]
            have hid:zx id (AV.hid (.row (D:=C.D) id))=true:=ZQ (by simp [AV.hid])
            have two:∀ {A e},Keeps S {env:=upd (S.sub id .und).env d A,heap:=upd (S.sub id .und).heap (nid d 0) e} (some d) (AV.hid (.row (D:=C.D) id)) fun i=>zx i (AV.hid (.row (D:=C.D) id)) || Nat.beq (i / 64) (d+1):=fun {A e}=>
              Keeps.trans (.sub hid (by simp only [hid,Bool.true_or])) (.new (by simp only [wR,Bool.or_true]))
            split at h
            · obtain ⟨_,h⟩:=zb h
              split at h
              · split at h
                · obtain ⟨q,_,h⟩:=Option.bind_eq_some_iff.1 h
                  cases h
                  exact two
                · cases h
              · generalize (isZ _ && isZ _)=z at h
                cases z with
                |true=>
                  cases h
                  exact .new (by simp only [wR,Bool.or_true])
                |false=>
                  simp only [cond_false] at h
                  split at h
                  · obtain ⟨_,h⟩:=zb h
                    obtain ⟨q,_,h⟩:=Option.bind_eq_some_iff.1 h
                    cases h
                    exact two
                  · cases h
              · cases h
            · cases h
          · obtain ⟨_,h⟩:=zb h
            split at h
            · obtain ⟨_,h⟩:=zb h
              cases h
              exact .new (by simp only [wR,Bool.or_true])
            · cases h
          · cases h
        · cases h
      · cases h
omit [Dfr] in
theorem zaQ {d:Nat}{ty t:TypeId}{x:Operand}{lo hi:Option Operand}{S':St C}(h:yJ P S d ty t x lo hi=some (.go S')):Keeps S S' (some d) (S.op x).hid fun i=>zx i (S.op x).hid || Nat.beq (i / 64) (d+1):=by
 unfold yJ at h
 split at h
 ·rename_i id ex
  obtain ⟨A,_,h⟩:=Option.bind_eq_some_iff.1 h
  cases h
  rw [ex]
  have hid:zx id (AV.hid (.row (D:=C.D) id))=true:=ZQ (by simp [AV.hid])
  have:=Keeps.frz (d:=some d) (l:=AV.hid (.row (D:=C.D) id)) (p:=fun i=>zx i (AV.hid (.row (D:=C.D) id)) || Nat.beq (i / 64) (d+1)) [id] (S:=S) (fun j hj=>by
   obtain rfl:j=id:=by simpa using hj
   exact ⟨hid,by simp only [hid,Bool.true_or]⟩)
  exact Keeps.trans this .put
 ·cases h
omit [Dfr] in
theorem zrw {q:Opts}{Γ:List (Spec C)}{n:Nat}{o:Oper}{S':St C}{l:List Nat}{p:Nat→Bool}(h:Vu q Γ P n o S=some (.go S')) (ht:znW Γ P o S=some (l,p)):Keeps S S' o.dst l p:=by
 obtain ⟨dst,op,ty,ps,af,g⟩:=o
 unfold Vu at h
 unfold znW at ht
 cases dst with
 |none=>
  simp only at h ht ⊢
  split at h
  ·rename_i t x y
   simp only at ht
   unfold yw at h
   split at h
   ·rename_i ti id off hi ex
    rw [ex] at ht;cases ht
    split at h
    ·obtain ⟨_,h⟩:=zb h
     cases h
     exact .ent (by simp)
    ·cases h
   ·rename_i ti id T i off hi ex
    rw [ex] at ht;cases ht
    refine Keeps.trans (.frz (AV.rows (S.op y)) fun j hj=>⟨ZQ hj,by rw [ZQ hj];simp⟩) ?_
    have hx:(S.frz (AV.rows (S.op y))).op x = .pr id T i off∨¬ (S.frz (AV.rows (S.op y))).op x = .pr id T i off:=Classical.em _
    have key:∀ (S1:St C),(∀ id' T' i' off',S1.op x = .pr id' T' i' off'→id'=id)→yw.go x y ti S1=some (.go S')→Keeps S1 S' none (AV.rows (S.op y)) fun i=>Nat.beq i id || zx i (AV.rows (S.op y)):=by
     intro S1 hk h
     unfold yw.go at h
     split at h
     ·rename_i id' T' i' off' ex'
      have:=hk _ _ _ _ ex'
      subst this
      split at h
      ·obtain ⟨_,h⟩:=zb h
       obtain ⟨q,_,h⟩:=Option.bind_eq_some_iff.1 h
       obtain ⟨q',_,h⟩:=Option.bind_eq_some_iff.1 h
       cases h
       exact .ent (by simp)
      ·cases h
     ·cases h
    refine key _ ?_ h
    intro id' T' i' off' e'
    cases x with
    |const v=>exact absurd ex (by cases v <;> (try (intro h;cases h;done)) <;> (simp only [St.op,za1,ZL];(try split) <;> simp))
    |global g=>cases ex
    |func f=>cases ex
    |tmp tt=>
     have e1:S.env tt = .pr id T i off:=ex
     have e2:(S.frz (AV.rows (S.op y))).env tt = .pr id' T' i' off':=e'
     have frzpr:∀ (r:List Nat) (S1:St C),(∀ a b c d,S1.env tt = .pr a b c d→a=id)→(∀ R,S1.env tt=R→(∃ a b c d,R = .pr a b c d)∨R = .und)→(∀ a b c d,(S1.frz r).env tt = .pr a b c d→a=id):=by
      intro r
      induction r with
      |nil=>intro S1 h1 _;exact h1
      |cons j r ih=>
       intro S1 h1 h2
       refine ih (S1.frz1 j) ?_ ?_
       ·intro a b c d e
        rcases zbn S1 j with ⟨R0,e0⟩ | e0
        ·rw [e0] at e
         have e:AV.sub j R0 (S1.env tt)=_:=e
         rcases h2 _ rfl with ⟨a',b',c',d',h⟩ | h
         ·rw [h] at e
          unfold AV.sub at e
          cases hb:Nat.beq a' j with
          |true=>rw [hb] at e;cases e
          |false=>rw [hb] at e;cases e;exact h1 _ _ _ _ h
         ·rw [h] at e;cases e
        ·rw [e0] at e;exact h1 a b c d e
       ·intro R e
        rcases zbn S1 j with ⟨R0,e0⟩ | e0
        ·rw [e0] at e
         have e:AV.sub j R0 (S1.env tt)=_:=e
         rcases h2 _ rfl with ⟨a',b',c',d',h⟩ | h
         ·rw [h] at e
          unfold AV.sub at e
          cases hb:Nat.beq a' j with
          |true=>rw [hb] at e;exact .inr e.symm
          |false=>rw [hb] at e;exact .inl ⟨_,_,_,_,e.symm⟩
         ·rw [h] at e;exact .inr e.symm
        ·rw [e0] at e;exact h2 R e
     exact frzpr _ S (fun a b c d e=>by rw [e1] at e;cases e;rfl) (fun R e =>.inl ⟨_,_,_,_,e.symm.trans e1⟩) _ _ _ _ e2
   ·cases h
  ·rename_i x
   unfold XY at h
   split at h
   ·obtain ⟨_,h⟩:=zb h;cases h
   ·cases h
  ·cases h
 |some d=>
  simp only at h ht ⊢
  obtain ⟨_,h⟩:=zb h
  unfold xM at h
  have pan:∀ x,XY S x=some (.go S')→False:=fun x h=>by
   unfold XY at h
   split at h
   ·obtain ⟨_,h⟩:=zb h;cases h
   ·cases h
  split at h
  ·cases ht
   unfold XV at h
   split at h
   ·split at h
    ·split at h
     ·obtain ⟨_,h⟩:=zb h
      cases h
      exact .new (wR d)
     ·exact zdF h (wR d)
    ·cases h
   ·cases h
  ·cases ht
   obtain ⟨_,h⟩:=zb h
   rw [Bool.cond_eq_ite] at h
   split at h
   ·obtain ⟨q,_,h⟩:=Option.bind_eq_some_iff.1 h
    cases h
    exact .put
   ·exact zdF h (wR d)
  ·cases ht
   unfold WC at h
   split at h
   ·split at h
    ·split at h
     ·obtain ⟨_,h⟩:=zb h
      obtain ⟨q,_,h⟩:=Option.bind_eq_some_iff.1 h
      obtain ⟨q',_,h⟩:=Option.bind_eq_some_iff.1 h
      cases h
      exact .new (wR d)
     ·cases h
    ·cases h
   ·cases h
  ·rename_i t m parts
   cases ht
   unfold xK at h
   refine Keeps.trans (.frz _ fun j hj=>⟨ZQ hj,by simp only [ZQ hj,Bool.true_or]⟩) ?_
   generalize S.frz _=S1 at h ⊢
   unfold xK.go at h
   split at h
   ·split at h
    ·split at h
     ·obtain ⟨_,h⟩:=zb h
      obtain ⟨q,_,h⟩:=Option.bind_eq_some_iff.1 h
      cases h
      exact .new (by simp only [wR,Bool.or_true])
     ·cases h
    ·cases h
   ·cases h
  ·rename_i t x lo hi mx
   cases ht
   split at h
   ·cases h;exact .put
   ·unfold xL at h
    split at h
    ·cases hq:q.fs with
     |true=>rw [hq,cond_true] at h;exact zaQ h
     |false=>rw [hq,cond_false] at h;exact zbW h
    ·exact zbW h
    ·exact zaQ h
    ·cases h
  ·cases ht
   split at h
   ·cases h;exact .put
   ·split at h
    ·rename_i o e
     cases h
     unfold yI at e
     split at e
     ·split at e
      ·obtain ⟨_,e⟩:=zb e
       obtain ⟨l,_,e⟩:=Option.bind_eq_some_iff.1 e
       cases e;exact .put
      ·cases e
     ·cases e
    ·unfold Wa at h
     split at h
     ·split at h
      ·obtain ⟨_,h⟩:=zb h
       obtain ⟨l,_,h⟩:=Option.bind_eq_some_iff.1 h
       obtain ⟨l,_,h⟩:=Option.bind_eq_some_iff.1 h
       cases h;exact .put
      ·cases h
     ·cases h
  ·rename_i c args ts _
   simp only at ht
   split at h
   ·rename_i f caps ec
    rw [ec] at ht
    exact zj3 (zb h).2 ht
   ·cases h
  ·rename_i args ts _
   simp only at ht
   split at h
   ·rename_i x y t t' e1 e2
    rw [e1] at ht
    simp only at ht
    obtain ⟨_,h⟩:=zb h
    unfold Yu at h
    split at h
    ·split at h
     ·split at h
      ·obtain ⟨_,h⟩:=zb h
       split at h
       ·rename_i id ex
        rw [ex] at ht;cases ht
        have hid:zx id [id]=true:=ZQ (by simp)
        split at h
        ·obtain ⟨_,h⟩:=zb h
         obtain ⟨q,_,h⟩:=Option.bind_eq_some_iff.1 h
         obtain ⟨q',_,h⟩:=Option.bind_eq_some_iff.1 h
         cases h
         exact Keeps.trans (.sub hid (by simp only [hid,Bool.true_or])) (.new (by simp only [wR,Bool.or_true]))
        ·cases h
       ·rename_i ex
        rw [ex] at ht;cases ht
        obtain ⟨q,_,h⟩:=Option.bind_eq_some_iff.1 h
        obtain ⟨q',_,h⟩:=Option.bind_eq_some_iff.1 h
        cases h
        exact .new (wR d)
       ·cases h
      ·cases h
     ·cases h
    ·cases h
   ·cases h
  ·exact (pan _ h).elim
  ·obtain ⟨A,_,h⟩:=Option.map_eq_some_iff.1 h
   cases h
   exact .put
omit [Dfr] in
theorem Keeps.owk {id:Nat}{e:Ent C}{d:Option Nat}{l:List Nat}{p:Nat→Bool}(hm:zx (xo id) l=true) (hp:p id=true):Keeps S (S.owk id e) d l p:=by
 have hx:∀ i,Nat.beq i id=true→zx (xo i) l=true:=fun i hi=>by rw [Nat.eq_of_beq_eq_true hi];exact hm
 refine ⟨fun t _ _ h=>VZ hx h,fun j hj h=>?_⟩
 show (bif Nat.beq j id then some e else (S.heap j).map (Ent.knx _))=S.heap j
 cases e1:Nat.beq j id with
 |true=>have:=Nat.eq_of_beq_eq_true e1;subst this;rw [hp] at hj;cases hj
 |false=>
  simp only [cond_false]
  cases hs:S.heap j with
  |none=>rfl
  |some en=>
   rw [hs] at h
   cases en with
   |row T s=>rfl
   |obj q T b s=>rfl
   |orow T s g=>rfl
   |cell cs=>show some (Ent.cell (AV.knxs _ cs))=_;rw [wG hx h]
def zrX:KN→Option Nat
 | .st _ _ _=>none
 | .cl _ _=>none
 | .apn d _ _ _ _=>some d
 | .apo d _ _ _ _=>some d
 | .bl d _ _ _ _=>some d
 | .mk d _ _ _=>some d
 | .cp d _ _ _ _=>some d
omit [Dfr] in
theorem znc {dst:Option Nat}{op:Op}{k:KN}(h:xW P S dst op=some k):zrX k=dst:=by
 unfold xW at h
 split at h
 ·cases hc:zd9 S _ _ with
  |true=>rw [hc] at h;cases h;rfl
  |false=>rw [hc] at h;cases h
 ·split at h <;> cases h;rfl
 ·split at h
  ·rename_i x y _ _ _ _
   cases hc:zd8 S x with
   |true=>rw [hc] at h;cases h;rfl
   |false=>
    rw [hc,cond_false] at h
    cases hc2:isO S y with
    |true=>rw [hc2] at h;cases h;rfl
    |false=>rw [hc2] at h;cases h
  ·cases h
 ·split at h
  ·cases hc:(C.own (xu P _) && zcI (zt (S.op _)) (C.nst (xu P _))) with
   |true=>rw [hc] at h;cases h;rfl
   |false=>rw [hc] at h;cases h
  ·cases h
 ·cases hc:C.own (xu P _) with
  |true=>rw [hc] at h;cases h;rfl
  |false=>rw [hc] at h;cases h
 ·cases hc:isO S _ with
  |true=>rw [hc] at h;cases h;rfl
  |false=>rw [hc] at h;cases h
 ·cases h
def zbp (S:St C):KN→Option Tch
 | .st _ x y=>(match S.op x with
  | .pr id T _ off=>some (bif XS off (zt (S.op y)).length (C.nst T) then xo id::AV.rowss (zt (S.op y)) else [],fun i=>Nat.beq i id || zx i (AV.rowss (zt (S.op y))))
  | .nx id _ _ _=>some ([],fun i=>Nat.beq i id)
  |_=>none)
 | .cl _ x=>(match S.op x with
  | .row id=>some ([],fun i=>Nat.beq i id)
  | .nx id _ _ _=>some ([],fun i=>Nat.beq i id)
  |_=>none)
 | .apn d _ _ x _=>(match S.op x with
  | .nx id _ _ _=>some ([xo id,nid d 1],fun i=>Nat.beq i id || Nat.beq (i / 64) (d+1))
  |_=>none)
 | .apo d _ _ x y=>(match S.op x,S.op y with
  | .row id,.row id2=>some ([id,id2],fun i=>zx i [id,id2] || Nat.beq (i / 64) (d+1))
  | .nils,.row id2=>some ([id2],fun i=>zx i [id2] || Nat.beq (i / 64) (d+1))
  |_,_=>none)
 | .bl d _ _ _ y=>some (AV.rowss (zt (S.op y)),fun i=>zx i (AV.rowss (zt (S.op y))) || Nat.beq (i / 64) (d+1))
 | .mk d _ _ _=>some ([],fun i=>Nat.beq (i / 64) (d+1))
 | .cp d _ x _ _=>(match S.op x with
  | .row id=>some ([id],fun i=>zx i [id] || Nat.beq (i / 64) (d+1))
  |_=>none)
omit [Dfr] in
theorem zfu {D:Nat→Type}{id:Nat}:∀ {cs:List (AV D)}{k:Nat},cs[k]?=some (.row id)→id∈AV.rowss cs
 |A::cs,0,h=>by
  simp at h;subst h
  simp [AV.rowss,AV.rows]
 |A::cs,k+1,h=>by
  have:=zfu (cs:=cs) (k:=k) (by simpa using h)
  simp only [AV.rowss,List.mem_append];exact .inr this
 |[],k,h=>by simp at h
omit [Dfr] in
theorem zdG {id T0:Nat}{s:Sl (C.D T0)}{g:Own}{i:Int}{off:Nat}{cells:List (AV C.D)}{S':St C}{l:List Nat}{p:Nat→Bool}(h:Wc S id T0 s g i off cells some=some (.go S')) (hx:zx (xo id) l=true) (hp:p id=true) (hr:∀ id2,id2∈AV.rowss cells→zx id2 l=true∧p id2=true) {d:Option Nat}:Keeps S S' d l p:=by
 unfold Wc at h
 simp only [vt] at h
 split at h
 ·rename_i id2 hc
  split at h
  ·obtain ⟨_,h⟩:=zb h
   obtain ⟨q,_,h⟩:=Option.bind_eq_some_iff.1 h
   obtain ⟨g',_,h⟩:=Option.bind_eq_some_iff.1 h
   obtain ⟨q',_,h⟩:=Option.bind_eq_some_iff.1 h
   cases h
   obtain ⟨r1,r2⟩:=hr id2 (zfu hc)
   exact Keeps.trans (.sub r1 r2) (.owk hx hp)
  ·cases h
 ·obtain ⟨q,_,h⟩:=Option.bind_eq_some_iff.1 h
  split at h
  ·obtain ⟨g',_,h⟩:=Option.bind_eq_some_iff.1 h
   obtain ⟨q',_,h⟩:=Option.bind_eq_some_iff.1 h
   cases h
   exact .owk hx hp
  ·cases h
 ·cases h
omit [Dfr] in
theorem zcw {gid d:Nat}{t:TypeId}{x y:Operand}{S':St C}{l:List Nat}{p:Nat→Bool}(h:Yu P S d t x y=some (.go S')) (hx:S.op x = .row gid) (hm:zx gid l=true) (hp:p gid=true) (hd:p (nid d 0)=true):Keeps S S' (some d) l p:=by
 unfold Yu at h
 split at h
 ·split at h
  ·split at h
   ·obtain ⟨_,h⟩:=zb h
    rw [hx] at h
    simp only at h
    split at h
    ·obtain ⟨_,h⟩:=zb h
     obtain ⟨_,_,h⟩:=Option.bind_eq_some_iff.1 h
     obtain ⟨_,_,h⟩:=Option.bind_eq_some_iff.1 h
     cases h
     exact Keeps.trans (.sub hm hp) (.new hd)
    ·cases h
   ·cases h
  ·cases h
 ·cases h
omit [Dfr] in
theorem zrY (d:Nat):Nat.beq (nid d 1 / 64) (d+1)=true:=by rw [zaP d 1 (by omega)];simp
omit [Dfr] in
theorem zj4 {k:KN}{S':St C}{l:List Nat}{p:Nat→Bool}(h:WP P S k=some (.go S')) (ht:zbp S k=some (l,p)):Keeps S S' (zrX k) l p:=by
 cases k with
 |st t x y=>
  simp only [WP] at h
  simp only [zbp] at ht
  unfold Xy wo at h
  split at h
  ·rename_i ti id T i off hi ex
   rw [ex] at ht
   cases ht
   split at h
   ·rename_i T' s g hs
    obtain ⟨hc,h⟩:=zb h
    simp only [Bool.and_eq_true] at hc
    obtain rfl:=Nat.eq_of_beq_eq_true hc.1
    cases hin:XS off (zt (S.op y)).length (C.nst T) with
    |true=>
     rw [hin] at h
     simp only [cond_true] at h ⊢
     exact zdG h (by simp [zx]) (by simp) fun id2 h2=>⟨by simp [zx,ZQ h2],by simp [ZQ h2]⟩
    |false=>
     rw [hin] at h
     simp only [cond_false] at h ⊢
     obtain ⟨q,_,h⟩:=Option.bind_eq_some_iff.1 h
     obtain ⟨q',_,h⟩:=Option.bind_eq_some_iff.1 h
     cases h
     exact .ent (by simp)
   ·rename_i T' s hs
    obtain ⟨hc,h⟩:=zb h
    simp only [Bool.and_eq_true] at hc
    obtain rfl:=Nat.eq_of_beq_eq_true hc.1
    rw [hc.2.2]
    simp only [cond_true]
    exact zdG h (by simp [zx]) (by simp) fun id2 h2=>⟨by simp [zx,ZQ h2],by simp [ZQ h2]⟩
   ·cases h
  ·rename_i ti id T i U k off hi ex
   rw [ex] at ht
   cases ht
   split at h
   ·obtain ⟨_,h⟩:=zb h
    obtain ⟨q,_,h⟩:=Option.bind_eq_some_iff.1 h
    split at h
    ·obtain ⟨_,h⟩:=zb h
     obtain ⟨_,_,h⟩:=Option.bind_eq_some_iff.1 h
     obtain ⟨_,_,h⟩:=Option.bind_eq_some_iff.1 h
     obtain ⟨_,_,h⟩:=Option.bind_eq_some_iff.1 h
     cases h
     exact .ent (by simp)
    ·cases h
   ·cases h
  ·cases h
 |cl t x=>
  simp only [WP] at h
  simp only [zbp] at ht
  unfold wK Wo at h
  split at h
  ·split at h
   ·split at h
    ·split at h
     ·rename_i id ex
      rw [ex] at ht
      cases ht
      split at h
      ·obtain ⟨_,h⟩:=zb h
       obtain ⟨_,_,h⟩:=Option.bind_eq_some_iff.1 h
       cases h
       exact .ent (by simp)
      ·cases h
     ·rename_i id T i ex
      rw [ex] at ht
      cases ht
      split at h
      ·obtain ⟨_,h⟩:=zb h
       obtain ⟨_,_,h⟩:=Option.bind_eq_some_iff.1 h
       split at h
       ·obtain ⟨_,h⟩:=zb h
        obtain ⟨_,_,h⟩:=Option.bind_eq_some_iff.1 h
        obtain ⟨_,_,h⟩:=Option.bind_eq_some_iff.1 h
        cases h
        exact .ent (by simp)
       ·cases h
      ·cases h
     ·cases h
    ·cases h
   ·cases h
  ·cases h
 |apn d t t' x y=>
  simp only [WP] at h
  simp only [zbp] at ht
  have h:=(zb h).2
  unfold WN at h
  cases x with
  |const v=>cases h
  |global g=>cases h
  |func f=>cases h
  |tmp tx=>
   simp only at h
   split at h
   ·rename_i id T i ex
    have ht:(match S.env tx with | .nx id _ _ _=>some ([xo id,nid d 1],fun i=>Nat.beq i id || Nat.beq (i / 64) (d+1)) | _=>none)=some (l,p):=ht
    rw [ex] at ht
    cases ht
    unfold WM at h
    split at h
    ·obtain ⟨hc,h⟩:=zb h
     simp only [Bool.and_eq_true] at hc
     obtain ⟨_,_,h⟩:=Option.bind_eq_some_iff.1 h
     split at h
     ·have k2:=zcw (gid:=nid d 1) (l:=[xo id,nid d 1]) (p:=fun i=>Nat.beq i id || Nat.beq (i / 64) (d+1)) h (by show upd S.env tx _ tx=_;rw [zp]) (by simp [zx]) (by simp [zrY]) (by simp [wR])
      refine Keeps.trans ⟨fun t ht hd ha=>?_,fun j hj _=>?_⟩ k2
      ·show upd S.env tx _ t=S.env t
       by_cases e:t=tx
       ·subst e
        rw [ex] at ha
        simp [AV.avoid,zx] at ha
       ·rw [zr e]
      ·show upd (upd S.heap id _) (nid d 1) _ j=S.heap j
       rw [zr fun e=>by subst e;simp [zrY] at hj,zr fun e=>by subst e;simp at hj]
     ·cases h
    ·cases h
   ·cases h
 |apo d t t' x y=>
  simp only [WP] at h
  simp only [zbp] at ht
  obtain ⟨_,h⟩:=zb h
  unfold WO vj at h
  split at h
  ·split at h
   ·split at h
    ·obtain ⟨_,h⟩:=zb h
     split at h
     ·rename_i id2 ey
      rw [ey] at ht
      split at h
      ·split at h
       ·rename_i id ex
        rw [ex] at ht
        cases ht
        split at h
        ·obtain ⟨_,h⟩:=zb h
         obtain ⟨_,_,h⟩:=Option.bind_eq_some_iff.1 h
         obtain ⟨_,_,h⟩:=Option.bind_eq_some_iff.1 h
         cases h
         exact Keeps.trans (.sub (by simp [zx]) (by simp [zx])) (Keeps.trans (.sub (by simp [zx]) (by simp [zx])) (.new (by simp [wR])))
        ·cases h
       ·rename_i ex
        rw [ex] at ht
        cases ht
        obtain ⟨_,_,h⟩:=Option.bind_eq_some_iff.1 h
        obtain ⟨_,_,h⟩:=Option.bind_eq_some_iff.1 h
        cases h
        exact Keeps.trans (.sub (by simp [zx]) (by simp [zx])) (.new (by simp [wR]))
       ·cases h
      ·cases h
     ·cases h
    ·cases h
   ·cases h
  ·cases h
 |bl d t i m y=>
  simp only [WP] at h
  simp only [zbp] at ht
  cases ht
  obtain ⟨_,h⟩:=zb h
  unfold XA wr at h
  split at h
  ·split at h
   ·split at h
    ·obtain ⟨_,h⟩:=zb h
     split at h
     ·rename_i id2 hc
      split at h
      ·obtain ⟨_,_,h⟩:=Option.bind_eq_some_iff.1 h
       cases h
       have hm:=ZQ (zfu hc)
       exact Keeps.trans (.sub hm (by simp [hm])) (.new (by simp [wR]))
      ·cases h
     ·cases h
    ·cases h
   ·cases h
  ·cases h
 |mk d t x y=>
  simp only [WP] at h
  simp only [zbp] at ht
  cases ht
  unfold wI Wm at h
  split at h
  ·split at h
   ·split at h
    ·obtain ⟨_,h⟩:=zb h
     split at h
     ·obtain ⟨_,_,h⟩:=Option.bind_eq_some_iff.1 h
      split at h
      ·obtain ⟨_,h⟩:=zb h
       obtain ⟨_,_,h⟩:=Option.bind_eq_some_iff.1 h
       cases h
       exact .new (by simp [wR])
      ·cases h
     ·cases h
    ·cases h
   ·cases h
  ·cases h
 |cp d t x hi mx=>
  simp only [WP] at h
  simp only [zbp] at ht
  unfold wJ Wn at h
  split at h
  ·split at h
   ·split at h
    ·rename_i id ex
     rw [ex] at ht
     cases ht
     split at h
     ·obtain ⟨_,h⟩:=zb h
      split at h
      ·obtain ⟨_,h⟩:=zb h
       obtain ⟨_,_,h⟩:=Option.bind_eq_some_iff.1 h
       cases h
       exact Keeps.trans (.sub (by simp [zx]) (by simp [zx])) (.new (by simp [wR]))
      ·cases h
     ·cases h
    ·cases h
   ·cases h
  ·cases h
def tch (Γ:List (Spec C)) (P:Program) (o:Oper) (S:St C):Option Tch:=match xW P S o.dst o.op with
 |some k=>zbp S k
 |none=>znW Γ P o S
omit [Dfr] in
theorem znd {q:Opts}{Γ:List (Spec C)}{n:Nat}{o:Oper}{S':St C}{l:List Nat}{p:Nat→Bool}(h:stp q Γ P n o S=some (.go S')) (ht:tch Γ P o S=some (l,p)):Keeps S S' o.dst l p:=by
 unfold stp at h
 unfold tch at ht
 cases hk:xW P S o.dst o.op with
 |some k=>
  rw [hk] at h ht
  obtain ⟨_,h⟩:=zb h
  rw [← znc hk]
  exact zj4 h ht
 |none=>rw [hk] at h ht;exact zrw h ht
end
end Go.Px
namespace Go.Px
set_option linter.unusedSectionVars false
variable [Dfr]
set_option linter.unusedVariables false
def zaR:List Operand→List Nat
 |[]=>[]
 | .tmp t::r=>t::zaR r
 |_::r=>zaR r
omit [Dfr] in
theorem zbq {t:Nat}:∀ {l:List Operand},Operand.tmp t∈l→t∈zaR l
 |x::r,h=>by
  rcases List.mem_cons.1 h with h | h
  ·subst h;simp [zaR]
  ·have:=zbq h
   cases x <;> simp [zaR,this]
def wZ (ops:Array Oper) (o:Oper):List Nat:=match o.guard with
 |none=>[]
 |some (j,_)=>match (ops[j]?).bind (·.dst) with
  |some d=>[d]
  |none=>[]
def looks (ops:Array Oper) (o:Oper):List Nat:=zaR o.op.operands.toList++wZ ops o
def zB (o:Oper):List Nat:=(o.after.toList.filter (Region.binds .any)).map (·.on)
omit [Dfr] in
theorem zj5 {o:Oper}{e:Edge}(h:e∈o.after) (hb:Region.binds .any e=true):e.on∈zB o:=List.mem_map.2 ⟨e,List.mem_filter.2 ⟨by simpa using h,hb⟩,rfl⟩
def zbr (l cl:List Nat):Bool:=l.all fun j=>zx j cl
def zcV:List (Nat×Nat)→Nat→Nat
 |[],_=>0
 |(i,m)::r,j=>bif Nat.beq i j then m else zcV r j
def Yv (al:List (Nat×Nat)):List Nat→Nat
 |[]=>0
 |j::ds=>Nat.lor (Nat.lor (Nat.shiftLeft 1 j) (zcV al j)) (Yv al ds)
section
variable {C:Cod}{ρ:Type}
def zeF (S:St C) (l:List Nat) (dst:Option Nat) (t:Nat):Bool:=(S.env t).avoid l && (Nat.blt t vB && (match dst with | some d=> !Nat.beq t d | none=>true))
def zeG (ops:Array Oper) (S:St C) (l:List Nat) (p:Nat→Bool) (dst:Option Nat) (r:Nat):Bool:=match ops[r]? with
 |some q=>(looks ops q).all (zeF S l dst) && ((match q.dst with | some d=>zeF S l dst d | none=>true) && (zdY S q.op).all fun id=> !p id && zhT l (S.heap id))
 |none=>true
def zcx (S:St C) (l:List Nat):St C:={S with env:=fun t=>bif zx t l then .und else S.env t}
def zrZ (ops:Array Oper):List Nat:=ops.toList.filterMap (·.dst)
def vc (ops:Array Oper) (n:Nat) (cl:List Nat) (taken:List Nat) (i:Nat) (o:Oper):Bool:=match o.dst with
  |none=>true
  |some d=>Nat.blt d n && (Nat.blt d vB && (!zx d (looks ops o) &&
      ((List.range ops.size).all fun j=>Nat.beq j i || (match ops[j]? with
        |none=>true
        |some q=>(bif zx j cl then (!zx j taken || !zx d (looks ops q)) else (!zx d (looks ops q) || zx i (zB q))) && (match q.dst with
            |some d'=> !Nat.beq d d'
            |none=>true)))))
def flB (C:Cod) (P:Program) (ops:Array Oper) (n j:Nat):Bool:=match ops[j]? with
  |none=>false
  |some o=>(match o.dst,o.op,o.guard with
    |some d,.alloc t,none=>(match P.info? t with
      |some ti=>(match ti.zero with
        |some zv=>(match C.oal t zv.cells.toList with
          |none=>Nat.blt d n && (Nat.blt d vB && (List.range ops.size).all fun j'=>Nat.beq j' j || (match ops[j']? with
              |none=>true
              |some q=>(!zx d (looks ops q) || zx j (zB q)) && (match q.dst with
                |some d'=> !Nat.beq d d'
                |none=>true)))
          |some _=>false)
        |none=>false)
      |none=>false)
    |_,_,_=>false)
def vd (C:Cod) (P:Program) (ops:Array Oper) (n:Nat):List Nat:=(List.range ops.size).filter (flB C P ops n)
def rmL (i:Nat) (l:List Nat):List Nat:=l.filter fun j=> !Nat.beq j i
def zj6 (ops:Array Oper) (fl cl:List Nat) (i:Nat):Bool:=(List.range ops.size).all fun j=>Nat.beq j i || (zx j fl || (zx j cl || (match ops[j]? with
 |none=>true
 |some q=> !zbr (zB q) (rmL i fl++cl))))
def zne (ops:Array Oper) (fl cl:List Nat) (i i2:Nat):Bool:=(List.range ops.size).all fun j=>(Nat.beq j i || Nat.beq j i2) || (zx j fl || (zx j cl || (match ops[j]? with
 |none=>true
 |some q=> !zbr (zB q) (rmL i (rmL i2 fl)++cl))))
open Classical in
noncomputable def WK {α:Type}(a b:Option α):Option α:=if a=b then a else none
omit [Dfr] in
theorem ziL {α:Type}(a:Option α):WK a a=a:=by unfold WK;rw [if_pos rfl]
omit [Dfr] in
theorem zar {α:Type}{a b:Option α}{r:α}(h:WK a b=some r):a=some r∧b=some r:=by
 unfold WK at h
 split at h
 ·rename_i e;exact ⟨h,e ▸ h⟩
 ·cases h
def yL (stp:yV C) (tc:Oper→St C→Option Tch) (P:Program) (n:Nat) (ops:Array Oper) (okB:Bool) (cl taken:List Nat) (m:Nat) (K:XE C→St C→Option ρ) (i:Nat) (early:Bool) (o:Oper) (run:Bool) (S:St C) (next:St C→List Nat→Option ρ):Option ρ:=
  bif early then chk (vc ops n cl taken i o) (bif run then (match o.dst with
      |some d=>chk (rdQ o.op) (znP P S o.type o.op fun A=>next (S.put d A) (i::taken))
      |none=>none)
    else (match o.dst with
      |some d=>next (S.put d (.tup [])) (i::taken)
      |none=>next S (i::taken)))
  else chk okB (bif run then (match tc o S with
      |none=>none
      |some (l,p)=>chk (taken.all fun r=>Nat.testBit m r || zeG ops S l p o.dst r) (stp o S _ fun out=>match out with
        | .go S'=>next S' taken
        | .pan v S'=>K (.pan v) (zcx S' (zrZ ops))))
    else chk (taken.all fun r=>Nat.testBit m r || zeG ops S [] (fun _=>false) o.dst r) (match o.dst with
      |some d=>chk (Nat.blt d n) (next (S.put d (.tup [])) taken)
      |none=>next S taken))
def Xg (stp:yV C) (tc:Oper→St C→Option Tch) (P:Program) (n:Nat) (ops:Array Oper) (okB:Bool) (i:Nat) (early:Bool) (cl taken:List Nat) (al:List (Nat×Nat)) (S:St C) (K:XE C→St C→Option ρ) (next:List Nat→List Nat→List (Nat×Nat)→St C→Option ρ):Option ρ:=match ops[i]? with
    |none=>none
    |some o=>chk (!zx i cl && zbr (zB o) cl) (match o.guard with
      |none=>yL stp tc P n ops okB cl taken (Yv al (zB o)) K i early o true S fun S tk=>next (i::cl) tk ((i,Yv al (zB o))::al) S
      |some (j,want)=>chk (zx j (zB o)) (match (ops[j]?).bind (·.dst) with
        |none=>none
        |some dg=>match S.env dg with
          | .bool q=>if q=true then yL stp tc P n ops okB cl taken (Yv al (zB o)) K i early o want (S.put dg (.bool true)) (fun S tk=>next (i::cl) tk ((i,Yv al (zB o))::al) S)
              else yL stp tc P n ops okB cl taken (Yv al (zB o)) K i early o (!want) (S.put dg (.bool false)) (fun S tk=>next (i::cl) tk ((i,Yv al (zB o))::al) S)
          | .tup []=>yL stp tc P n ops okB cl taken (Yv al (zB o)) K i early o false S fun S tk=>next (i::cl) tk ((i,Yv al (zB o))::al) S
          |_=>none))
def wS (ops:Array Oper) (cl:List Nat) (i:Nat):Bool:=match ops[i]? with
 |some o=> !zx i cl && zbr (zB o) cl
 |none=>false
noncomputable def ZJ (stp:yV C) (tc:Oper→St C→Option Tch) (P:Program) (n:Nat) (ops:Array Oper):List (Nat×Bool)→List Nat→List Nat→List (Nat×Nat)→St C→(XE C→St C→Option ρ)→Option ρ
  |[],cl,taken,al,S,K=>chk (zbr (List.range ops.size) cl) (K .normal S)
  |(i,early)::ord,cl,taken,al,S,K=>bif Nat.blt i 4096 then
      (bif wS ops cl i then Xg stp tc P n ops (zj6 ops (vd C P ops n) cl i) i early cl taken al S K fun cl tk al S=>ZJ stp tc P n ops ord cl tk al S K
      else ZJ stp tc P n ops ord cl taken al S K)
    else bif wS ops cl ((i - 4096) / 64) && wS ops cl ((i - 4096) % 64) then chk (zne ops (vd C P ops n) cl ((i - 4096) / 64) ((i - 4096) % 64)) (WK
      (Xg stp tc P n ops true ((i - 4096) / 64) false cl taken al S K fun cl tk al S=>ZJ stp tc P n ops ord cl tk al S K)
      (Xg stp tc P n ops true ((i - 4096) % 64) false cl taken al S K fun cl tk al S=>ZJ stp tc P n ops ord cl tk al S K))
    else ZJ stp tc P n ops ord cl taken al S K
end
end Go.Px
namespace Go.Px
set_option linter.unusedSectionVars false
variable [Dfr]
set_option linter.unusedVariables false
section
variable {κ:Kp}{C:Cod}{S S1:St C}{n:Nat}{w0:Start}{σ0:FS}{P:Program}{ρ:Type}{ops:Array Oper}{D:Nat→Prop}{Γ:List (Spec C)}{qo:Opts}
def X3 (ops:Array Oper) (S:St C) (q:Oper) (run:Bool):Prop:=match q.guard with
 |none=>run=true
 |some (j,want)=>∃ dg,(ops[j]?).bind (·.dst)=some dg∧((∃ b,S.env dg = .bool b∧run=(b == want))∨(S.env dg = .tup []∧run=false))
def QV (P:Program) (ops:Array Oper) (S:St C) (q:Oper):Prop:=∃ run,X3 ops S q run∧match run with
 |true=>rdQ q.op=true∧∃ d,q.dst=some d∧evQ P S q.type q.op=some (S.env d)
 |false=>∀ d,q.dst=some d→S.env d = .tup []
omit [Dfr] in
theorem X3.congr {q:Oper}{run:Bool}(h:X3 ops S q run) (he:∀ t∈wZ ops q,S1.env t=S.env t):X3 ops S1 q run:=by
 unfold X3 wZ at *
 cases hg:q.guard with
 |none=>rw [hg] at h;exact h
 |some jw=>
  obtain ⟨j,want⟩:=jw
  rw [hg] at h he
  simp only at h he ⊢
  obtain ⟨dg,e,h⟩:=h
  rw [e] at he
  refine ⟨dg,e,?_⟩
  rw [he dg (by simp)]
  exact h
omit [Dfr] in
theorem vp {q:Oper}{t:Nat}(h:t∈wZ ops q):t∈looks ops q:=List.mem_append_right _ h
omit [Dfr] in
theorem zcy {q:Oper}{ty:TypeId}(he:∀ t∈looks ops q,S1.env t=S.env t) (hh:∀ id∈zdY S q.op,S1.heap id=S.heap id):evQ P S1 ty q.op=evQ P S ty q.op:=by
 have hop:∀ x∈q.op.operands.toList,S.op x=S1.op x:=fun x hx=>by
  cases x with
  |tmp t=>exact (he t (List.mem_append_left _ (zbq hx))).symm
  |const v=>rfl
  |global g=>rfl
  |func f=>rfl
 unfold evQ
 split
 ·rename_i t m parts e
  rw [e] at hop
  have:∀ e,Y2 S1 e (parts.toList.map (·.2))=Y2 S e (parts.toList.map (·.2)):=fun e=>zey (S:=S1) (T:=S) fun x hx=>(hop x (by simpa [Op.operands] using hx)).symm
  unfold zcs
  simp only [this]
 ·exact (zi7 (S:=S) (T:=S1) hop fun id hid=>(hh id hid).symm).symm
omit [Dfr] in
theorem QV.congr {q:Oper}(h:QV P ops S q) (he:∀ t∈looks ops q,S1.env t=S.env t) (hd:∀ d,q.dst=some d→S1.env d=S.env d) (hh:∀ id∈zdY S q.op,S1.heap id=S.heap id):QV P ops S1 q:=by
 obtain ⟨run,hg,h⟩:=h
 refine ⟨run,hg.congr fun t ht=>he t (vp ht),?_⟩
 cases run with
 |true=>
  obtain ⟨h1,d,h2,h3⟩:=h
  exact ⟨h1,d,h2,by rw [zcy he hh,h3,hd d h2]⟩
 |false=>exact fun d e=>by rw [hd d e];exact h d e
omit [Dfr] in
theorem zcz {l:List Nat}{p:Nat→Bool}{dst:Option Nat}{t:Nat}(hk:Keeps S S1 dst l p) (h:zeF S l dst t=true):S1.env t=S.env t:=by
 simp only [zeF,Bool.and_eq_true] at h
 obtain ⟨h1,h2,h3⟩:=h
 refine hk.env t (by rwa [Nat.blt_eq] at h2) (fun e=>?_) h1
 rw [e] at h3;simp at h3
omit [Dfr] in
theorem QV.keep {l:List Nat}{p:Nat→Bool}{dst:Option Nat}{r:Nat}{q:Oper}(h:QV P ops S q) (hk:Keeps S S1 dst l p) (hq:ops[r]?=some q) (hr:zeG ops S l p dst r=true):QV P ops S1 q:=by
 unfold zeG at hr
 rw [hq] at hr
 simp only [Bool.and_eq_true] at hr
 obtain ⟨h1,h2,h3⟩:=hr
 refine h.congr (fun t ht=>zcz hk (List.all_eq_true.1 h1 t ht)) (fun d e=>?_) fun id hid=>?_
 ·rw [e] at h2;exact zcz hk h2
 ·have:=List.all_eq_true.1 h3 id hid
  simp only [Bool.and_eq_true,Bool.not_eq_true'] at this
  exact hk.heap id this.1 this.2
theorem X3.wanted {a:Act}{w:World}{q:Oper}{run:Bool}(h:X3 ops S q run) (hA:At n w0 σ0 κ S a w):Region.wanted q (yielded ops a.tmps)=run:=by
 unfold X3 at h
 unfold Region.wanted
 cases hg:q.guard with
 |none=>rw [hg] at h;exact h.symm
 |some jw=>
  obtain ⟨j,want⟩:=jw
  rw [hg] at h
  simp only at h ⊢
  obtain ⟨dg,e,h⟩:=h
  have hy:=hA.yield e
  rcases h with ⟨b,h1,h2⟩ | ⟨h1,h2⟩
  ·rw [hy.1 b h1,h2];simp
  ·rw [hy.2 h1,h2];simp
theorem At.eqx {a:Act}{w:World}(h:At n w0 σ0 κ S a w) (e:EqX (fun _=>False) S S1):At n w0 σ0 κ S1 a w:=by
 have:S=S1:=by
  obtain ⟨e1,h1⟩:=S
  obtain ⟨e2,h2⟩:=S1
  have a1:h1=h2:=e.heap
  have a2:e1=e2:=funext fun t=>e.env t fun h=>h
  rw [a1,a2]
 rw [← this];exact h
theorem znX (hgl:C.gl w0.w σ0) (hΓ:∀ s∈Γ,s.OK P) {r:Nat}{q:Oper}{a:Act}{w:World}{So:St C}(hq:ops[r]?=some q) (hA:At n w0 σ0 κ So a w) (hX:EqX D So S) (hv:QV P ops S q) (hl:∀ t∈looks ops q,¬ D t) (hn:∀ d,q.dst=some d→Nat.blt d n=true) {Q:Exit→Act→World→Prop}{K:Act→World→Prop}
    (hK:∀ S1 a' w',At n w0 σ0 κ S1 a' w'→EqX (fun t=>D t∧q.dst≠some t) S1 S→K a' w'):wpOp P ops Q r K a w:=by
  obtain ⟨run,hg,hv⟩:=hv
  have hg':X3 ops So q run:=hg.congr fun t ht=>hX.env t (hl t (vp ht))
  have hput:∀ d A,q.dst=some d→S.env d=A→EqX (fun t=>D t∧q.dst≠some t) (So.put d A) S:=fun d A e eA=>⟨hX.heap,fun t ht=>by
    show upd So.env d A t=S.env t
    by_cases h:t=d
    · subst h;rw [zp,eA]
    · rw [zr h]
      exact hX.env t fun hd=>ht ⟨hd,fun e'=>h (by rw [e] at e';exact (Option.some.inj e').symm)⟩⟩
  unfold wpOp
  rw [hq]
  simp only [hg'.wanted hA]
  cases run with
  |true=>
    simp only [if_true]
    left
    obtain ⟨hr,d,hd,he⟩:=hv
    obtain ⟨L,b,σ,PV,hAb,hi,hf⟩:=hA
    have hev:evQ P So q.type q.op=some (S.env d):=by
      rw [← he]
      exact zcy (ops:=ops) (fun t ht=>hX.env t (hl t ht)) fun id _=>by rw [hX.heap]
    obtain ⟨ν,vs,ids,hAb⟩:=hAb
    have hok:=zrS (P:=P) (n:=n) (w0:=w0) (σ0:=σ0) (q:=⟨false⟩) (Γ:=Γ) (ps:=q.pos) (af:=q.after) (g:=q.guard) hAb (hn d hd) hr hev
    have hqe:q=⟨some d,q.op,q.type,q.pos,q.after,q.guard⟩:=by
      cases q;simp only at hd;subst hd;rfl
    rw [← hqe] at hok
    refine hok _ rfl a w hi hf K Q ?_ ?_
    · intro S' e L' σ' PV' a' w' hi' hf' hA'
      cases e
      exact hK _ _ _ ⟨L',b,σ',PV',hA',hi',hf'⟩ (hput d _ hd rfl)
    · intro v S' e;cases e
  |false=>
    simp only [Bool.false_eq_true,if_false]
    cases hd:q.dst with
    |none=>
      refine hK So _ _ hA ⟨hX.heap,fun t ht=>hX.env t fun h=>ht ⟨h,by rw [hd];simp⟩⟩
    |some d=>exact hK _ _ _ (hA.skip (hn d hd)) (hput d _ hd (hv d hd))
def WfL (ops:Array Oper):List Nat→Prop
 |[]=>True
 |i::cl=>(∀ o,ops[i]?=some o→∀ j∈zB o,j∈cl)∧WfL ops cl
def zeH (ops:Array Oper) (al:List (Nat×Nat)):Prop:=∀ i m,(i,m)∈al→∀ o,ops[i]?=some o→∀ X:Nat→Prop,(∀ k q,ops[k]?=some q→X k→∀ j∈zB q,X j)→(∀ j,X j→j < ops.size)→X i→∀ a,Nat.testBit m a=true→X a
omit [Dfr] in
theorem zf8:∀ {al:List (Nat×Nat)}{j a:Nat},Nat.testBit (zcV al j) a=true→∃ m,(j,m)∈al∧Nat.testBit m a=true
 |[],j,a,h=>by simp [zcV] at h
 |(i,m)::r,j,a,h=>by
  unfold zcV at h
  cases e:Nat.beq i j with
  |true=>rw [e] at h;have:=Nat.eq_of_beq_eq_true e;subst this;exact ⟨m,by simp,h⟩
  |false=>
   rw [e] at h
   obtain ⟨m',h1,h2⟩:=zf8 h
   exact ⟨m',List.mem_cons_of_mem _ h1,h2⟩
omit [Dfr] in
theorem zhU {j a:Nat}(h:Nat.testBit (Nat.shiftLeft 1 j) a=true):a=j:=by
 have h:Nat.testBit (1 <<< j) a=true:=h
 rw [Nat.one_shiftLeft,Nat.testBit_two_pow] at h
 exact (of_decide_eq_true h).symm
omit [Dfr] in
theorem zcW {al:List (Nat×Nat)}(hal:zeH ops al) (X:Nat→Prop) (hX:∀ k q,ops[k]?=some q→X k→∀ j∈zB q,X j) (hin:∀ j,X j→j < ops.size):∀ {ds:List Nat},(∀ j∈ds,X j)→∀ a,Nat.testBit (Yv al ds) a=true→X a
 |[],_,a,h=>by simp [Yv] at h
 |j::ds,hd,a,h=>by
  have h:Nat.testBit (((Nat.shiftLeft 1 j) ||| (zcV al j)) ||| (Yv al ds)) a=true:=h
  rw [Nat.testBit_or,Nat.testBit_or,Bool.or_eq_true,Bool.or_eq_true] at h
  rcases h with (h | h) | h
  ·rw [zhU h];exact hd j (by simp)
  ·obtain ⟨m,h1,h2⟩:=zf8 h
   have hj:=hd j (by simp)
   obtain ⟨o,ho⟩:∃ o,ops[j]?=some o:=⟨ops[j]'(hin j hj),Array.getElem?_eq_getElem _⟩
   exact hal j m h1 o ho X hX hin hj a h2
  ·exact zcW hal X hX hin (fun k hk=>hd k (List.mem_cons_of_mem _ hk)) a h
end
end Go.Px
namespace Go.Px
set_option linter.unusedSectionVars false
variable [Dfr]
set_option linter.unusedVariables false
abbrev onX (X:Array Bool) (k:Nat):Bool:=X.getD k false
omit [Dfr] in
theorem zd2 {X:Array Bool}{i:Nat}(h:i < X.size):onX (X.setIfInBounds i true) i=true:=by
 unfold onX;rw [Array.getD_eq_getD_getElem?];simp [h]
omit [Dfr] in
theorem WL {X:Array Bool}{i k:Nat}(h:i≠k):onX (X.setIfInBounds i true) k=onX X k:=by
 unfold onX;rw [Array.getD_eq_getD_getElem?,Array.getElem?_setIfInBounds_ne h,← Array.getD_eq_getD_getElem?]
omit [Dfr] in
theorem xO {X:Array Bool}{i k:Nat}(h:onX X k=true):onX (X.setIfInBounds i true) k=true:=by
 by_cases e:i=k
 ·subst e
  rcases Nat.lt_or_ge i X.size with z | z
  ·exact zd2 z
  ·unfold onX at h;rw [Array.getD_eq_getD_getElem?,Array.getElem?_eq_none z] at h;cases h
 ·rw [WL e];exact h
omit [Dfr] in
theorem xr {X:Array Bool}{i k:Nat}(h:onX (X.setIfInBounds i true) k=false):onX X k=false:=by
 cases e:onX X k with
 |false=>rfl
 |true=>rw [xO e] at h;cases h
omit [Dfr] in
theorem znf {X:Array Bool}{k:Nat}(h:onX X k=true):k < X.size:=by
 rcases Nat.lt_or_ge k X.size with z | z
 ·exact z
 ·unfold onX at h;rw [Array.getD_eq_getD_getElem?,Array.getElem?_eq_none z] at h;cases h
omit [Dfr] in
theorem zhV {X:Array Bool}{k:Nat}(h:k < X.size):X.getD k true=onX X k:=by
 unfold onX;rw [Array.getD_eq_getD_getElem?,Array.getD_eq_getD_getElem?];simp [h]
omit [Dfr] in
theorem zfv {X:Array Bool}{i:Nat}(hi:i < X.size) (h:onX X i=false) {fuel:Nat}(hc:X.toList.count false≤fuel+1):(X.setIfInBounds i true).toList.count false≤fuel:=by
 rw [Array.toList_setIfInBounds,List.count_set (by simpa using hi)]
 have h0:X.toList[i]'(by simpa using hi)=false:=by
  unfold onX at h;rw [Array.getD_eq_getD_getElem?] at h;simp [hi] at h;simpa using h
 rw [h0]
 show X.toList.count false - 1+0≤fuel
 omega
omit [Dfr] in
theorem zje {X:Array Bool}{i:Nat}(hi:i < X.size) (h:onX X i=false):0 < X.toList.count false:=by
 rw [List.count_pos_iff]
 have h0:X.toList[i]'(by simpa using hi)=false:=by
  unfold onX at h;rw [Array.getD_eq_getD_getElem?] at h;simp [hi] at h;simpa using h
 rw [← h0];exact List.getElem_mem _
section
variable {Fx:List Nat}{κ:Kp}{C:Cod}{S S':St C}{n:Nat}{w0:Start}{σ0:FS}{P:Program}{ρ:Type}{ops:Array Oper}{Γ:List (Spec C)}{qo:Opts}{cl taken:List Nat}{al:List (Nat×Nat)}{X:Array Bool}
structure Cfg (P:Program) (ops:Array Oper) (n:Nat) (cl taken:List Nat) (al:List (Nat×Nat)) (S:St C) (X:Array Bool) (Fx:List Nat):Prop where
 size:X.size=ops.size
 sub:∀ i,onX X i=true→i∈cl∨i∈Fx
 fon:∀ i∈Fx,onX X i=true∧i ∉ cl
 wf:WfL ops cl
 tk:∀ i∈cl,onX X i=false→i∈taken
 inc:∀ i∈cl,i < ops.size
 tcl:∀ i∈taken,i∈cl
 closed:∀ k q,ops[k]?=some q→onX X k=true→∀ j∈zB q,onX X j=true
 qv:∀ r q,r∈taken→onX X r=false→ops[r]?=some q→QV P ops S q
 ds:∀ r q d,r∈taken→onX X r=false→ops[r]?=some q→q.dst=some d→Nat.blt d n=true∧d < vB∧d ∉ looks ops q∧∀ j o,ops[j]?=some o→j≠r→(onX X j=false→d∈looks ops o→r∈zB o)∧o.dst≠some d
 anc:zeH ops al
def zj7 (ops:Array Oper) (taken:List Nat) (X:Array Bool) (t:Nat):Prop:=∃ r q,r∈taken∧onX X r=false∧ops[r]?=some q∧q.dst=some t
omit [Dfr] in
theorem Cfg.hit (h:Cfg P ops n cl taken al S X Fx) {i:Nat}(hi:i∈cl) (hd:∀ q,ops[i]?=some q→∀ j∈zB q,onX X j=true):Cfg P ops n cl taken al S (X.setIfInBounds i true) Fx where
 size:=by simp [h.size]
 sub k hk:=by
  by_cases e:i=k
  ·subst e;exact .inl hi
  ·rw [WL e] at hk;exact h.sub k hk
 fon k hk:=⟨xO (h.fon k hk).1,(h.fon k hk).2⟩
 wf:=h.wf
 tk k hk ho:=h.tk k hk (xr ho)
 inc:=h.inc
 tcl:=h.tcl
 closed k q hq hk j hj:=by
  by_cases e:i=k
  ·subst e;exact xO (hd q hq j hj)
  ·rw [WL e] at hk;exact xO (h.closed k q hq hk j hj)
 qv r q hr ho hq:=h.qv r q hr (xr ho) hq
 ds r q d hr ho hq he:=by
  obtain ⟨h1,h2,h3,h4⟩:=h.ds r q d hr (xr ho) hq he
  exact ⟨h1,h2,h3,fun j o hj hne=>⟨fun k=>(h4 j o hj hne).1 (xr k),(h4 j o hj hne).2⟩⟩
 anc:=h.anc
omit [Dfr] in
theorem zeH.add (h:zeH ops al) {i:Nat}{o:Oper}(ho:ops[i]?=some o):zeH ops ((i,Yv al (zB o))::al):=by
 intro j m hm q hq Y hY hin hj a ha
 rcases List.mem_cons.1 hm with e | e
 ·cases e
  rw [ho] at hq;cases hq
  exact zcW h Y hY hin (hY i o ho hj) a ha
 ·exact h j m e q hq Y hY hin hj a ha
omit [Dfr] in
theorem Cfg.sync (h:Cfg P ops n cl taken al S X Fx) {i:Nat}{o:Oper}(ho:ops[i]?=some o) (hi:i ∉ cl) (hiF:i ∉ Fx) (hd:∀ j∈zB o,j∈cl) (hx:∀ j∈zB o,onX X j=true) (hq:∀ r q,r∈taken→onX X r=false→ops[r]?=some q→QV P ops S' q):Cfg P ops n (i::cl) taken ((i,Yv al (zB o))::al) S' (X.setIfInBounds i true) Fx where
 size:=by simp [h.size]
 sub k hk:=by
  by_cases e:i=k
  ·subst e;simp
  ·rw [WL e] at hk;exact (h.sub k hk).imp_left (List.mem_cons_of_mem _)
 fon k hk:=⟨xO (h.fon k hk).1,fun hm=>by
  rcases List.mem_cons.1 hm with e | e
  ·exact hiF (e ▸ hk)
  ·exact (h.fon k hk).2 e⟩
 wf:=⟨fun o' ho' j hj=>by rw [ho] at ho';cases ho';exact hd j hj,h.wf⟩
 tk k hk hoff:=by
  rcases List.mem_cons.1 hk with e | e
  ·subst e;rw [zd2 (by rw [h.size];exact (Array.getElem?_eq_some_iff.1 ho).1)] at hoff;cases hoff
  ·exact h.tk k e (xr hoff)
 inc k hk:=by
  rcases List.mem_cons.1 hk with e | e
  ·subst e;exact (Array.getElem?_eq_some_iff.1 ho).1
  ·exact h.inc k e
 tcl k hk:=List.mem_cons_of_mem _ (h.tcl k hk)
 closed k q hq hk j hj:=by
  by_cases e:i=k
  ·subst e;rw [ho] at hq;cases hq;exact xO (hx j hj)
  ·rw [WL e] at hk;exact xO (h.closed k q hq hk j hj)
 qv r q hr hoff hq':=hq r q hr (xr hoff) hq'
 ds r q d hr hoff hq he:=by
  obtain ⟨h1,h2,h3,h4⟩:=h.ds r q d hr (xr hoff) hq he
  exact ⟨h1,h2,h3,fun j o hj hne=>⟨fun k=>(h4 j o hj hne).1 (xr k),(h4 j o hj hne).2⟩⟩
 anc:=h.anc.add ho
omit [Dfr] in
theorem Cfg.early (h:Cfg P ops n cl taken al S X Fx) {i:Nat}{o:Oper}(ho:ops[i]?=some o) (hi:i ∉ cl) (hiF:i ∉ Fx) (hd:∀ j∈zB o,j∈cl) (he:vc ops n cl taken i o=true) (hv:QV P ops S' o) (hS:∀ t,o.dst≠some t→S'.env t=S.env t) (hh:S'.heap=S.heap) :
    Cfg P ops n (i::cl) (i::taken) ((i,Yv al (zB o))::al) S' X Fx:=by
  have he2:∀ d,o.dst=some d→Nat.blt d n=true∧d < vB∧d ∉ looks ops o∧∀ j q,ops[j]?=some q→j≠i→(j∈cl→j∈taken→d ∉ looks ops q)∧(j ∉ cl→d∈looks ops q→i∈zB q)∧q.dst≠some d:=fun d e=>by
    unfold vc at he
    rw [e] at he
    simp only [Bool.and_eq_true,Bool.not_eq_true'] at he
    obtain ⟨h1,h2,h3,h4⟩:=he
    refine ⟨h1,by rwa [Nat.blt_eq] at h2,fun hm=>(by rw [zN.2 hm] at h3;cases h3),fun j q hj hne=>?_⟩
    have:=List.all_eq_true.1 h4 j (List.mem_range.2 (Array.getElem?_eq_some_iff.1 hj).1)
    rw [hj] at this
    simp only [Bool.or_eq_true,Bool.and_eq_true] at this
    rcases this with z | ⟨z1,z2⟩
    · exact absurd (Nat.eq_of_beq_eq_true z) hne
    · refine ⟨fun hc ht hm=>?_,fun hc hm=>?_,fun e'=>?_⟩
      · rw [zN.2 hc,cond_true,zN.2 ht,zN.2 hm] at z1;cases z1
      · have:zx j cl=false:=by
          cases e:zx j cl with
          |false=>rfl
          |true=>exact absurd (zN.1 e) hc
        rw [this,cond_false,zN.2 hm] at z1
        exact zN.1 (by simpa using z1)
      · rw [e'] at z2;simp at z2
  refine ⟨h.size,fun k hk=>(h.sub k hk).imp_left (List.mem_cons_of_mem _),fun k hk=>⟨(h.fon k hk).1,fun hm=>(by
    rcases List.mem_cons.1 hm with e | e
    · exact hiF (e ▸ hk)
    · exact (h.fon k hk).2 e)⟩,⟨fun o' ho' j hj=>by rw [ho] at ho';cases ho';exact hd j hj,h.wf⟩,fun k hk hoff=>?_,fun k hk=>?_,fun k hk=>?_,h.closed,fun r q hr hoff hq=>?_,fun r q d hr hoff hq e=>?_,h.anc.add ho⟩
  · rcases List.mem_cons.1 hk with e | e
    · subst e;simp
    · exact List.mem_cons_of_mem _ (h.tk k e hoff)
  · rcases List.mem_cons.1 hk with e | e
    · subst e;exact (Array.getElem?_eq_some_iff.1 ho).1
    · exact h.inc k e
  · rcases List.mem_cons.1 hk with e | e
    · subst e;simp
    · exact List.mem_cons_of_mem _ (h.tcl k e)
  · rcases List.mem_cons.1 hr with e | e
    · subst e;rw [ho] at hq;cases hq;exact hv
    · have hne:r≠i:=fun e'=>hi (e' ▸ h.tcl r e)
      refine (h.qv r q e hoff hq).congr (fun t ht=>?_) (fun d ed=>?_) fun id _=>by rw [hh]
      · exact hS t fun e'=>((he2 t e').2.2.2 r q hq hne).1 (h.tcl r e) e ht
      · exact hS d fun e'=>((he2 d e').2.2.2 r q hq hne).2.2 ed
  · rcases List.mem_cons.1 hr with e' | e'
    · subst e'
      rw [ho] at hq;cases hq
      obtain ⟨h1,h2,h3,h4⟩:=he2 d e
      refine ⟨h1,h2,h3,fun j o' hj hne=>⟨fun hoff' hm=>?_,(h4 j o' hj hne).2.2⟩⟩
      by_cases hc:j∈cl
      · exact absurd hm ((h4 j o' hj hne).1 hc (h.tk j hc hoff'))
      · exact (h4 j o' hj hne).2.1 hc hm
    · exact h.ds r q d e' hoff hq e
omit [Dfr] in
theorem znY:∀ {cl:List Nat},WfL ops cl→(∀ i∈cl,i < ops.size)→(∃ i∈cl,onX X i=false)→∃ i q,i∈cl∧onX X i=false∧ops[i]?=some q∧∀ j∈zB q,onX X j=true
 |[],_,_,⟨i,h,_⟩=>by cases h
 |i::cl,⟨h1,h2⟩,hin,hex=>by
  by_cases hx:∃ i∈cl,onX X i=false
  ·obtain ⟨j,q,k1,k2,k3,k4⟩:=znY h2 (fun j hj=>hin j (List.mem_cons_of_mem _ hj)) hx
   exact ⟨j,q,List.mem_cons_of_mem _ k1,k2,k3,k4⟩
  ·have hall:∀ j∈cl,onX X j=true:=fun j hj=>by
    cases e:onX X j with
    |true=>rfl
    |false=>exact absurd ⟨j,hj,e⟩ hx
   obtain ⟨j,hj,hoff⟩:=hex
   rcases List.mem_cons.1 hj with e | e
   ·subst e
    have hlt:=hin j (by simp)
    exact ⟨j,ops[j],by simp,hoff,Array.getElem?_eq_getElem hlt,fun k hk=>hall k (h1 _ (Array.getElem?_eq_getElem hlt) k hk)⟩
   ·exact absurd ⟨j,e,hoff⟩ hx
omit [Dfr] in
theorem xB (hs:X.size=ops.size) {i:Nat}:i∈Region.ready .any ops X↔onX X i=false∧∃ o,ops[i]?=some o∧∀ j∈zB o,onX X j=true:=by
 rw [mem_ready]
 constructor
 ·rintro ⟨h1,o,h2,h3⟩
  have hlt:i < X.size:=by rw [hs];exact (Array.getElem?_eq_some_iff.1 h2).1
  refine ⟨by rw [← zhV hlt];exact h1,o,h2,fun j hj=>?_⟩
  obtain ⟨e,he,rfl⟩:=List.mem_map.1 hj
  obtain ⟨h4,h5⟩:=List.mem_filter.1 he
  exact h3 e (by simpa using h4) h5
 ·rintro ⟨h1,o,h2,h3⟩
  have hlt:i < X.size:=by rw [hs];exact (Array.getElem?_eq_some_iff.1 h2).1
  exact ⟨by rw [zhV hlt];exact h1,o,h2,fun e he hb=>h3 e.on (zj5 he hb)⟩
omit [Dfr] in
theorem zf9 (hall:∀ i∈taken,onX X i=true):∀ t,¬ zj7 ops taken X t:=fun t ⟨r,q,h1,h2,_⟩=>by rw [hall r h1] at h2;cases h2
omit [Dfr] in
theorem EqX.weaken {D D':Nat→Prop}{So:St C}(h:EqX D So S) (hD:∀ t,D t→D' t):EqX D' So S:=⟨h.heap,fun t ht=>h.env t fun hd=>ht (hD t hd)⟩
omit [Dfr] in
theorem AbsL.mask {L:List (Nat×Value)}{b:Nat→Value}{σ:FS}{PV:List Priv}{ν:Val}{vs:Nat→List Value}{ids:List Nat}{So:St C}{l:List Nat}(h:AbsL κ So ν vs ids L b σ PV) (e:EqX (fun t=>t∈l) So S):AbsL κ (zcx S l) ν vs ids L b σ PV:=by
 have hh:(zcx S l).heap=So.heap:=e.heap.symm
 have henv:∀ t,(zcx S l).env t = .und∨(zcx S l).env t=So.env t:=fun t=>by
  show (bif zx t l then AV.und else S.env t)=_∨(bif zx t l then AV.und else S.env t)=_
  cases hm:zx t l with
  |true=>exact .inl rfl
  |false=>
   refine .inr (e.env t fun hd=>?_).symm
   rw [zN.2 hd] at hm;cases hm
 refine ⟨⟨h.nd,fun id=>by rw [hh];exact h.dom id,by rw [h.pv,hh],fun id cs hc=>h.cell id cs (by rw [← hh];exact hc),fun t=>?_,h.one⟩,fun t=>?_,fun id cs hc=>?_,fun k hk hs=>have q:=h.keep k hk (by rw [← hh];exact hs);⟨q.1,q.2.1,fun hf=>q.2.2 (by rw [← hh];exact hf)⟩⟩
 ·rcases henv t with z | z
  ·rw [z];trivial
  ·rw [z];exact h.env t
 ·rcases henv t with z | z
  ·rw [z];trivial
  ·rw [z,hh];exact h.live t
 ·rw [hh] at hc ⊢;exact h.livec id cs hc
omit [Dfr] in
theorem zjf {d:Nat}{A:AV C.D}(h:S.env d=A):S.put d A=S:=by
 unfold St.put
 have:upd S.env d A=S.env:=by
  funext t
  by_cases e:t=d
  ·subst e;rw [zp,h]
  ·rw [zr e]
 rw [this]
omit [Dfr] in
theorem zR.inv {D:Nat→Prop}{x:Option (Out C)}{out:Out C}(h:zR D x (some out)):∃ out',x=some out'∧match out',out with
    | .go S,.go T=>EqX D S T
    | .pan u S,.pan v T=>u=v∧EqX D S T
    |_,_=>False:=by
  match x,out,h with
  |some (.go S),.go T,h=>exact ⟨_,rfl,h⟩
  |some (.pan u S),.pan v T,h=>exact ⟨_,rfl,h⟩
  |some (.go S),.pan v T,h=>exact h.elim
  |some (.pan u S),.go T,h=>exact h.elim
omit [Dfr] in
theorem xP {okB:Bool}{i:Nat}{early:Bool}{next:List Nat→List Nat→List (Nat×Nat)→St C→Option ρ}{K:XE C→St C→Option ρ}{r:ρ}{stp:yV C}{tc:Oper→St C→Option Tch}(h:Xg stp tc P n ops okB i early cl taken al S K next=some r) :
    ∃ o run,ops[i]?=some o∧i ∉ cl∧(∀ j∈zB o,j∈cl)∧(∀ t∈wZ ops o,∃ j,j∈zB o∧(ops[j]?).bind (·.dst)=some t)∧X3 ops S o run∧yL stp tc P n ops okB cl taken (Yv al (zB o)) K i early o run S (fun S tk=>next (i::cl) tk ((i,Yv al (zB o))::al) S)=some r:=by
  unfold Xg at h
  split at h
  · cases h
  · rename_i o ho
    obtain ⟨hc,h⟩:=zb h
    simp only [Bool.and_eq_true,Bool.not_eq_true'] at hc
    have h1:i ∉ cl:=fun hm=>by rw [zN.2 hm] at hc;cases hc.1
    have h2:∀ j∈zB o,j∈cl:=fun j hj=>zN.1 (List.all_eq_true.1 hc.2 j hj)
    split at h
    · rename_i hg
      exact ⟨o,true,ho,h1,h2,fun t ht=>(by unfold wZ at ht;rw [hg] at ht;cases ht),(by unfold X3;rw [hg]),h⟩
    · rename_i j want hg
      obtain ⟨hj,h⟩:=zb h
      have hj:=zN.1 hj
      split at h
      · cases h
      · rename_i dg hdg
        have hgt:∀ t∈wZ ops o,∃ j,j∈zB o∧(ops[j]?).bind (·.dst)=some t:=fun t ht=>by
          unfold wZ at ht
          rw [hg] at ht
          simp only [hdg] at ht
          have:=List.mem_singleton.1 ht
          subst this
          exact ⟨j,hj,hdg⟩
        have hgr:∀ {run:Bool},((∃ b,S.env dg = .bool b∧run=(b == want))∨(S.env dg = .tup []∧run=false))→X3 ops S o run:=fun {run} k=>by
          unfold X3;rw [hg];exact ⟨dg,hdg,k⟩
        split at h
        · rename_i q e
          cases q with
          |true=>
            rw [if_pos rfl,zjf e] at h
            exact ⟨o,want,ho,h1,h2,hgt,hgr (.inl ⟨true,e,by simp⟩),h⟩
          |false=>
            rw [if_neg (by simp),zjf e] at h
            exact ⟨o, !want,ho,h1,h2,hgt,hgr (.inl ⟨false,e,by cases want <;> rfl⟩),h⟩
        · rename_i e
          exact ⟨o,false,ho,h1,h2,hgt,hgr (.inr ⟨e,rfl⟩),h⟩
        · cases h
omit [Dfr] in
theorem zcA {i:Nat}{early:Bool}{ord:List (Nat×Bool)}{K:XE C→St C→Option ρ}{stp:yV C}{tc:Oper→St C→Option Tch}(hi:Nat.blt i 4096=true) (hr:wS ops cl i=true):ZJ stp tc P n ops ((i,early)::ord) cl taken al S K=Xg stp tc P n ops (zj6 ops (vd C P ops n) cl i) i early cl taken al S K fun cl tk al S=>ZJ stp tc P n ops ord cl tk al S K:=by
 show (bif Nat.blt i 4096 then (bif wS ops cl i then _ else _) else _)=_
 rw [hi,hr,cond_true,cond_true]
omit [Dfr] in
theorem zbX {i:Nat}{early:Bool}{ord:List (Nat×Bool)}{K:XE C→St C→Option ρ}{stp:yV C}{tc:Oper→St C→Option Tch}(hi:Nat.blt i 4096=true) (hr:wS ops cl i=false):ZJ stp tc P n ops ((i,early)::ord) cl taken al S K=ZJ stp tc P n ops ord cl taken al S K:=by
 show (bif Nat.blt i 4096 then (bif wS ops cl i then _ else _) else _)=_
 rw [hi,hr,cond_true,cond_false]
omit [Dfr] in
theorem zcB {i:Nat}{early:Bool}{ord:List (Nat×Bool)}{K:XE C→St C→Option ρ}{stp:yV C}{tc:Oper→St C→Option Tch}(hi:Nat.blt i 4096=false):ZJ stp tc P n ops ((i,early)::ord) cl taken al S K=(bif wS ops cl ((i - 4096) / 64) && wS ops cl ((i - 4096) % 64) then chk (zne ops (vd C P ops n) cl ((i - 4096) / 64) ((i - 4096) % 64)) (WK
      (Xg stp tc P n ops true ((i - 4096) / 64) false cl taken al S K fun cl tk al S=>ZJ stp tc P n ops ord cl tk al S K)
      (Xg stp tc P n ops true ((i - 4096) % 64) false cl taken al S K fun cl tk al S=>ZJ stp tc P n ops ord cl tk al S K))
    else ZJ stp tc P n ops ord cl taken al S K):=by
  show (bif Nat.blt i 4096 then (bif wS ops cl i then _ else _) else _)=_
  rw [hi,cond_false]
omit [Dfr] in
theorem zj8 {i:Nat}{o:Oper}{run:Bool}{K:XE C→St C→Option ρ}{r:ρ}{stp:yV C}{tc:Oper→St C→Option Tch}{m:Nat}{next:St C→List Nat→Option ρ}(hg:X3 ops S o run) (hgl:∀ t∈wZ ops o,o.dst≠some t)
    {okB:Bool} (h:yL stp tc P n ops okB cl taken m K i true o run S next=some r):vc ops n cl taken i o=true∧∃ S',next S' (i::taken)=some r∧QV P ops S' o∧(∀ t,o.dst≠some t→S'.env t=S.env t)∧S'.heap=S.heap:=by
  unfold yL at h
  rw [cond_true] at h
  obtain ⟨he,h⟩:=zb h
  refine ⟨he,?_⟩
  have hlook:∀ d,o.dst=some d→d ∉ looks ops o:=fun d e hm=>by
    unfold vc at he
    rw [e] at he
    simp only [Bool.and_eq_true,Bool.not_eq_true'] at he
    rw [zN.2 hm] at he;cases he.2.2.1
  have hput:∀ d A t,o.dst=some d→o.dst≠some t→(S.put d A).env t=S.env t:=fun d A t e k=>zr fun e'=>k (by rw [e,e'])
  cases run with
  |true=>
    rw [cond_true] at h
    split at h
    · rename_i d hd
      obtain ⟨hr,h⟩:=zb h
      rw [zrn] at h
      obtain ⟨A,hA,h⟩:=Option.bind_eq_some_iff.1 h
      refine ⟨_,h,⟨true,hg.congr fun t ht=>hput d A t hd (hgl t ht),hr,d,hd,?_⟩,fun t k=>hput d A t hd k,rfl⟩
      rw [zcy (ops:=ops) (S:=S) (fun t ht=>hput d A t hd fun e=>?_) fun id _=>rfl,hA]
      · show some A=some (upd S.env d A d);rw [zp]
      · rw [hd] at e;cases e;exact hlook d hd ht
    · cases h
  |false=>
    rw [cond_false] at h
    split at h
    · rename_i d hd
      refine ⟨_,h,⟨false,hg.congr fun t ht=>hput d _ t hd (hgl t ht),fun d' e=>?_⟩,fun t k=>hput d _ t hd k,rfl⟩
      rw [hd] at e;cases e
      exact zp
    · rename_i hd
      exact ⟨_,h,⟨false,hg,fun d' e=>by rw [hd] at e;cases e⟩,fun t _=>rfl,rfl⟩
omit [Dfr] in
theorem Sep.perm {σ:FS}{A B:List Priv}(p:A.Perm B):∀ {h:zd},Sep σ A h→Sep σ B h:=by
 induction p with
 |nil=>exact fun h=>h
 |cons x _ ih=>
  intro h k
  obtain ⟨h1,h2,k1,k2,l1,l2,d⟩:=k.uncons
  exact .cons k1 (ih k2) l1 l2 d
 |swap x y l=>
  intro h k
  obtain ⟨h1,h2,k1,k2,l1,l2,d⟩:=k.uncons
  obtain ⟨g1,g2,m1,m2,n1,n2,e⟩:=k2.uncons
  have d1:h1.disj g2:=d.mono (.refl _) n2
  exact .cons (h2:=h1.or g2) m1 (.cons k1 m2 (zd.le_or _ _) (zd.le_or_right d1) d1) (n1.trans l2) (zd.or_le l1 (n2.trans l2)) ((zd.or_disj (d.mono (.refl _) n1) e.symm).symm)
 |trans _ _ i1 i2=>exact fun h=>i2 (i1 h)
omit [Dfr] in
structure Home (C:Cod) (w0:Start) (σ0:FS) (st:Start) (σs:FS) (FR:List Priv):Prop where
 home:∀ {σ PV w},Inv st σs σ PV w→Inv w0 σ0 σ (PV++FR) w
 gl:C.gl st.w σs
omit [Dfr] in
theorem Home.make (hgl:C.gl w0.w σ0) {A B:List Priv}{σ:FS}{w:World}(hi:Inv w0 σ0 σ (A++B) w):∃ st,Home C w0 σ0 st σ B∧Inv st σ σ A w:=by
 obtain ⟨gg,hs,hg⟩:=hi.own
 obtain ⟨f1,f2,s1,s2,l1,l2,dd⟩:=hs.split
 exact ⟨⟨w,f1⟩,⟨fun {τ PV w'} k=>hi.call hg s2 l1 l2 dd k,C.glm hi.le hi.ext hgl⟩,.start hi.sub s1 (hg.sub.mono l1) (hg.mono l1).apart⟩
structure Fl where
 i:Nat
 d:Nat
 ad:Addr
 zs:List Value
def frF (F:List Fl):List Priv:=F.map fun f =>.cell f.ad f.zs
def zr0 (C:Cod) (P:Program) (ops:Array Oper) (n i d:Nat) (zs:List Value):Prop:=
 ∃ o t ti zv,ops[i]?=some o∧o.dst=some d∧o.op = .alloc t∧o.guard=none∧P.info? t=some ti∧ti.zero=some zv∧zv.cells.toList=zs∧C.oal t zs=none∧Nat.blt d n=true∧d < vB∧∀ j q,ops[j]?=some q→j≠i→(d∈looks ops q→i∈zB q)∧q.dst≠some d
omit [Dfr] in
theorem zr1 {i:Nat}(h:i∈vd C P ops n):∃ d zs,zr0 C P ops n i d zs:=by
 have h:=(List.mem_filter.1 h).2
 unfold flB at h
 split at h
 ·cases h
 ·rename_i o ho
  split at h
  ·rename_i d t e1 e2 e3
   split at h
   ·rename_i ti hti
    split at h
    ·rename_i zv hz
     split at h
     ·rename_i hoal
      simp only [Bool.and_eq_true] at h
      obtain ⟨h1,h2,h3⟩:=h
      refine ⟨d,_,o,t,ti,zv,ho,e1,e2,e3,hti,hz,rfl,hoal,h1,by rwa [Nat.blt_eq] at h2,fun j q hq hne=>?_⟩
      have:=List.all_eq_true.1 h3 j (List.mem_range.2 (Array.getElem?_eq_some_iff.1 hq).1)
      rw [hq] at this
      simp only [Bool.or_eq_true,Bool.and_eq_true,Bool.not_eq_true'] at this
      rcases this with z | ⟨z1,z2⟩
      ·exact absurd (Nat.eq_of_beq_eq_true z) hne
      ·refine ⟨fun hm=>?_,fun e=>?_⟩
       ·rcases z1 with z | z
        ·rw [zN.2 hm] at z;cases z
        ·exact zN.1 z
       ·rw [e] at z2;simp at z2
     ·cases h
    ·cases h
   ·cases h
  ·cases h
structure FOK (C:Cod) (P:Program) (ops:Array Oper) (n:Nat) (a:Act) (F:List Fl):Prop where
 op:∀ f∈F,zr0 C P ops n f.i f.d f.zs
 fl:∀ f∈F,f.i∈vd C P ops n
 val:∀ f∈F,a.tmps.getD f.d undef = .pointer (some f.ad)
 nd:(F.map Fl.i).Nodup
def flD (ops:Array Oper) (taken:List Nat) (X:Array Bool) (F:List Fl) (t:Nat):Prop:=zj7 ops taken X t∨∃ f∈F,f.d=t
structure Rl (P:Program) (ops:Array Oper) (n:Nat) (w0:Start) (σ0:FS) (κ:Kp) (taken:List Nat) (X:Array Bool) (F:List Fl) (So S:St C) (a:Act) (w:World):Prop where
 at_:∃ st σs,Home C w0 σ0 st σs (frF F)∧At n st σs κ So a w
 eqx:EqX (flD ops taken X F) So S
 fok:FOK C P ops n a F
def zcX (ops:Array Oper) (j:Nat) (a a':Act):Prop:=∀ t,(∀ o,ops[j]?=some o→o.dst≠some t)→a'.tmps.getD t undef=a.tmps.getD t undef
omit [Dfr] in
theorem Vy {a:Act}{dst:Option Nat}{v:Value}{t:Nat}(h:dst≠some t):(a.put dst v).tmps.getD t undef=a.tmps.getD t undef:=by
 cases dst with
 |none=>rfl
 |some d=>
  show (a.tmps.setIfInBounds d v).getD t undef=_
  rw [Array.getD_eq_getD_getElem?,Array.getElem?_setIfInBounds_ne (fun e=>h (by rw [e])),← Array.getD_eq_getD_getElem?]
omit [Dfr] in
theorem zjg {o:Oper}{a:Act}{w:World}{K:Act→World→Prop}{Q:Exit→Act→World→Prop}(h:o.wp P a w K Q):o.wp P a w (fun a' w'=>K a' w'∧∀ t,o.dst≠some t→a'.tmps.getD t undef=a.tmps.getD t undef) Q:=by
 unfold Oper.wp at *
 generalize (execOp a.eval o).run P w=r at *
 cases r with
 |ok n w'=>
  cases n <;> simp only [Oper.upon] at h ⊢ <;>
   first
    |exact ⟨h,fun t ht=>Vy ht⟩
    |exact Calls.mono h (fun e w'' he=>by cases e <;> first | exact ⟨he,fun t ht=>Vy ht⟩ | exact he)
    |exact Rows.mono h (fun _ _ he=>⟨he,fun t ht=>Vy ht⟩)
    |exact h
 |halt x w'=>cases x <;> simp only [Oper.upon] at h ⊢ <;> exact h
omit [Dfr] in
theorem zga {j:Nat}{a:Act}{w:World}{K:Act→World→Prop}{Q:Exit→Act→World→Prop}(h:wpOp P ops Q j K a w):wpOp P ops Q j (fun a' w'=>K a' w'∧zcX ops j a a') a w:=by
 unfold wpOp zcX at *
 cases ho:ops[j]? with
 |none=>rw [ho] at h;exact ⟨h,fun t _=>rfl⟩
 |some o=>
  rw [ho] at h
  simp only at h ⊢
  split
  ·rename_i hw
   rw [if_pos hw] at h
   refine h.imp (fun h=>Oper.wp_mono (fun a' w' hk=>⟨hk.1,fun t ht=>hk.2 t (ht o rfl)⟩) (zjg h)) id
  ·rename_i hw
   rw [if_neg hw] at h
   exact ⟨h,fun t ht=>Vy (ht o rfl)⟩
omit [Dfr] in
theorem FOK.next {a a':Act}{F:List Fl}{j:Nat}(h:FOK C P ops n a F) (ht:zcX ops j a a') (hj:∀ f∈F,f.i≠j):FOK C P ops n a' F:=
 ⟨h.op,h.fl,fun f hf=>by
  obtain ⟨o,t,ti,zv,_,_,_,_,_,_,_,_,_,_,p⟩:=h.op f hf
  rw [ht f.d fun q hq=>(p j q hq (hj f hf).symm).2];exact h.val f hf,h.nd⟩
omit [Dfr] in
theorem WfL.deps {j:Nat}{q:Oper}(hq:ops[j]?=some q) {k:Nat}(hk:k∈zB q):∀ {cl:List Nat},WfL ops cl→j∈cl→k∈cl:=by
 intro cl
 induction cl with
 |nil=>intro _ hj;cases hj
 |cons i cl ih=>
  intro h hj
  obtain ⟨h1,h2⟩:=(show (∀ o,ops[i]?=some o→∀ j∈zB o,j∈cl)∧WfL ops cl from h)
  rcases List.mem_cons.1 hj with e | e
  ·subst e;exact List.mem_cons_of_mem _ (h1 q hq k hk)
  ·exact List.mem_cons_of_mem _ (ih h2 e)
omit [Dfr] in
theorem Cfg.flt (h:Cfg P ops n cl taken al S X Fx) {i:Nat}{o:Oper}(ho:ops[i]?=some o) (hi:i ∉ cl) (hx:∀ j∈zB o,onX X j=true):Cfg P ops n cl taken al S (X.setIfInBounds i true) (i::Fx) where
 size:=by simp [h.size]
 sub k hk:=by
  by_cases e:i=k
  ·subst e;exact .inr (by simp)
  ·rw [WL e] at hk;exact (h.sub k hk).imp_right (List.mem_cons_of_mem _)
 fon k hk:=by
  rcases List.mem_cons.1 hk with e | e
  ·subst e;exact ⟨zd2 (by rw [h.size];exact (Array.getElem?_eq_some_iff.1 ho).1),hi⟩
  ·exact ⟨xO (h.fon k e).1,(h.fon k e).2⟩
 wf:=h.wf
 tk k hk hoff:=h.tk k hk (xr hoff)
 inc:=h.inc
 tcl:=h.tcl
 closed k q hq hk j hj:=by
  by_cases e:i=k
  ·subst e;rw [ho] at hq;cases hq;exact xO (hx j hj)
  ·rw [WL e] at hk;exact xO (h.closed k q hq hk j hj)
 qv r q hr ho hq:=h.qv r q hr (xr ho) hq
 ds r q d hr ho hq he:=by
  obtain ⟨h1,h2,h3,h4⟩:=h.ds r q d hr (xr ho) hq he
  exact ⟨h1,h2,h3,fun j o hj hne=>⟨fun k=>(h4 j o hj hne).1 (xr k),(h4 j o hj hne).2⟩⟩
 anc:=h.anc
omit [Dfr] in
theorem Cfg.absorb (h:Cfg P ops n cl taken al S X Fx) {Fy:List Nat}{i:Nat}{o:Oper}(ho:ops[i]?=some o) (hi:i∈Fx) (hd:∀ j∈zB o,j∈cl) (hF:∀ k,k∈Fy↔k∈Fx∧k≠i) (hq:∀ r q,r∈taken→onX X r=false→ops[r]?=some q→QV P ops S' q):Cfg P ops n (i::cl) taken ((i,Yv al (zB o))::al) S' X Fy where
 size:=h.size
 sub k hk:=by
  rcases h.sub k hk with z | z
  ·exact .inl (List.mem_cons_of_mem _ z)
  ·by_cases e:k=i
   ·subst e;exact .inl (by simp)
   ·exact .inr ((hF k).2 ⟨z,e⟩)
 fon k hk:=by
  obtain ⟨h1,h2⟩:=(hF k).1 hk
  refine ⟨(h.fon k h1).1,fun hm=>?_⟩
  rcases List.mem_cons.1 hm with e | e
  ·exact h2 e
  ·exact (h.fon k h1).2 e
 wf:=⟨fun o' ho' j hj=>by rw [ho] at ho';cases ho';exact hd j hj,h.wf⟩
 tk k hk hoff:=by
  rcases List.mem_cons.1 hk with e | e
  ·subst e;rw [(h.fon k hi).1] at hoff;cases hoff
  ·exact h.tk k e hoff
 inc k hk:=by
  rcases List.mem_cons.1 hk with e | e
  ·subst e;exact (Array.getElem?_eq_some_iff.1 ho).1
  ·exact h.inc k e
 tcl k hk:=List.mem_cons_of_mem _ (h.tcl k hk)
 closed:=h.closed
 qv:=hq
 ds:=h.ds
 anc:=h.anc.add ho
omit [Dfr] in
theorem ziM {d:Nat}{t:TypeId}:xW P S (some d) (.alloc t)=none:=by unfold xW;rfl
omit [Dfr] in
theorem zj9 {d:Nat}{t ty:TypeId}:xM qo Γ P d ty S (.alloc t)=XV P S d t:=by unfold xM;rfl
omit [Dfr] in
theorem zka {d:Nat}{t ty:TypeId}{ps:String}{af:Array Edge}{g:Option (Nat×Bool)}:stp qo Γ P n ⟨some d,.alloc t,ty,ps,af,g⟩ S=chk (Nat.blt d n) (XV P S d t):=by
 unfold stp
 simp only [ziM]
 unfold Vu
 simp only [zj9]
omit [Dfr] in
theorem zng {o:Oper}{d:Nat}{t:TypeId}{ti:TypeInfo}{zv:Value}{zs:List Value}{out:Out C}(p2:o.dst=some d) (p3:o.op = .alloc t) (p5:P.info? t=some ti) (p6:ti.zero=some zv) (p7:zv.cells.toList=zs) (p8:C.oal t zs=none) (hs:stp qo Γ P n o S=some out) :
    S.heap (nid d 0)=none∧out = .go {env:=upd S.env d (.pc (nid d 0) 0),heap:=upd S.heap (nid d 0) (some (.cell (zs.map ZL)))}:=by
  obtain ⟨dst,op,ty,ps,af,g⟩:=o
  simp only at p2 p3
  subst p2 p3 p7
  rw [zka] at hs
  obtain ⟨_,hs⟩:=zb hs
  unfold XV at hs
  rw [p5] at hs
  simp only [p6,p8] at hs
  obtain ⟨h0,hs⟩:=zb hs
  cases hs
  exact ⟨Za h0,rfl⟩
theorem absorb (hgl:C.gl w0.w σ0) {okB:Bool}{i:Nat}{next:List Nat→List Nat→List (Nat×Nat)→St C→Option ρ}{K:XE C→St C→Option ρ}{r:ρ}(hdr:Xg (xN qo Γ P n) (tch Γ P) P n ops okB i false cl taken al S K next=some r) {F:List Fl}(hi:i∈F.map Fl.i) {a:Act}{w:World}{So:St C}
    (hc:Cfg P ops n cl taken al S X (F.map Fl.i)) (hR:Rl P ops n w0 σ0 κ taken X F So S a w):∃ S' So' F' al',next (i::cl) taken al' S'=some r∧Cfg P ops n (i::cl) taken al' S' X (F'.map Fl.i)∧Rl P ops n w0 σ0 κ taken X F' So' S' a w:=by
  obtain ⟨o,run,ho,hicl,hd,hgt,hg,h⟩:=xP hdr
  obtain ⟨f,hf,rfl⟩:=List.mem_map.1 hi
  obtain ⟨F1,F2,rfl⟩:=List.append_of_mem hf
  obtain ⟨o',t,ti,zv,p1,p2,p3,p4,p5,p6,p7,p8,p9,p10,p11⟩:=hR.fok.op f hf
  rw [ho] at p1;cases p1
  have hrun:run=true:=by unfold X3 at hg;rw [p4] at hg;exact hg
  subst hrun
  unfold yL at h
  rw [cond_false] at h
  obtain ⟨_,h⟩:=zb h
  rw [cond_true] at h
  have hdeps:∀ k∈zB o,onX X k=true:=hc.closed f.i o ho (hc.fon f.i hi).1
  have hanc:∀ r',onX X r'=false→Nat.testBit (Yv al (zB o)) r'=false:=fun r' hr'=>by
    cases e:Nat.testBit (Yv al (zB o)) r' with
    |false=>rfl
    |true=>
      have this:onX X r'=true:=zcW hc.anc (fun k=>onX X k=true) (fun k q hk hon=>hc.closed k q hk hon) (fun k hk=>by rw [← hc.size];exact znf hk) hdeps r' e
      rw [this] at hr';cases hr'
  split at h
  · cases h
  · rename_i l p htc
    obtain ⟨hall,h⟩:=zb h
    rw [Vh] at h
    obtain ⟨out,hs,h⟩:=Option.bind_eq_some_iff.1 h
    obtain ⟨h0,rfl⟩:=zng p2 p3 p5 p6 p7 p8 hs
    have hkeep:=znd hs htc
    have hnd:=hR.fok.nd
    rw [List.map_append,List.map_cons] at hnd
    obtain ⟨hnd1,hnd2⟩:=List.nodup_cons.1 ((List.Perm.nodup_iff List.perm_middle).1 hnd)
    refine ⟨_,{env:=upd So.env f.d (.pc (nid f.d 0) 0),heap:=upd So.heap (nid f.d 0) (some (.cell (f.zs.map ZL)))},F1++F2,_,h,hc.absorb ho hi hd (fun k=>?_) (fun r' q' h1 h2 h3=>?_),?_,?_,?_⟩
    · simp only [List.map_append,List.map_cons,List.mem_append,List.mem_cons] at hnd1 ⊢
      constructor
      · intro hk
        refine ⟨hk.imp_right .inr,fun e=>?_⟩
        subst e;exact hnd1 hk
      · rintro ⟨hk | hk | hk,hne⟩
        · exact .inl hk
        · exact absurd hk hne
        · exact .inr hk
    · have:=List.all_eq_true.1 hall r' h1
      rw [hanc r' h2,Bool.false_or] at this
      exact (hc.qv r' q' h1 h2 h3).keep hkeep h3 this
    · obtain ⟨st,σs,hh,L,b,σ,PV,⟨ν,vs,ids,hA⟩,hinv,hfi⟩:=hR.at_
      have hi2:Inv w0 σ0 σ ((.cell f.ad f.zs::PV)++frF (F1++F2)) w:=(hh.home hinv).sub_own fun g k=>Sep.perm (by
        simp only [frF,List.map_append,List.map_cons,List.cons_append]
        rw [← List.append_assoc,← List.append_assoc]
        exact List.perm_middle) k
      obtain ⟨st',hh',hinv'⟩:=Home.make hgl hi2
      refine ⟨st',σ,hh',L,b,σ,_,?_,hinv',hfi⟩
      have hv:look L b f.d = .pointer (some (f.ad.add 0)):=by rw [← hfi.get,hR.fok.val f hf];simp [Addr.add]
      refine zC.unput (hA.new (d:=f.d) (by rw [hR.eqx.heap];exact h0) (yi κ f.d 0) (e :=.cell _) (v :=.slice none 0 0) (a:=⟨f.ad,fun _ =>.slice none 0 0⟩) (us:=f.zs) (A :=.pc (nid f.d 0) 0) (u :=.pointer (some (f.ad.add 0))) (fun ν' h1 h2=>⟨?_,by show nid f.d 0=nid f.d 0;rfl⟩) rfl rfl (fun cs hcs=>?_) (by simp [Ent.at,Addr.add])) hv
      · show Value.pointer (some f.ad) = .pointer (some ((ν'.adr _).a.add 0));rw [h2];simp [Addr.add]
      · cases hcs;exact ⟨YU _,xy _⟩
    · refine ⟨?_,fun t' ht'=>?_⟩
      · show upd So.heap _ _=upd S.heap _ _
        rw [hR.eqx.heap]
      · show upd So.env _ _ t'=upd S.env _ _ t'
        by_cases e:t'=f.d
        · subst e;rw [zp,zp]
        · rw [zr e,zr e]
          refine hR.eqx.env t' fun hD=>ht' ?_
          rcases hD with z | ⟨g,hg1,hg2⟩
          · exact .inl z
          · refine .inr ⟨g,?_,hg2⟩
            rcases List.mem_append.1 hg1 with z | z
            · exact List.mem_append_left _ z
            · rcases List.mem_cons.1 z with z | z
              · subst z;exact absurd hg2.symm e
              · exact List.mem_append_right _ z
    · have hsub:∀ g,g∈F1++F2→g∈F1++f::F2:=fun g hg=>by
        rcases List.mem_append.1 hg with z | z
        · exact List.mem_append_left _ z
        · exact List.mem_append_right _ (List.mem_cons_of_mem _ z)
      exact ⟨fun g hg=>hR.fok.op g (hsub g hg),fun g hg=>hR.fok.fl g (hsub g hg),fun g hg=>hR.fok.val g (hsub g hg),by rw [List.map_append];exact hnd2⟩
omit [Dfr] in
theorem zdH {okB:Bool}{i:Nat}{next:List Nat→List Nat→List (Nat×Nat)→St C→Option ρ}{K:XE C→St C→Option ρ}{r:ρ}(hdr:Xg (xN qo Γ P n) (tch Γ P) P n ops okB i true cl taken al S K next=some r) {F:List Fl}(hi:i∈F.map Fl.i) {a:Act}(hF:FOK C P ops n a F):False:=by
 obtain ⟨o,run,ho,hicl,hd,hgt,hg,h⟩:=xP hdr
 obtain ⟨f,hf,rfl⟩:=List.mem_map.1 hi
 obtain ⟨o',t,ti,zv,p1,p2,p3,p4,_⟩:=hF.op f hf
 rw [ho] at p1;cases p1
 have hrun:run=true:=by unfold X3 at hg;rw [p4] at hg;exact hg
 subst hrun
 unfold yL at h
 rw [cond_true] at h
 obtain ⟨_,h⟩:=zb h
 rw [cond_true,p2] at h
 obtain ⟨h,_⟩:=zb h
 rw [p3] at h;cases h
theorem Rl.done {F:List Fl}{a:Act}{w:World}{So:St C}(hR:Rl P ops n w0 σ0 κ taken X F So S a w) (hF:F=[]) (hp:∀ t,¬ zj7 ops taken X t):At n w0 σ0 κ S a w:=by
 subst hF
 obtain ⟨st,σs,hh,L,b,σ,PV,hA,hinv,hfi⟩:=hR.at_
 have:At n w0 σ0 κ So a w:=⟨L,b,σ,PV,hA,by have:=hh.home hinv;simpa [frF] using this,hfi⟩
 exact this.eqx (hR.eqx.weaken fun t ht=>by
  rcases ht with z | ⟨f,hf,_⟩
  ·exact hp t z
  ·cases hf)
omit [Dfr] in
theorem znZ {k i:Nat}(h:k≠i):(!Nat.beq k i)=true:=by
 cases e:Nat.beq k i with
 |true=>exact absurd (Nat.eq_of_beq_eq_true e) h
 |false=>rfl
theorem zrx (hgl:C.gl w0.w σ0) (hΓ:∀ s∈Γ,s.OK P):∀ (fuel:Nat) (ord:List (Nat×Bool)) {cl taken:List Nat}{al:List (Nat×Nat)}{S:St C}{K:XE C→St C→Option ρ}{r:ρ},ZJ (xN qo Γ P n) (tch Γ P) P n ops ord cl taken al S K=some r→
    ∀ {X:Array Bool} {a:Act} {w:World} {So:St C} {F:List Fl},Cfg P ops n cl taken al S X (F.map Fl.i)→X.toList.count false≤fuel→Rl P ops n w0 σ0 κ taken X F So S a w→wpAny P .any ops (Zj n w0 σ0 κ K r) fuel X a w:=by
  intro fuel
  have noF:∀ {cl:List Nat} {F:List Fl} {taken al} {S:St C} {X:Array Bool} {a:Act},Cfg P ops n cl taken al S X (F.map Fl.i)→FOK C P ops n a F→(∀ i,i < ops.size→i∈cl)→F=[]:=by
    intro cl F taken al S X a hc hF hall
    cases F with
    |nil=>rfl
    |cons f F=>
      obtain ⟨o,_,_,_,p1,_⟩:=hF.op f (by simp)
      exact absurd (hall f.i (Array.getElem?_eq_some_iff.1 p1).1) (hc.fon f.i (by simp)).2
  induction fuel with
  |zero=>
    intro ord
    induction ord with
    |nil=>
      intro cl taken al S K r h X a w So F hc hn hR
      obtain ⟨hall,h⟩:=zb h
      have hcl:∀ i,i < ops.size→i∈cl:=fun i hi=>zN.1 (List.all_eq_true.1 hall i (List.mem_range.2 hi))
      have hon:∀ i,i < ops.size→onX X i=true:=fun i hi=>by
        cases e:onX X i with
        |true=>rfl
        |false=>have:=zje (by rw [hc.size];exact hi) e;omega
      refine ⟨?_,S,h,hR.done (noF hc hR.fok hcl) fun t ht=>zf9 (fun i hi=>hon i (hc.inc i (hc.tcl i hi))) t ht⟩
      refine List.eq_nil_iff_forall_not_mem.2 fun i hi=>?_
      obtain ⟨h1,o,h2,_⟩:=(xB hc.size).1 hi
      rw [hon i (Array.getElem?_eq_some_iff.1 h2).1] at h1;cases h1
    |cons io ord ih=>
      intro cl taken al S K r h X a w So F hc hn hR
      obtain ⟨i,early⟩:=io
      have zero:∀ {okB:Bool} {i:Nat} {early:Bool} {next},Xg (xN qo Γ P n) (tch Γ P) P n ops okB i early cl taken al S K next=some r→i∈F.map Fl.i:=by
        intro okB i early next h
        obtain ⟨o,run,ho,hi,hd,hgt,hg,h⟩:=xP h
        by_cases hm:i∈F.map Fl.i
        · exact hm
        exfalso
        have hoff:onX X i=false:=by
          cases e:onX X i with
          |false=>rfl
          |true=>exact ((hc.sub i e).elim hi hm).elim
        have:=zje (by rw [hc.size];exact (Array.getElem?_eq_some_iff.1 ho).1) hoff
        omega
      cases hb:Nat.blt i 4096 with
      |true=>
        cases hrd:wS ops cl i with
        |true=>
          rw [zcA hb hrd] at h
          cases early with
          |true=>exact (zdH h (zero h) hR.fok).elim
          |false=>
            obtain ⟨S',So',F',al',h',hc',hR'⟩:=absorb hgl h (zero h) hc hR
            exact ih h' hc' hn hR'
        |false=>rw [zbX hb hrd] at h;exact ih h hc hn hR
      |false=>
        rw [zcB hb] at h
        cases hrd:wS ops cl ((i - 4096) / 64) && wS ops cl ((i - 4096) % 64) with
        |true=>
          rw [hrd,cond_true] at h
          have h:=(zar (zb h).2).1
          obtain ⟨S',So',F',al',h',hc',hR'⟩:=absorb hgl h (zero h) hc hR
          exact ih h' hc' hn hR'
        |false=>rw [hrd,cond_false] at h;exact ih h hc hn hR
  |succ fuel ihf=>
    intro ord
    have setX:∀ {taken:List Nat} {X:Array Bool} {F:List Fl} {j:Nat} {t:Nat},j ∉ taken→flD ops taken X F t→flD ops taken (X.setIfInBounds j true) F t:=by
      intro taken X F j t hj ht
      rcases ht with ⟨r',q',h1,h2,h3,h4⟩ | z
      · refine .inl ⟨r',q',h1,?_,h3,h4⟩
        rw [WL (by intro e;subst e;exact hj h1)];exact h2
      · exact .inr z
    have quiet:∀ (ord:List (Nat×Bool)) {cl taken:List Nat} {al:List (Nat×Nat)} {S:St C} {K:XE C→St C→Option ρ} {r:ρ},ZJ (xN qo Γ P n) (tch Γ P) P n ops ord cl taken al S K=some r→
        ∀ {X:Array Bool} {a:Act} {w:World} {So:St C} {F:List Fl},Cfg P ops n cl taken al S X (F.map Fl.i)→X.toList.count false≤fuel+1→Rl P ops n w0 σ0 κ taken X F So S a w→∀ {j:Nat},j∈Region.ready .any ops X→j∈cl→
          wpOp P ops (Zj n w0 σ0 κ K r) j (wpAny P .any ops (Zj n w0 σ0 κ K r) fuel (X.setIfInBounds j true)) a w:=by
      intro ord cl taken al S K r h X a w So F hc hn hR j hj hjc
      obtain ⟨hoff,q,hq,hdeps⟩:=(xB hc.size).1 hj
      have hjt:=hc.tk j hjc hoff
      have hlt:j < X.size:=by rw [hc.size];exact (Array.getElem?_eq_some_iff.1 hq).1
      obtain ⟨st,σs,hh,hA⟩:=hR.at_
      have hjF:∀ f∈F,f.i≠j:=fun f hf e=>(hc.fon f.i (List.mem_map.2 ⟨f,hf,rfl⟩)).2 (e ▸ hjc)
      have base:=znX (w0:=st) (σ0:=σs) (Q:=Zj n w0 σ0 κ K r) (K:=fun a' w'=>∃ S1,At n st σs κ S1 a' w'∧EqX (fun t=>flD ops taken X F t∧q.dst≠some t) S1 S) hh.gl hΓ hq hA hR.eqx (hc.qv j q hjt hoff hq) (fun t ht hp=>?_) (fun d e=>(hc.ds j q d hjt hoff hq e).1) fun S1 a' w' hA' hX'=>⟨S1,hA',hX'⟩
      · refine wpOp_mono ?_ (zga base)
        rintro a' w' ⟨⟨S1,hA',hX'⟩,ht⟩
        refine ihf ord h (hc.hit hjc fun q' hq' k hk=>?_) (zfv hlt hoff hn) ⟨⟨st,σs,hh,hA'⟩,hX'.weaken fun t ht=>?_,hR.fok.next ht hjF⟩
        · rw [hq] at hq';cases hq';exact hdeps k hk
        · obtain ⟨ht,hne⟩:=ht
          rcases ht with ⟨r',q',h1,h2,h3,h4⟩ | z
          · refine .inl ⟨r',q',h1,?_,h3,h4⟩
            rw [WL]
            · exact h2
            · intro e;subst e
              rw [hq] at h3;cases h3
              exact hne h4
          · exact .inr z
      · rcases hp with ⟨r',q',h1,h2,h3,h4⟩ | ⟨f,hf,rfl⟩
        · obtain ⟨_,_,k3,k4⟩:=hc.ds r' q' t h1 h2 h3 h4
          by_cases e:j=r'
          · subst e
            rw [hq] at h3;cases h3
            exact k3 ht
          · have:=hdeps r' ((k4 j q hq e).1 hoff ht)
            rw [this] at h2;cases h2
        · obtain ⟨o,_,_,_,_,_,_,_,_,_,_,_,_,_,p⟩:=hR.fok.op f hf
          exact (hc.fon f.i (List.mem_map.2 ⟨f,hf,rfl⟩)).2 (WfL.deps hq ((p j q hq (hjF f hf).symm).1 ht) hc.wf hjc)
    have float:∀ (ord:List (Nat×Bool)) {cl taken:List Nat} {al:List (Nat×Nat)} {S:St C} {K:XE C→St C→Option ρ} {r:ρ},ZJ (xN qo Γ P n) (tch Γ P) P n ops ord cl taken al S K=some r→
        ∀ {X:Array Bool} {a:Act} {w:World} {So:St C} {F:List Fl},Cfg P ops n cl taken al S X (F.map Fl.i)→X.toList.count false≤fuel+1→Rl P ops n w0 σ0 κ taken X F So S a w→∀ {j:Nat},j∈Region.ready .any ops X→j ∉ cl→j∈vd C P ops n→
          wpOp P ops (Zj n w0 σ0 κ K r) j (wpAny P .any ops (Zj n w0 σ0 κ K r) fuel (X.setIfInBounds j true)) a w:=by
      intro ord cl taken al S K r h X a w So F hc hn hR j hj hjc hjf
      obtain ⟨hoff,q,hq,hdeps⟩:=(xB hc.size).1 hj
      have hlt:j < X.size:=by rw [hc.size];exact (Array.getElem?_eq_some_iff.1 hq).1
      obtain ⟨d,zs,hfo⟩:=zr1 hjf
      obtain ⟨o,t,ti,zv,p1,p2,p3,p4,p5,p6,p7,p8,p9,p10,p11⟩:=id hfo
      rw [hq] at p1;cases p1
      have hjF:∀ f∈F,f.i≠j:=fun f hf e=>by
        have:=(hc.fon f.i (List.mem_map.2 ⟨f,hf,rfl⟩)).1
        rw [e,hoff] at this;cases this
      have hjt:j ∉ taken:=fun hm=>hjc (hc.tcl j hm)
      obtain ⟨st,σs,hh,L,b,σ,PV,⟨ν,vs,ids,hA⟩,hinv,hfi⟩:=hR.at_
      have base:wpOp P ops (Zj n w0 σ0 κ K r) j (fun a' w'=>∃ c:Addr,Inv st σs σ (.cell c zs::PV) w'∧Fits n ((d,.pointer (some (c.add 0)))::L) b a') a w:=by
        unfold wpOp
        rw [hq]
        have hw:Region.wanted q (yielded ops a.tmps)=true:=by unfold Region.wanted;rw [p4]
        simp only [hw,if_true]
        left
        obtain ⟨dst,op,ty,ps,af,g⟩:=q
        simp only at p2 p3 p4
        subst p2 p3 p4
        refine zho (w0:=st) (σ0:=σs) (σ:=σ) (PV:=PV) (L:=L) (b:=b) (p:=some ()) (H:=fun _ L' σ' PV'=>∃ c:Addr,L'=(d,.pointer (some (c.add 0)))::L∧σ'=σ∧PV' = .cell c zs::PV) p9 p5 p6 p7 (fun c=>⟨c,rfl,rfl,rfl⟩) () rfl a w hinv hfi _ _ ?_
        rintro p' L' σ' PV' a' w' _ hi' hf' ⟨c,rfl,rfl,rfl⟩
        exact ⟨c,hi',hf'⟩
      refine wpOp_mono ?_ (zga base)
      rintro a' w' ⟨⟨c,hi',hf'⟩,ht⟩
      have hi2:Inv w0 σ0 σ (PV++frF (⟨j,d,c,zs⟩::F)) w':=(hh.home hi').sub_own fun g k=>Sep.perm (by
        show (Priv.cell c zs::(PV++frF F)).Perm (PV++(Priv.cell c zs::frF F))
        exact List.perm_middle.symm) k
      obtain ⟨st',hh',hinv'⟩:=Home.make hgl hi2
      refine ihf ord h (F:=⟨j,d,c,zs⟩::F) (So:=So.put d .und) (hc.flt hq hjc hdeps) (zfv hlt hoff hn) ⟨⟨st',σ,hh',_,b,σ,PV,⟨ν,vs,ids,hA.put (v :=.pointer (some (c.add 0))) trivial trivial⟩,hinv',hf'⟩,⟨hR.eqx.heap,fun t' ht'=>?_⟩,?_⟩
      · show upd So.env d _ t'=S.env t'
        by_cases e:t'=d
        · exact absurd (.inr ⟨_,List.mem_cons_self ..,e.symm⟩) ht'
        · rw [zr e]
          refine hR.eqx.env t' fun hD=>ht' ?_
          rcases setX hjt hD with z | ⟨f,hf,hz⟩
          · exact .inl z
          · exact .inr ⟨f,List.mem_cons_of_mem _ hf,hz⟩
      · have hn:=hR.fok.next ht hjF
        refine ⟨fun f hf=>?_,fun f hf=>?_,fun f hf=>?_,?_⟩
        · rcases List.mem_cons.1 hf with z | z
          · subst z;exact hfo
          · exact hn.op f z
        · rcases List.mem_cons.1 hf with z | z
          · subst z;exact hjf
          · exact hn.fl f z
        · rcases List.mem_cons.1 hf with z | z
          · subst z
            show a'.tmps.getD d undef=_
            rw [hf'.get]
            show (bif Nat.beq d d then _ else _)=_
            simp [Addr.add]
          · exact hn.val f z
        · rw [List.map_cons]
          exact List.nodup_cons.2 ⟨fun hm=>by obtain ⟨f,hf,e⟩:=List.mem_map.1 hm;exact hjF f hf e,hn.nd⟩
    have real:∀ {cl taken:List Nat} {al:List (Nat×Nat)} {S:St C} {K:XE C→St C→Option ρ} {r:ρ} {okB:Bool} {j:Nat} {o:Oper} {run:Bool} {next:St C→List Nat→Option ρ},ops[j]?=some o→j ∉ cl→(∀ k∈zB o,k∈cl)→X3 ops S o run→yL (xN qo Γ P n) (tch Γ P) P n ops okB cl taken (Yv al (zB o)) K j false o run S next=some r→
        ∀ {X:Array Bool} {a:Act} {w:World} {So:St C} {F:List Fl},Cfg P ops n cl taken al S X (F.map Fl.i)→X.toList.count false≤fuel+1→Rl P ops n w0 σ0 κ taken X F So S a w→onX X j=false→(∀ k∈zB o,onX X k=true)→
        (∀ S',next S' taken=some r→∀ {X':Array Bool} {a':Act} {w':World} {So':St C} {F':List Fl},Cfg P ops n (j::cl) taken ((j,Yv al (zB o))::al) S' X' (F'.map Fl.i)→X'.toList.count false≤fuel→Rl P ops n w0 σ0 κ taken X' F' So' S' a' w'→wpAny P .any ops (Zj n w0 σ0 κ K r) fuel X' a' w')→
          wpOp P ops (Zj n w0 σ0 κ K r) j (wpAny P .any ops (Zj n w0 σ0 κ K r) fuel (X.setIfInBounds j true)) a w:=by
      intro cl taken al S K r okB j o run next ho hjc hd hg h X a w So F hc hn hR hoff hdeps hnext
      have hlt:j < X.size:=by rw [hc.size];exact (Array.getElem?_eq_some_iff.1 ho).1
      have hjFm:j ∉ F.map Fl.i:=fun hm=>by have:=(hc.fon j hm).1;rw [hoff] at this;cases this
      have hjF:∀ f∈F,f.i≠j:=fun f hf e=>hjFm (List.mem_map.2 ⟨f,hf,e⟩)
      have hjt:j ∉ taken:=fun hm=>hjc (hc.tcl j hm)
      obtain ⟨st,σs,hh,hA⟩:=hR.at_
      have hX:=hR.eqx
      unfold yL at h
      rw [cond_false] at h
      obtain ⟨_,h⟩:=zb h
      have hanc:∀ r',onX X r'=false→Nat.testBit (Yv al (zB o)) r'=false:=fun r' hr'=>by
        cases e:Nat.testBit (Yv al (zB o)) r' with
        |false=>rfl
        |true=>
          have:=zcW hc.anc (fun k=>onX X k=true) (fun k q hk hon=>hc.closed k q hk hon) (fun k hk=>by rw [← hc.size];exact znf hk) hdeps r' e
          have this:onX X r'=true:=this
          rw [this] at hr';cases hr'
      have hfree:∀ t∈looks ops o,¬ flD ops taken X F t:=fun t ht hD=>by
        rcases hD with ⟨r',q',h1,h2,h3,h4⟩ | ⟨f,hf,rfl⟩
        · obtain ⟨_,_,k3,k4⟩:=hc.ds r' q' t h1 h2 h3 h4
          have hne:j≠r':=fun e=>hjc (e ▸ hc.tcl r' h1)
          have:=hdeps r' ((k4 j o ho hne).1 hoff ht)
          rw [this] at h2;cases h2
        · obtain ⟨_,_,_,_,_,_,_,_,_,_,_,_,_,_,p⟩:=hR.fok.op f hf
          exact (hc.fon f.i (List.mem_map.2 ⟨f,hf,rfl⟩)).2 (hd _ ((p j o ho (hjF f hf).symm).1 ht))
      have hvB:∀ t,flD ops taken X F t→t < vB:=fun t hD=>by
        rcases hD with ⟨r',q',h1,h2,h3,h4⟩ | ⟨f,hf,rfl⟩
        · exact (hc.ds r' q' t h1 h2 h3 h4).2.1
        · obtain ⟨_,_,_,_,_,_,_,_,_,_,_,_,_,p,_⟩:=hR.fok.op f hf
          exact p
      have hgo:X3 ops So o run:=hg.congr fun t ht=>hX.env t (hfree t (vp ht))
      have keep:∀ {l p S'},Keeps S S' o.dst l p→(taken.all fun r=>Nat.testBit (Yv al (zB o)) r || zeG ops S l p o.dst r)=true→∀ r' q',r'∈taken→onX X r'=false→ops[r']?=some q'→QV P ops S' q':=fun hk hall r' q' h1 h2 h3=>by
        have:=List.all_eq_true.1 hall r' h1
        rw [hanc r' h2,Bool.false_or] at this
        exact (hc.qv r' q' h1 h2 h3).keep hk h3 this
      have fin:∀ {S' S1 a' w'},next S' taken=some r→(∀ r' q',r'∈taken→onX X r'=false→ops[r']?=some q'→QV P ops S' q')→At n st σs κ S1 a' w'→EqX (flD ops taken X F) S1 S'→zcX ops j a a'→wpAny P .any ops (Zj n w0 σ0 κ K r) fuel (X.setIfInBounds j true) a' w':=fun h' hq' hA' hX' ht=>
        hnext _ h' (hc.sync ho hjc hjFm hd hdeps hq') (zfv hlt hoff hn) ⟨⟨st,σs,hh,hA'⟩,hX'.weaken fun t ht=>setX hjt ht,hR.fok.next ht hjF⟩
      have tk0:∀ {v:Value},zcX ops j a (a.put o.dst v):=fun {v} t ht=>Vy (ht o ho)
      unfold wpOp
      rw [ho]
      simp only [hgo.wanted hA]
      cases run with
      |false=>
        simp only [Bool.false_eq_true,if_false]
        rw [cond_false] at h
        obtain ⟨hall,h⟩:=zb h
        split at h
        · rename_i d hdst
          obtain ⟨hdn,h⟩:=zb h
          have tk1:zcX ops j a (a.put (some d) undef):=by rw [← hdst];exact tk0
          rw [hdst]
          refine fin h (keep (l:=[]) (p:=fun _=>false) ?_ hall) (hA.skip hdn) ⟨hX.heap,fun t ht=>?_⟩ tk1
          · rw [hdst];exact .put
          · show upd So.env d _ t=upd S.env d _ t
            by_cases e:t=d
            · subst e;rw [zp,zp]
            · rw [zr e,zr e];exact hX.env t ht
        · rename_i hdst
          rw [hdst]
          exact fin h (keep (l:=[]) (p:=fun _=>false) (.refl S) hall) hA hX fun _ _=>rfl
      |true=>
        simp only [if_true]
        left
        rw [cond_true] at h
        split at h
        · cases h
        · rename_i l p htc
          obtain ⟨hall,h⟩:=zb h
          rw [Vh] at h
          obtain ⟨out,hs,h⟩:=Option.bind_eq_some_iff.1 h
          have hsx:=ztD (q:=qo) (Γ:=Γ) (P:=P) (n:=n) (o:=o) hX hvB (fun t ht=>hfree t (List.mem_append_left _ (zbq ht)))
          rw [hs] at hsx
          obtain ⟨out',hs',hrel⟩:=hsx.inv
          obtain ⟨L,b,σ,PV,hAb,hinv,hf⟩:=hA
          have base:o.wp P a w (fun a' w'=>∃ S' S1,out = .go S'∧EqX (flD ops taken X F) S1 S'∧At n st σs κ S1 a' w') (Zj n w0 σ0 κ K r):=by
            refine zhN hΓ n κ st σs hh.gl o So L b σ PV hAb _ hs' a w hinv hf _ _ ?_ ?_
            · intro S1 e L' σ' PV' a' w' hi' hf' hA'
              subst e
              cases out with
              |pan v T=>exact hrel.elim
              |go S'=>exact ⟨S',S1,rfl,hrel,L',b,σ',PV',hA',hi',hf'⟩
            · intro v S1 e u σ' PV' w' hi' hA' hp
              subst e
              cases out with
              |go S'=>exact hrel.elim
              |pan v' S'=>
                obtain ⟨rfl,hrel⟩:=hrel
                obtain ⟨ν,vs,ids,hA'⟩:=hA'
                have hi3:Inv w0 σ0 σ' PV' w':=(hh.home hi').sub_own fun g k=>by
                  obtain ⟨f1,f2,s1,s2,l1,l2,dd⟩:=k.split
                  exact s1.mono (.refl _) l1
                refine ⟨v,_,h,u,L,b,σ',PV',rfl,hp,⟨ν,vs,ids,hA'.mask (hrel.weaken fun t hD=>?_)⟩,hi3,hf⟩
                rcases hD with ⟨r',q',h1,h2,h3,h4⟩ | ⟨f,hf,rfl⟩
                · exact List.mem_filterMap.2 ⟨q',List.mem_of_getElem? (by rw [Array.getElem?_toList];exact h3),h4⟩
                · obtain ⟨q',_,_,_,p1,p2,_⟩:=hR.fok.op f hf
                  exact List.mem_filterMap.2 ⟨q',List.mem_of_getElem? (by rw [Array.getElem?_toList];exact p1),p2⟩
          refine Oper.wp_mono ?_ (zjg base)
          rintro a' w' ⟨⟨S',S1,rfl,hrel',hA'⟩,ht⟩
          exact fin h (keep (znd hs htc) hall) hA' hrel' fun t ht'=>ht t (ht' o ho)
    induction ord with
    |nil=>
      intro cl taken al S K r h X a w So F hc hn hR
      have h0:=h
      obtain ⟨hall,h⟩:=zb h
      have hcl:∀ i,i < ops.size→i∈cl:=fun i hi=>zN.1 (List.all_eq_true.1 hall i (List.mem_range.2 hi))
      refine ⟨fun hr=>?_,fun j hj=>quiet [] h0 hc hn hR hj (hcl j ?_)⟩
      · have hon:∀ i∈taken,onX X i=true:=fun i hi=>by
          cases e:onX X i with
          |true=>rfl
          |false=>
            obtain ⟨k,q,k1,k2,k3,k4⟩:=znY hc.wf hc.inc ⟨i,hc.tcl i hi,e⟩
            have:k∈Region.ready .any ops X:=(xB hc.size).2 ⟨k2,q,k3,k4⟩
            rw [hr] at this;cases this
        exact ⟨S,h,hR.done (noF hc hR.fok hcl) fun t ht=>zf9 hon t ht⟩
      · obtain ⟨_,q,hq,_⟩:=(xB hc.size).1 hj
        exact (Array.getElem?_eq_some_iff.1 hq).1
    |cons io ord ih=>
      intro cl taken al S K r h X a w So F hc hn hR
      obtain ⟨i,early⟩:=io
      have h0:=h
      have some_ready:∀ {i:Nat} {o:Oper},ops[i]?=some o→i ∉ cl→i ∉ F.map Fl.i→(∀ k∈zB o,k∈cl)→Region.ready .any ops X=[]→False:=by
        intro i o ho hi hiF hd hr
        have hoff:onX X i=false:=by
          cases e:onX X i with
          |false=>rfl
          |true=>exact ((hc.sub i e).elim hi hiF).elim
        by_cases hx:∃ k∈cl,onX X k=false
        · obtain ⟨k,q,k1,k2,k3,k4⟩:=znY hc.wf hc.inc hx
          have:k∈Region.ready .any ops X:=(xB hc.size).2 ⟨k2,q,k3,k4⟩
          rw [hr] at this;cases this
        · have:i∈Region.ready .any ops X:=(xB hc.size).2 ⟨hoff,o,ho,fun k hk=>by
            cases e:onX X k with
            |true=>rfl
            |false=>exact absurd ⟨k,hd k hk,e⟩ hx⟩
          rw [hr] at this;cases this
      have dn:∀ {i k:Nat},i ∉ F.map Fl.i→onX X k=true→k∈cl∨(k∈vd C P ops n∧k≠i):=fun {i k} hiF hk=>by
        rcases hc.sub k hk with z | z
        · exact .inl z
        · obtain ⟨f,hf,e⟩:=List.mem_map.1 z
          exact .inr ⟨e ▸ hR.fok.fl f hf,fun e'=>hiF (e' ▸ z)⟩
      cases hb:Nat.blt i 4096 with
      |false=>
        rw [zcB hb] at h
        cases hrd:wS ops cl ((i - 4096) / 64) && wS ops cl ((i - 4096) % 64) with
        |false=>rw [hrd,cond_false] at h;exact ih h hc hn hR
        |true=>
        rw [hrd,cond_true] at h
        obtain ⟨hchk,h⟩:=zb h
        generalize (i - 4096) / 64=i1 at h hchk
        generalize (i - 4096) % 64=i2 at h hchk
        obtain ⟨g1,g2⟩:=zar h
        by_cases hF1:i1∈F.map Fl.i
        · obtain ⟨S',So',F',al',h',hc',hR'⟩:=absorb hgl g1 hF1 hc hR
          exact ih h' hc' hn hR'
        by_cases hF2:i2∈F.map Fl.i
        · obtain ⟨S',So',F',al',h',hc',hR'⟩:=absorb hgl g2 hF2 hc hR
          exact ih h' hc' hn hR'
        obtain ⟨o1,run1,ho1,hi1,hd1,_,hg1,s1⟩:=xP g1
        obtain ⟨o2,run2,ho2,hi2,hd2,_,hg2,s2⟩:=xP g2
        refine ⟨fun hr=>(some_ready ho1 hi1 hF1 hd1 hr).elim,fun j hj=>?_⟩
        by_cases hjc:j∈cl
        · exact quiet ((i,early)::ord) h0 hc hn hR hj hjc
        · obtain ⟨hjoff,q,hq,hdeps⟩:=(xB hc.size).1 hj
          have hji:(j=i1∨j=i2)∨j∈vd C P ops n:=by
            have:=List.all_eq_true.1 hchk j (List.mem_range.2 (Array.getElem?_eq_some_iff.1 hq).1)
            rw [hq] at this
            simp only [Bool.or_eq_true,Bool.not_eq_true'] at this
            rcases this with (z | z) | z | z | z
            · exact .inl (.inl (Nat.eq_of_beq_eq_true z))
            · exact .inl (.inr (Nat.eq_of_beq_eq_true z))
            · exact .inr (zN.1 z)
            · exact absurd (zN.1 z) hjc
            · exfalso
              have:zbr (zB q) (rmL i1 (rmL i2 (vd C P ops n))++cl)=true:=List.all_eq_true.2 fun k hk=>zN.2 (by
                rcases dn hF1 (hdeps k hk) with z | ⟨z1,z2⟩
                · exact List.mem_append_right _ z
                · rcases dn hF2 (hdeps k hk) with z | ⟨z3,z4⟩
                  · exact List.mem_append_right _ z
                  · exact List.mem_append_left _ (List.mem_filter.2 ⟨List.mem_filter.2 ⟨z1,znZ z4⟩,znZ z2⟩))
              rw [this] at z;cases z
          rcases hji with (e | e) | e
          · subst e
            rw [ho1] at hq;cases hq
            exact real ho1 hjc hd1 hg1 s1 hc hn hR hjoff hdeps fun S' h'=>ihf ord h'
          · subst e
            rw [ho2] at hq;cases hq
            exact real ho2 hjc hd2 hg2 s2 hc hn hR hjoff hdeps fun S' h'=>ihf ord h'
          · exact float ((i,early)::ord) h0 hc hn hR hj hjc e
      |true=>
      cases hrd:wS ops cl i with
      |false=>rw [zbX hb hrd] at h;exact ih h hc hn hR
      |true=>
      rw [zcA hb hrd] at h
      cases early with
      |true=>
        have hiF:i ∉ F.map Fl.i:=fun hm=>zdH h hm hR.fok
        obtain ⟨o,run,ho,hi,hd,hgt,hg,h⟩:=xP h
        have hoff:onX X i=false:=by
          cases e:onX X i with
          |false=>rfl
          |true=>exact ((hc.sub i e).elim hi hiF).elim
        have hearly:vc ops n cl taken i o=true:=by
          unfold yL at h
          rw [cond_true] at h
          exact (zb h).1
        have hgl:∀ t∈wZ ops o,o.dst≠some t:=fun t ht e=>by
          unfold vc at hearly
          rw [e] at hearly
          simp only [Bool.and_eq_true,Bool.not_eq_true'] at hearly
          rw [zN.2 (vp ht)] at hearly;cases hearly.2.2.1
        obtain ⟨he,S',h,hv,hS,hh⟩:=zj8 hg hgl h
        refine ih h (hc.early ho hi hiF hd he hv hS hh) hn ⟨hR.at_,⟨hR.eqx.heap.trans hh.symm,fun t ht=>?_⟩,hR.fok⟩
        have hne:o.dst≠some t:=fun e=>ht (.inl ⟨i,o,by simp,hoff,ho,e⟩)
        rw [hS t hne]
        refine hR.eqx.env t fun hD=>ht ?_
        rcases hD with ⟨r',q',h1,h2⟩ | z
        · exact .inl ⟨r',q',List.mem_cons_of_mem _ h1,h2⟩
        · exact .inr z
      |false=>
        by_cases hiF:i∈F.map Fl.i
        · obtain ⟨S',So',F',al',h',hc',hR'⟩:=absorb hgl h hiF hc hR
          exact ih h' hc' hn hR'
        obtain ⟨o,run,ho,hi,hd,hgt,hg,h⟩:=xP h
        have honly:zj6 ops (vd C P ops n) cl i=true:=by
          unfold yL at h
          rw [cond_false] at h
          exact (zb h).1
        refine ⟨fun hr=>(some_ready ho hi hiF hd hr).elim,fun j hj=>?_⟩
        by_cases hjc:j∈cl
        · exact quiet ((i,false)::ord) h0 hc hn hR hj hjc
        · obtain ⟨hjoff,q,hq,hdeps⟩:=(xB hc.size).1 hj
          have hji:j=i∨j∈vd C P ops n:=by
            have:=List.all_eq_true.1 honly j (List.mem_range.2 (Array.getElem?_eq_some_iff.1 hq).1)
            rw [hq] at this
            simp only [Bool.or_eq_true,Bool.not_eq_true'] at this
            rcases this with z | z | z | z
            · exact .inl (Nat.eq_of_beq_eq_true z)
            · exact .inr (zN.1 z)
            · exact absurd (zN.1 z) hjc
            · exfalso
              have:zbr (zB q) (rmL i (vd C P ops n)++cl)=true:=List.all_eq_true.2 fun k hk=>zN.2 (by
                rcases dn hiF (hdeps k hk) with z | ⟨z1,z2⟩
                · exact List.mem_append_right _ z
                · exact List.mem_append_left _ (List.mem_filter.2 ⟨z1,znZ z2⟩))
              rw [this] at z;cases z
          rcases hji with e | e
          · subst e
            rw [ho] at hq;cases hq
            exact real ho hjc hd hg h hc hn hR hjoff hdeps fun S' h'=>ihf ord h'
          · exact float ((i,false)::ord) h0 hc hn hR hj hjc e
theorem ziN (hgl:C.gl w0.w σ0) (hΓ:∀ s∈Γ,s.OK P) {ord:List (Nat×Bool)}{K:XE C→St C→Option ρ}{r:ρ}(h:ZJ (xN qo Γ P n) (tch Γ P) P n ops ord [] [] [] S K=some r) (hm:P.follows .mixedOrders=true) {id:Nat}{a:Act}{w:World}(hA:At n w0 σ0 κ S a w):(Code.region id ops true).wp P (Zj n w0 σ0 κ K r) a w:=by
 refine wp_region_any hm ?_
 obtain ⟨L,b,σ,PV,hAb,hi,hf⟩:=hA
 have h0:∀ i,onX (Array.replicate ops.size false) i=false:=fun i=>by
  unfold onX;rw [Array.getD_eq_getD_getElem?]
  cases e:(Array.replicate ops.size false)[i]? with
  |none=>rfl
  |some v=>have:=Array.getElem?_eq_some_iff.1 e;obtain ⟨h1,h2⟩:=this;simp at h2;simp [← h2]
 refine zrx hgl hΓ _ _ h (X:=Array.replicate ops.size false) (F:=[]) ⟨by simp,fun i hi=>(by rw [h0] at hi;cases hi),fun i hi=>(by cases hi),trivial,fun i hi=>(by cases hi),fun i hi=>(by cases hi),fun i hi=>(by cases hi),fun k q _ hk=>(by rw [h0] at hk;cases hk),fun r q hr=>(by cases hr),fun r q d hr=>(by cases hr),fun i m hm=>(by cases hm)⟩ ?_ ⟨⟨w0,σ0,⟨fun k=>by simpa [frF] using k,hgl⟩,L,b,σ,PV,hAb,hi.drew,hf⟩,⟨rfl,fun _ _=>rfl⟩,⟨fun f hf=>(by cases hf),fun f hf=>(by cases hf),fun f hf=>(by cases hf),List.nodup_nil⟩⟩
 have:=List.count_le_length (a:=false) (l:=(Array.replicate ops.size false).toList)
 simp
end
end Go.Px
