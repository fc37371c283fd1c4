/- Part A5: PxM21 PxMK2 PxMQ PxM22 PxMO5 PxM23 PxM24 PxM2 -/
import Derived.Test.YtdgfgjdoahoadaaA4
import Derived.Test.YtdgfgjdoahoadaaA3
import Derived.Test.YtdgfgjdoahoadaaB3
namespace Go.Px
set_option linter.unusedSectionVars false
variable [Dfr]
set_option linter.unusedVariables false
section
variable {κ:Kp}{C:Cod}{S:St C}{ν:Val}{vs:Nat→List Value}{ids:List Nat}{L:List (Nat×Value)}{b:Nat→Value}{σ:FS}{PV:List Priv}{P:Program}
variable {n:Nat}{w0:Start}{σ0:FS}
def lent:Op→Option (Operand×List Operand)
 | .call ⟨.value c,args,_⟩=>some (c,args.toList)
 |_=>none
def YC (S:St C) (x:Operand):Option (Out C):=match S.op x with
 | .ifc t A=>chk (A.base || A.flat) (some (.pan (.ifc t A) S))
 |_=>none
structure Opts where
 fs:Bool
def yN (q:Opts) (P:Program) (S:St C) (d:Nat) (ty t:TypeId) (x:Operand) (lo hi mx:Option Operand):Option (Out C):=match lo,mx with
 |none,none=>bif q.fs then ZM P S d ty t x none hi else yg P S d t x hi none
 |none,mx=>yg P S d t x hi mx
 |some lo,none=>ZM P S d ty t x (some lo) hi
 |_,_=>none
def YD {D:Nat→Type}(args:List (AV D)):List (AV D)→List (AV D)
 |[.tup ws]=>ws++args
 |caps=>args++caps
def xD (args:List Value):List Value→List Value
 |[.tuple a]=>a.toList++args
 |vs=>args++vs
omit [Dfr] in
theorem zgz {σ:FS}{ν:Val}{p:Nat→Prop}{f:Nat}(hone:∀ i,(ν.hdr i).oneCell'=true) {args vals:List Value}{As caps:List (AV C.D)}(hc:vP caps=true) (ha:VRs C σ ν args As) (hr:VRs C σ ν vals caps) (hoa:AV.oks p As) (hoc:AV.oks p caps) :
    VRs C σ ν (xD args vals) (YD As caps)∧AV.oks p (YD As caps)∧∃ fi ca:Array Value,Wa f vals = .func (.func f) fi ca∧(fi++args.toArray)++ca=(xD args vals).toArray:=by
  have plain:(∀ v∈vals,v.oneCell'=true)∨vals.length≠1→YD As caps=As++caps→VRs C σ ν (xD args vals) (YD As caps)∧AV.oks p (YD As caps)∧∃ fi ca:Array Value,Wa f vals = .func (.func f) fi ca∧(fi++args.toArray)++ca=(xD args vals).toArray:=by
    intro h1 h2
    have e1:xD args vals=args++vals:=by
      unfold xD
      split
      · rename_i a
        rcases h1 with h1 | h1
        · have:=h1 (.tuple a) (by simp);cases this
        · exact absurd rfl h1
      · rfl
    have e2:Wa f vals = .func (.func f) #[] vals.toArray:=by
      unfold Wa
      split
      · rename_i a
        rcases h1 with h1 | h1
        · have:=h1 (.tuple a) (by simp);cases this
        · exact absurd rfl h1
      · rfl
    rw [e1,h2]
    exact ⟨ha.append hr,AV.oks_append hoa hoc, #[],vals.toArray,e2,by simp⟩
  match vals,caps,hr with
  |[],[],hr=>exact plain (.inl fun v hv=>by cases hv) rfl
  |[v],[A],hr=>
    by_cases ht:∃ ws,A = .tup ws
    · obtain ⟨ws,rfl⟩:=ht
      obtain ⟨us,e,h2⟩:=hr.1
      subst e
      exact ⟨h2.append ha,AV.oks_append hoc.1 hoa,us.toArray, #[],rfl,by simp [xD]⟩
    · have hl:A.leaf=true:=by
        unfold vP at hc
        split at hc
        · rename_i e;cases e;exact absurd ⟨_,rfl⟩ ht
        · rename_i e;cases e;exact hc
        · rename_i h1;exact absurd rfl (h1 A)
      refine plain (.inl fun u hu=>by rw [List.mem_singleton.1 hu];exact hr.1.one hl hone) ?_
      unfold YD
      split
      · rename_i e;cases e;exact absurd ⟨_,rfl⟩ ht
      · rfl
  |u::v::l,A::B::cs,hr=>exact plain (.inr (by simp)) (by cases A <;> rfl)
  |[v],A::B::cs,hr=>exact hr.2.elim
  |u::v::l,[A],hr=>exact hr.2.elim
def yO (q:Opts) (Γ:List (Spec C)) (P:Program) (d:Nat) (ty:TypeId) (S:St C):Op→Option (Out C)
 | .alloc t=>YA P S d t
 | .box t x=>chk (Yb (S.op x)) (WO S d (zo (S.op x)))
 | .makeSlice t x y=>xH P S d t x y
 | .buildSlice t m parts=>yM P S d t m parts.toList
 | .slice t x lo hi mx=>match ZK P S ty (.slice t x lo hi mx) with
  |some A=>some (.go (S.put d A))
  |none=>yN q P S d ty t x lo hi mx
 | .convert t t' x=>match ZK P S ty (.convert t t' x) with
  |some A=>some (.go (S.put d A))
  |none=>match ZL P S d t t' x with
   |some o=>some o
   |none=>xj P S d t t' x
 | .call ⟨.value c,args,_⟩=>match S.op c with
  | .clo f caps=>chk (vP caps) (wl Γ S d f (YD (args.toList.map S.op) caps))
  |_=>none
 | .call ⟨.builtin .append,args,ts⟩=>match args.toList,ts.toList with
  |[x,y],[t,t']=>chk (Nat.beq t t') (Z2 P S d t x y)
  |_,_=>none
 | .panic x=>YC S x
 |op=>(ZK P S ty op).map fun A =>.go (S.put d A)
def wm (q:Opts) (Γ:List (Spec C)) (P:Program) (n:Nat) (o:Oper) (S:St C):Option (Out C):=match o.dst with
 |some d=>chk (Nat.blt d n) (yO q Γ P d o.type S o.op)
 |none=>match o.op with
  | .store t x y=>ZF P S t x y
  | .panic x=>YC S x
  |_=>none
theorem zef (h:AbsL κ S ν vs ids L b σ PV) {x:Operand}{dst:Option Nat}{ty:TypeId}{ps:String}{af:Array Edge}{g:Option (Nat×Bool)} :
    OpA κ P n w0 σ0 ⟨dst,.panic x,ty,ps,af,g⟩ (YC S x) L b σ PV:=by
  intro out hX a w hi hf K Q hK hP
  have hx:=h.op x
  unfold YC at hX
  split at hX
  · rename_i t A e
    obtain ⟨hb,hX⟩:=za hX
    cases hX
    rw [e] at hx
    have hk:∀ p:Nat→Prop,(AV.ifc t A).ok p:=fun p=>by
      rcases (Bool.or_eq_true _ _).mp hb with hb | hb
      · exact X4 (A :=.ifc t A) hb
      · exact X5 (A :=.ifc t A) hb
    obtain ⟨u,e2,e3⟩:=hx
    have hrun:(execOp a.eval ⟨dst,.panic x,ty,ps,af,g⟩).run P w = .halt (.panic (.iface t u)) w:=by
      rw [hf.eval]
      show (execOp (opv L b) ⟨dst,.panic x,ty,ps,af,g⟩).run P w=_
      simp only [execOp,e2]
      rfl
    unfold Oper.wp
    rw [hrun]
    refine hP _ _ rfl (.iface t u) σ PV w hi ⟨ν,vs,ids,h⟩ ⟨hk _,fun ν' _=>VR.congr (ν:=ν) (p:=fun _=>False) (fun _ h=>h.elim) (hk _) ⟨u,rfl,e3⟩⟩
  · cases hX
theorem zlj (hgl:C.gl w0.w σ0) {Γ:List (Spec C)}(hΓ:∀ s∈Γ,s.OK P) (h:AbsL κ S ν vs ids L b σ PV) {c:Operand}{args:Array Operand}{ts:Array TypeId}{d:Nat}(hn:Nat.blt d n=true) {ty:TypeId}{ps:String}{af:Array Edge}{g:Option (Nat×Bool)}{f:FuncId}{caps:List (AV C.D)}(hc:S.op c = .clo f caps) :
    OpA κ P n w0 σ0 ⟨some d,.call ⟨.value c,args,ts⟩,ty,ps,af,g⟩ (chk (vP caps) (wl Γ S d f (YD (args.toList.map S.op) caps))) L b σ PV:=by
  intro out hX a w hi hf K Q hK hP
  obtain ⟨hcaps,hX⟩:=za hX
  have hcv:=h.op c
  have hco:=h.oks_op c
  rw [hc] at hcv hco
  obtain ⟨cvs,e1,e2⟩:=hcv
  have hla:AV.oks (fun id=>(S.heap id).isSome=true) (args.toList.map S.op):=AV.oks_iff.2 fun A hA=>by
    obtain ⟨x,_,rfl⟩:=List.mem_map.1 hA
    exact h.oks_op x
  obtain ⟨hr,hl,fi,ca,e3,e4⟩:=zgz (f:=f) h.one hcaps (VH h.toAbs args.toList) e2 hla hco
  obtain ⟨fn,hfn,hnm,hb,hcalls⟩:=zhZ hgl h hr hl hi hΓ hX
  have hrun:(execOp a.eval ⟨some d,.call ⟨.value c,args,ts⟩,ty,ps,af,g⟩).run P w = .ok (.enter f (xD (args.toList.map (opv L b)) cvs).toArray) w:=by
    have ha':args.map (opv L b)=(args.toList.map (opv L b)).toArray:=by apply Array.toList_inj.1;simp
    rw [hf.eval,← e4]
    simp only [execOp,resolve,e1,e3,ha',Deferred.ofValue,Sem.run_bind,Sem.run_pure,Result.andThen_ok,invoke]
    unfold callFunc
    simp only [Sem.run_bind,run_program,Result.andThen_ok,hfn,hnm,hb,Bool.false_eq_true,if_false,Sem.run_pure,Array.empty_append]
  unfold Oper.wp
  rw [hrun,Oper.upon_enter]
  refine Calls.mono hcalls ?_
  intro e w' hq
  cases e with
  |returned v=>
    obtain ⟨S',σ',PV',rfl,hi',hA⟩:=hq
    exact hK _ rfl _ σ' PV' _ w' hi' (hf.put (by simpa [Nat.blt_eq] using hn) v) hA
  |panicked chain=>
    obtain ⟨A,S',u,σ',PV',rfl,rfl,hi',hp,hA⟩:=hq
    exact hP _ _ rfl _ σ' PV' w' hi' hA hp
  |outgrown=>exact hq.elim
theorem zfG (h:AbsL κ S ν vs ids L b σ PV) {op:Op}{d:Nat}(hn:Nat.blt d n=true) {ty:TypeId}{ps:String}{af:Array Edge}{g:Option (Nat×Bool)} :
    OpA κ P n w0 σ0 ⟨some d,op,ty,ps,af,g⟩ ((ZK P S ty op).map fun A =>.go (S.put d A)) L b σ PV:=by
  intro out hX
  obtain ⟨A,he,rfl⟩:=Option.map_eq_some_iff.1 hX
  exact wG h hn he (wH h he) _ rfl
theorem zlk {q:Opts}{Γ:List (Spec C)}(hΓ:∀ s∈Γ,s.OK P) (n:Nat) (κ:Kp):zea P n κ (wm q Γ P n):=by
 intro w0 σ0 hgl o S L b σ PV hA out hX
 obtain ⟨ν,vs,ids,h⟩:=hA
 obtain ⟨dst,op,ty,ps,af,g⟩:=o
 cases dst with
 |none=>
  unfold wm at hX
  simp only at hX
  split at hX
  ·exact zgs h _ hX
  ·exact zef h _ hX
  ·cases hX
 |some d=>
  obtain ⟨hn,hX⟩:=za hX
  have hX:yO q Γ P d ty S op=some out:=hX
  unfold yO at hX
  split at hX
  ·exact zgr h hn _ hX
  ·obtain ⟨hs,hX⟩:=za hX;exact zhO h hn hs _ hX
  ·exact zhR h hn _ hX
  ·exact ze9 h hn _ hX
  ·split at hX
   ·rename_i A he
    exact wG h hn he (wH h he) _ hX
   ·unfold yN at hX
    split at hX
    ·cases hq:q.fs with
     |true=>rw [hq] at hX;exact zal h hn _ hX
     |false=>rw [hq] at hX;exact zbp h hn _ hX
    ·exact zbp h hn _ hX
    ·exact zal h hn _ hX
    ·cases hX
  ·split at hX
   ·rename_i A he
    exact wG h hn he (wH h he) _ hX
   ·split at hX
    ·rename_i o e;cases hX;exact zgu h hn _ e
    ·exact zjg h hn _ hX
  ·split at hX
   ·rename_i f caps hc;exact zlj hgl hΓ h hn hc _ hX
   ·cases hX
  ·split at hX
   ·rename_i args ts x y t t' e1 e2
    obtain ⟨ht,hX2⟩:=za hX
    have:=Nat.eq_of_beq_eq_true ht
    subst this
    rw [vQ e1,vQ e2]
    exact zak h hn _ hX2
   ·cases hX
  ·exact zef h _ hX
  ·exact zfG h hn _ hX
def zkC (n:Nat):Option Nat→Bool
 |some d=>Nat.blt d n
 |none=>true
def stp (q:Opts) (Γ:List (Spec C)) (P:Program) (n:Nat) (o:Oper) (S:St C):Option (Out C):=match yV P S o.dst o.op with
 |some k=>chk (zkC n o.dst) (xV P S k)
 |none=>wm q Γ P n o S
theorem zeg {q:Opts}{Γ:List (Spec C)}(hΓ:∀ s∈Γ,s.OK P) (n:Nat) (κ:Kp):zea P n κ (stp q Γ P n):=by
 intro w0 σ0 hgl o S L b σ PV hA out hX
 unfold stp at hX
 split at hX
 ·rename_i X hN
  obtain ⟨hd,hX2⟩:=za hX
  obtain ⟨ν,vs,ids,h⟩:=hA
  obtain ⟨dst,op,ty,ps,af,g⟩:=o
  exact zmd h (fun d e=>by subst e;exact hd) hN out hX2
 ·exact zlk hΓ n κ w0 σ0 hgl o S L b σ PV hA out hX
end
omit [Dfr] in
theorem Yc.loopO:Yc (fun {s β} f x=>loopO f x):=fun f x y h=>Xx.1 h
omit [Dfr] in
theorem Yc.iter (k:Nat):Yc (fun {s β} f x=>Zu f k x):=fun f x y h=>⟨k,h⟩
end Go.Px
namespace Go.Px
set_option linter.unusedSectionVars false
variable [Dfr]
set_option linter.unusedVariables false
section
variable {C:Cod}{S:St C}{P:Program}{ρ:Type}{Γ:List (Spec C)}
omit [Dfr] in
theorem zbu {f:XE C→St C→Option (Out C)}{K:Out C→Option ρ}{k:XK}{g:Sig}{y:XK.ty C k g}:(yI k g y f).bind K=yI k g y fun e Sr=>(f e Sr).bind K:=by
 cases k <;> rfl
omit [Dfr] in
theorem YT {f:XE C→St C→Option (Out C)}{K:Out C→Option ρ}:∀ {outs:List (XK×Sig)}{r:zk C outs},(zO outs r f).bind K=zO outs r fun e Sr=>(f e Sr).bind K
 |[],r=>r.elim
 |[o],r=>zbu
 |o::o2::l,r=>by
  cases r with
  |inl a=>exact zbu (k:=o.1) (g:=o.2) (y:=a)
  |inr y=>exact YT (outs:=o2::l) (r:=y)
def wn (s:Spec C) (d:Nat) (S:St C) (x:s.ins.ty C) (K:Out C→Option ρ):Option ρ:=
 chk s.ins.es.isEmpty ((s.F x).bind fun r=>zO s.outs r fun e Sr=>(Wt S d s.nr e Sr).bind K)
def WY {α:Type}:(outs:List (XK×Sig))→zk C outs→(XE C→St C→List ESh→α)→α
 |[],y,_=>y.elim
 |[o],y,K=>yI o.1 o.2 y fun e S=>K e S o.2.es
 |o::o2::r,y,K=>match (y:XK.ty C o.1 o.2⊕zk C (o2::r)) with
  | .inl a=>yI o.1 o.2 a fun e S=>K e S o.2.es
  | .inr y=>WY (o2::r) y K
omit [Dfr] in
theorem Wc {α:Type}{K:XE C→St C→List ESh→α}:∀ {outs:List (XK×Sig)}{r:zk C outs},WY outs r K=zO outs r fun e S=>K e S (ZA outs r)
 |[],r=>r.elim
 |[o],r=>rfl
 |o::o2::l,r=>by
  cases r with
  |inl a=>rfl
  |inr y=>exact Wc (outs:=o2::l) (r:=y)
omit [Dfr] in
theorem zbv {α:Type}{k:XK}{g:Sig}{y:XK.ty C k g}:yI k g y (fun _ _=>(none:Option α))=none:=by cases k <;> rfl
omit [Dfr] in
theorem vZ {α:Type}:∀ {outs:List (XK×Sig)}{r:zk C outs},zO outs r (fun _ _=>(none:Option α))=none
 |[],r=>r.elim
 |[o],r=>zbv (k:=o.1) (g:=o.2) (y:=r)
 |o::o2::l,r=>by
  cases r with
  |inl a=>exact zbv (k:=o.1) (g:=o.2) (y:=a)
  |inr y=>exact vZ (outs:=o2::l) (r:=y)
def WZ (s:Spec C) (d:Nat) (S2:St C) (bl:Bl) (x:s.ins.ty C) (K:Out C→Option ρ):Option ρ:=
 (s.F x).bind fun r=>WY s.outs r fun e Sr es=>chk (Nat.ble s.ins.es.length es.length) ((xM S2 d s.nr bl es e Sr).bind K)
omit [Dfr] in
theorem zaq {s:Spec C}{d:Nat}{S2:St C}{bl:Bl}{x:s.ins.ty C}{K:Out C→Option ρ}:WZ s d S2 bl x K=(Yf s d S2 bl x).bind K:=by
 unfold WZ Yf
 rw [Option.bind_assoc]
 congr 1
 funext r
 rw [Wc,zm,YT]
 cases Nat.ble s.ins.es.length (ZA s.outs r).length with
 |true=>rfl
 |false=>exact vZ
def W0 (s:Spec C) (d:Nat) (S:St C) (x:s.ins.ty C) (K:Out C→Option ρ):Option ρ:=
 (s.F x).bind fun r=>WY s.outs r fun e Sr es=>chk (zkB e) ((xM S d s.nr [] es e Sr).bind K)
omit [Dfr] in
theorem zar {s:Spec C}{d:Nat}{x:s.ins.ty C}{K:Out C→Option ρ}:W0 s d S x K=(ZN s d S x).bind K:=by
 unfold W0 ZN
 rw [Option.bind_assoc]
 congr 1
 funext r
 rw [Wc,YT]
 simp only [zm]
def W1 (Γ:List (Spec C)) (S:St C) (d f:Nat) (As:List (AV C.D)) (K:Out C→Option ρ):Option ρ:=match Γ with
  |[]=>none
  |s :: Γ=>bif Nat.beq s.f f && (s.view || s.viewO) then xN S As fun Bs=>chk (okX As Bs) (xk s.ins.ts (zbs S As Bs) fun T=>match yx s.ins T As.length with
     |some (_,_,x)=>bif s.view then wn s d S x K else W0 s d S x K
     |none=>none) else W1 Γ S d f As K
omit [Dfr] in
theorem zfd {s:Spec C}{d:Nat}{x:s.ins.ty C}{K:Out C→Option ρ}:wn s d S x K=(ZX s d S x).bind K:=by
 simp only [wn,ZX,zm,Option.bind_assoc,YT]
omit [Dfr] in
theorem zas {d f:Nat}{As:List (AV C.D)}{K:Out C→Option ρ}:∀ {Γ:List (Spec C)},W1 Γ S d f As K=(Yg Γ S d f As).bind K
 |[]=>rfl
 |s::Γ=>by
  unfold W1 Yg
  cases (Nat.beq s.f f && (s.view || s.viewO)) with
  |false=>exact zas
  |true=>
   simp only [cond_true]
   rw [WV]
   congr 1;funext Bs
   rw [zm,WW]
   congr 1;congr 1;funext T
   cases yx s.ins T As.length with
   |none=>rfl
   |some q=>
    obtain ⟨S2,bl,x⟩:=q
    simp only
    cases s.view with
    |true=>exact zfd
    |false=>exact zar
def wo (Γ0 Γ:List (Spec C)) (S:St C) (d f:Nat) (As:List (AV C.D)) (K:Out C→Option ρ):Option ρ:=match Γ with
 |[]=>W1 Γ0 S d f As K
 |s::Γ=>bif Nat.beq s.f f then (match yE s.ins S As with
  |some (S2,bl,x)=>bif s.view then wn s d S x K else bif s.viewO then W0 s d S x K else WZ s d S2 bl x K
  |none=>wo Γ0 Γ S d f As K) else wo Γ0 Γ S d f As K
omit [Dfr] in
theorem Wd {Γ0:List (Spec C)}{d f:Nat}{As:List (AV C.D)}{K:Out C→Option ρ}:∀ {Γ:List (Spec C)},wo Γ0 Γ S d f As K=(yy Γ0 Γ S d f As).bind K
 |[]=>zas
 |s::Γ=>by
  unfold wo yy
  cases Nat.beq s.f f with
  |false=>exact Wd
  |true=>
   simp only [cond_true]
   cases yE s.ins S As with
   |none=>exact Wd
   |some q=>
    obtain ⟨S2,bl,x⟩:=q
    simp only
    cases s.view with
    |true=>
     simp only [cond_true,wn,ZX,zm,Option.bind_assoc,YT]
    |false=>
     rw [cond_false,cond_false]
     cases s.viewO with
     |true=>simp only [cond_true,zar]
     |false=>simp only [cond_false,zaq]
def zfH (Γ:List (Spec C)) (S:St C) (d f:Nat) (As:List (AV C.D)) (K:Out C→Option ρ):Option ρ:=wo Γ Γ S d f As K
omit [Dfr] in
theorem zgA {d f:Nat}{As:List (AV C.D)}{K:Out C→Option ρ}:zfH Γ S d f As K=(wl Γ S d f As).bind K:=Wd
def eff:Op→Bool
 | .slice _ _ _ _ _=>true
 | .convert _ _ _=>true
 |op=> !rdE op
where
 rdE:Op→Bool
  | .alloc _=>false
  | .box _ _=>false
  | .makeSlice _ _ _=>false
  | .buildSlice _ _ _=>false
  | .call ⟨.value _,_,_⟩=>false
  | .call ⟨.builtin .append,_,_⟩=>false
  | .panic _=>false
  |_=>true
def wJ (P:Program) (S:St C) (d:Nat) (t:TypeId) (x y:Operand) (K:Out C→Option ρ):Option ρ:=
  match P.underlying t with
  |some (.slice e)=>(match P.info? e with
    |some ti=>(match ti.zero with
      |some zv=>chk (Nat.beq ti.size (C.size e) && (Nat.blt 0 (C.size e) && (Nat.beq zv.cells.size (C.size e) && isNone (S.heap (nid d 0)))))
          (match S.op x with
          | .row id=>(match S.heap id with
            |some (.row T s)=>chk (Nat.beq T e) ((XG S T (S.op y)).bind fun ts=>(zH ti.bytes s ts).bind fun s'=>
                K (.go {env:=upd (S.sub id .und).env d (.row (nid d 0)),heap:=upd (S.sub id .und).heap (nid d 0) (some (.row T s'))}))
            |_=>none)
          | .nils=>(XG S e (S.op y)).bind fun ts=>(zH ti.bytes ⟨[],false⟩ ts).bind fun s'=>
                K (.go {env:=upd S.env d (.row (nid d 0)),heap:=upd S.heap (nid d 0) (some (.row e s'))})
          |_=>none)
      |none=>none)
    |none=>none)
  |_=>none
omit [Dfr] in
theorem v5 {d:Nat}{t:TypeId}{x y:Operand}{K:Out C→Option ρ}:wJ P S d t x y K=(Z2 P S d t x y).bind K:=by
 unfold wJ Z2
 cases P.underlying t with
 |none=>rfl
 |some td=>
  cases td <;> first | rfl | skip
  rename_i e
  simp only
  cases P.info? e with
  |none=>rfl
  |some ti=>
   simp only
   cases ti.zero with
   |none=>rfl
   |some zv=>
    simp only [zm]
    congr 1
    cases S.op x <;> first | rfl | skip
    ·rename_i id
     simp only
     cases S.heap id with
     |none=>rfl
     |some en=>
      cases en with
      |cell cs=>rfl
      |row T s=>simp only [zm,Option.bind_assoc,Option.bind_some]
      |obj q T b s=>rfl
      |orow T s g=>rfl
    ·simp only [Option.bind_assoc,Option.bind_some]
def zdv {D:Nat→Type}:AV D→Bool
 | .str _=>true
 | .sl _ _ _=>true
 |_=>false
omit [Dfr] in
theorem zdm {q:Opts}{d:Nat}{ty t:TypeId}{x:Operand}{lo hi:Option Operand}(h:zdv (S.op x)=true):yN q P S d ty t x lo hi none=none:=by
 have h1:∀ lo,ZM P S d ty t x lo hi=none:=by
  intro lo
  unfold ZM
  cases hx:S.op x <;> rw [hx] at h <;> first | (cases h;done) | rfl
 have h2:yg P S d t x hi none=none:=by
  unfold yg
  cases P.underlying t with
  |none=>rfl
  |some td=>
   cases td <;> first | rfl | skip
   rename_i e
   simp only
   cases P.info? e with
   |none=>rfl
   |some ti=>
    simp only
    cases hx:S.op x <;> rw [hx] at h <;> first | (cases h;done) | rfl | skip
    rename_i T s c
    show chk (Nat.beq ti.size (C.size T) && isNone (S.heap (nid d 0))) _=none
    cases hi <;> cases (Nat.beq ti.size (C.size T) && isNone (S.heap (nid d 0))) <;> rfl
 unfold yN
 cases lo with
 |none=>simp only;cases q.fs <;> simp [h1,h2]
 |some lo=>exact h1 _
omit [Dfr] in
theorem u8K {α β:Type}{o:Option TypeDesc}{a:Option α}{b:Option β}{K:β→Option α}(h:a=b.bind K) :
    (match o with | some (.int .u8)=>a | _=>none)=Option.bind (match o with | some (.int .u8)=>b | _=>none) K:=by
  cases o with
  |none=>rfl
  |some td=>
    cases td <;> first | rfl | skip
    rename_i k
    cases k <;> first | rfl | exact h
def zaP (P:Program) (S:St C) (d:Nat) (t t':TypeId) (s:ByteArray) (K:Out C→Option ρ):Option ρ:=match P.underlying t,P.underlying t' with
 |some _,some (.slice e)=>(match P.underlying e with
  |some (.int .u8)=>chk (Nat.beq (C.size e) 1 && decide (s.size≤140737488355328)) ((zgt C e s.data.toList).bind fun l=>K (.go (S.put d (.sl e ⟨l,true⟩ false))))
  |_=>none)
 |_,_=>none
def zeh (P:Program) (S:St C) (d:Nat) (t t':TypeId) (A:AV C.D) (K:Out C→Option ρ):Option ρ:=match P.underlying t,P.underlying t' with
 |some (.slice e),some .string=>(match P.underlying e with
  |some (.int .u8)=>chk (Nat.beq (C.size e) 1) ((XG S e A).bind fun ts=>(zbq C e ts).bind fun l=>K (.go (S.put d (.str (vU l)))))
  |_=>none)
 |_,_=>none
def zci (P:Program) (S:St C) (d:Nat) (t t':TypeId) (A:AV C.D) (K:Out C→Option ρ):Option ρ:=match A with
 | .str s=>zaP P S d t t' s K
 |A=>zeh P S d t t' A K
omit [Dfr] in
theorem zgB {d:Nat}{t t':TypeId}{x:Operand}{K:Out C→Option ρ}:zci P S d t t' (S.op x) K=(match ZL P S d t t' x with | some o=>some o | none=>xj P S d t t' x).bind K:=by
 have hstr:zeh P S d t t' (S.op x) K=(xj P S d t t' x).bind K:=by
  unfold zeh xj
  cases P.underlying t with
  |none=>rfl
  |some td=>
   cases td <;> first | rfl | skip
   cases P.underlying t' with
   |none=>rfl
   |some td'=>
    cases td' <;> first | rfl | skip
    simp only
    exact u8K (by simp only [zm,Option.bind_assoc,Option.bind_some])
 unfold zci
 split
 ·rename_i s e
  have h0:xj P S d t t' x=none:=by
   unfold xj
   rw [e]
   split
   ·split
    ·simp only [XG,Option.bind_none];cases Nat.beq _ 1 <;> rfl
    ·rfl
   ·rfl
  have h1:zaP P S d t t' s K=(ZL P S d t t' x).bind K:=by
   unfold zaP ZL
   rw [e]
   cases P.underlying t with
   |none=>rfl
   |some td=>
    cases P.underlying t' with
    |none=>rfl
    |some td'=>
     cases td' <;> first | rfl | skip
     simp only
     exact u8K (by simp only [zm,Option.bind_assoc,Option.bind_some])
  rw [h1,h0]
  cases ZL P S d t t' x <;> rfl
 ·rename_i hne
  rw [hstr]
  have:ZL P S d t t' x=none:=by
   unfold ZL
   split
   ·rename_i e;exact absurd e (hne _)
   ·rfl
  rw [this]
def zgC (q:Opts) {α:Type}:Option α→Bool
 |none=>q.fs
 |some _=>true
def v6 (P:Program) (S:St C) (d:Nat) (ty t:TypeId) (A:AV C.D) (x:Operand) (lo hi:Option Operand) (K:Out C→Option ρ):Option ρ:=match A with
 | .row id=>VK P (S.frz1 id) ty (.slice t x lo hi none) fun A=>K (.go ((S.frz1 id).put d A))
 |_=>none
omit [Dfr] in
theorem zei {q:Opts}{d:Nat}{ty t:TypeId}{x:Operand}{lo hi:Option Operand}{K:Out C→Option ρ}(hl:zgC q lo=true) (hf:zdv (S.op x)=false) :
    v6 P S d ty t (S.op x) x lo hi K=(yO q Γ P d ty S (.slice t x lo hi none)).bind K:=by
  have he:ZK P S ty (.slice t x lo hi none)=none:=by
    show Ya P S t (S.op x) lo hi=none
    revert hf
    unfold Ya
    cases S.op x <;> intro hf <;> first | (cases hf;done) | skip
    all_goals (split <;> first | rfl | simp_all)
  have ho:yN q P S d ty t x lo hi none=ZM P S d ty t x lo hi:=by
    unfold yN
    cases lo with
    |none=>simp only;rw [show q.fs=true from hl];rfl
    |some lo=>rfl
  unfold yO
  simp only
  rw [he]
  simp only
  rw [ho]
  unfold v6 ZM
  cases S.op x <;> first | rfl | skip
  simp only
  rw [WR,Option.bind_assoc]
  rfl
def zcj (P:Program) (S:St C) (d:Nat) (t:TypeId) (x h m:Operand) (K:Out C→Option ρ):Option ρ:=
  match P.underlying t with
  |some (.slice e)=>(match P.info? e with
    |some ti=>(match S.op x with
      | .row id=>(match S.heap id with
        |some (.row T s)=>chk (Nat.beq ti.size (C.size T) && isNone (S.heap (nid d 0))) (bif isZ h && isZ m then K (.go {env:=upd S.env d (.row (nid d 0)),heap:=upd S.heap (nid d 0) (some (.row T ⟨[],s.nn⟩))}) else
            (match S.op h,S.op m with
            | .int _ i,.int _ j=>chk (decide (i=j)) ((zS s 0 i).bind fun s'=>K (.go {env:=upd (S.sub id .und).env d (.row (nid d 0)),heap:=upd (S.sub id .und).heap (nid d 0) (some (.row T s'))}))
            |_,_=>none))
        |_=>none)
      | .sl T s _=>chk (Nat.beq ti.size (C.size T) && isNone (S.heap (nid d 0))) (chk (isZ h && isZ m) (K (.go {env:=upd S.env d (.row (nid d 0)),heap:=upd S.heap (nid d 0) (some (.row T ⟨[],s.nn⟩))})))
      |_=>none)
    |none=>none)
  |_=>none
omit [Dfr] in
theorem zgD {q:Opts}{d:Nat}{ty t:TypeId}{x h m:Operand}{K:Out C→Option ρ}:zcj P S d t x h m K=(yO q Γ P d ty S (.slice t x none (some h) (some m))).bind K:=by
 have ho:yO q Γ P d ty S (.slice t x none (some h) (some m))=yg P S d t x (some h) (some m):=by unfold yO;rfl
 rw [ho]
 unfold zcj yg
 cases P.underlying t with
 |none=>rfl
 |some u=>
 cases u <;> first | rfl | skip
 rename_i e
 simp only
 cases P.info? e with
 |none=>rfl
 |some ti=>
 simp only
 cases S.op x <;> first | rfl | skip
 ·simp only [zm,Option.bind_some]
 ·rename_i id
  simp only
  cases S.heap id with
  |none=>rfl
  |some en=>
  cases en <;> first | rfl | skip
  simp only [zm]
  congr 1
  cases isZ h && isZ m with
  |true=>rfl
  |false=>
   simp only [cond_false]
   cases S.op h <;> first | rfl | skip
   cases S.op m <;> first | rfl | skip
   simp only [zm,Option.bind_assoc,Option.bind_some]
def wq (P:Program) (S:St C) (t:TypeId) (x y:Operand) (K:Out C→Option ρ):Option ρ:=match P.info? t,S.op x with
 |some ti,.pr _ _ _ _=>go ti (S.frz (AV.rows (S.op y)))
 |_,_=>(ZF P S t x y).bind K
where
  go (ti:TypeInfo) (S:St C):Option ρ:=match S.op x with
    | .pr id T i off=>(match S.heap id with
      |some (.row T' s)=>chk (Nat.beq T T' && (Yb (S.op y) && (Nat.beq ti.size (zo (S.op y)).length && (Nat.ble (off+(zo (S.op y)).length) (C.size T') && Nat.blt 0 (zo (S.op y)).length))))
          ((zc s i).bind fun q=>(C.imp T' ((C.emb T' q).take off++zo (S.op y)++(C.emb T' q).drop (off+(zo (S.op y)).length))).bind fun q'=>
            K (.go {S with heap:=upd S.heap id (some (.row T' (s.set i q')))}))
      |_=>none)
    |_=>none
omit [Dfr] in
theorem zfe {x y:Operand}{ti:TypeInfo}{K:Out C→Option ρ}:wq.go x y K ti S=(ZF.go x y ti S).bind K:=by
 unfold wq.go ZF.go
 cases S.op x <;> first | rfl | skip
 rename_i id T i off
 simp only
 cases S.heap id with
 |none=>rfl
 |some e=>
  cases e with
  |cell cs=>rfl
  |row T' s=>simp only [zm,Option.bind_assoc,Option.bind_some]
  |obj q T b s=>rfl
  |orow T s g=>rfl
omit [Dfr] in
theorem zff {t:TypeId}{x y:Operand}{K:Out C→Option ρ}:wq P S t x y K=(ZF P S t x y).bind K:=by
 unfold wq
 split
 ·rename_i ti id T i off h1 h2
  rw [zfe]
  unfold ZF
  rw [h1,h2]
 ·rfl
def zck (P:Program) (S:St C) (d:Nat) (t:TypeId) (x y:Operand) (K:Out C→Option ρ):Option ρ:=
  match P.underlying t with
  |some (.slice e)=>(match P.info? e with
    |some ti=>(match ti.zero,S.op x with
      |some zv,.int _ i=>chk (vS x y && (Nat.beq ti.size (C.size e) && (Nat.blt 0 (C.size e) && isNone (S.heap (nid d 0)))))
          ((C.imp e (zv.cells.toList.map Zg)).bind fun q=>(Z8 ti.bytes i q).bind fun s=>K (.go {env:=upd S.env d (.row (nid d 0)),heap:=upd S.heap (nid d 0) (some (.row e s))}))
      |_,_=>none)
    |none=>none)
  |_=>none
omit [Dfr] in
theorem zgE {d:Nat}{t:TypeId}{x y:Operand}{K:Out C→Option ρ}:zck P S d t x y K=(xH P S d t x y).bind K:=by
 unfold zck xH
 cases P.underlying t with
 |none=>rfl
 |some td=>
  cases td <;> first | rfl | skip
  rename_i e
  simp only
  cases P.info? e with
  |none=>rfl
  |some ti=>
   simp only
   cases ti.zero with
   |none=>rfl
   |some zv=>
    cases S.op x <;> first | rfl | (simp only [zm,Option.bind_assoc,Option.bind_some])
def zkD (q:Opts) (Γ:List (Spec C)) (P:Program) (n:Nat):ZT C:=fun o S _ K=>match o.dst with
 |some d=>chk (Nat.blt d n) (match o.op with
  | .call ⟨.value c,args,_⟩=>(match S.op c with
   | .clo f caps=>chk (vP caps) (zfH Γ S d f (YD (args.toList.map S.op) caps) K)
   |_=>none)
  | .call ⟨.builtin .append,args,ts⟩=>(match args.toList,ts.toList with
   |[x,y],[t,t']=>chk (Nat.beq t t') (wJ P S d t x y K)
   |_,_=>none)
  | .makeSlice t x y=>zck P S d t x y K
  | .slice t x none (some hi) (some mx)=>zcj P S d t x hi mx K
  | .slice t x lo hi none=>bif zdv (S.op x) then VK P S o.type (.slice t x lo hi none) fun A=>K (.go (S.put d A)) else bif zgC q lo then v6 P S d o.type t (S.op x) x lo hi K else (yO q Γ P d o.type S (.slice t x lo hi none)).bind K
  | .convert t t' x=>(match ZK P S o.type (.convert t t' x) with
   |some A=>K (.go (S.put d A))
   |none=>zci P S d t t' (S.op x) K)
  |op=>bif eff op then (yO q Γ P d o.type S op).bind K else VK P S o.type op fun A=>K (.go (S.put d A)))
 |none=>(match o.op with
  | .store t x y=>wq P S t x y K
  |_=>(wm q Γ P n o S).bind K)
omit [Dfr] in
theorem zll {q:Opts}{d:Nat}{ty:TypeId}{op:Op}(h:eff op=false):yO q Γ P d ty S op=(ZK P S ty op).map fun A =>.go (S.put d A):=by
 unfold yO
 split <;> first | (cases h;done) | rfl
omit [Dfr] in
theorem zjj {q:Opts}{n:Nat}{o:Oper}{K:Out C→Option ρ}:zkD q Γ P n o S ρ K=(wm q Γ P n o S).bind K:=by
 obtain ⟨dst,op,ty,ps,af,g⟩:=o
 cases dst with
 |none=>cases op <;> first | rfl | exact zff
 |some d=>
  show chk (Nat.blt d n) _=(chk (Nat.blt d n) (yO q Γ P d ty S op)).bind K
  rw [zm]
  congr 1
  simp only
  split
  ·rename_i c args ts
   unfold yO
   simp only
   cases S.op c <;> first | rfl | (simp only [zm];rw [zgA])
  ·rename_i args ts
   unfold yO
   simp only
   generalize args.toList=l
   generalize ts.toList=m
   match l,m with
   |[],_=>rfl
   |[_],_=>rfl
   |[x,y],[]=>rfl
   |[x,y],[_]=>rfl
   |[x,y],[t,t']=>simp only [zm,v5]
   |[x,y],_::_::_::_=>rfl
   |_::_::_::_,_=>rfl
  ·rename_i t x y
   exact zgE
  ·exact zgD
  ·rename_i t x lo hi
   cases hf:zdv (S.op x) with
   |false=>
    rw [cond_false]
    cases hl:zgC q lo with
    |false=>rfl
    |true=>rw [cond_true];exact zei hl hf
   |true=>
    rw [cond_true,WR]
    unfold yO
    simp only
    rw [zdm hf]
    cases ZK P S ty (.slice t x lo hi none) <;> rfl
  ·rename_i t t' x
   unfold yO
   simp only
   cases ZK P S ty (.convert t t' x) with
   |some A=>rfl
   |none=>exact zgB
  ·cases he:eff op with
   |true=>rfl
   |false=>
    rw [cond_false,WR,zll he]
    cases ZK P S ty op <;> rfl
def zcl (P:Program) (S:St C) (d:Nat) (t:TypeId) (x y:Operand) (K:Out C→Option ρ):Option ρ:=match x with
 | .tmp tx=>(match S.env tx with
  | .nx id T i .whole=>xS S tx id T i (nid d 1) fun S1=>wJ P S1 d t x y K
  |_=>none)
 |_=>none
omit [Dfr] in
theorem zgF {d:Nat}{t:TypeId}{x y:Operand}{K:Out C→Option ρ}:zcl P S d t x y K=(xT P S d t x y).bind K:=by
 unfold zcl xT
 cases x <;> first | rfl | skip
 rename_i tx
 simp only
 cases S.env tx <;> first | rfl | skip
 rename_i id T i nx
 cases nx <;> first | rfl | skip
 simp only [zg5]
 congr 1;funext S1
 exact v5
def zgG (P:Program) (S:St C) (K:Out C→Option ρ):KN→Option ρ
 | .st t x y=>YV P S t x y K
 | .cl t x=>xx P S t x K
 | .apn d t t' x y=>chk (Nat.beq t t') (zcl P S d t x y K)
 | .apo d t t' x y=>chk (Nat.beq t t') (Xl P S d t x y K)
 | .bl d t i m y=>chk (Nat.beq i 0 && Nat.beq m 1) (YX P S d t y K)
 | .mk d t x y=>xv P S d t x y K
 | .cp d t x hi mx=>xw P S d t x hi mx K
omit [Dfr] in
theorem zjk {k:KN}{K:Out C→Option ρ}:zgG P S K k=(xV P S k).bind K:=by
 cases k <;> simp only [zgG,xV,zm]
 ·exact zeC
 ·exact zfq
 ·rw [zgF]
 ·rw [zg6]
 ·rw [zeJ]
 ·exact zfo
 ·exact zfp
def yP (q:Opts) (Γ:List (Spec C)) (P:Program) (n:Nat):ZT C:=fun o S _ K=>match yV P S o.dst o.op with
 |some k=>chk (zkC n o.dst) (zgG P S K k)
 |none=>zkD q Γ P n o S _ K
omit [Dfr] in
theorem X6 {q:Opts}{n:Nat}{o:Oper}{K:Out C→Option ρ}:yP q Γ P n o S ρ K=(stp q Γ P n o S).bind K:=by
 unfold yP stp
 cases yV P S o.dst o.op with
 |some k=>simp only [zm,zjk]
 |none=>exact zjj
omit [Dfr] in
theorem zej {q:Opts}{n:Nat}{o:Oper}{K:Out C→Option ρ}:yP q Γ P n o S ρ K=(yP q Γ P n o S _ some).bind K:=by
 rw [X6,X6,Option.bind_assoc]
 rfl
end
end Go.Px
namespace Go.Px
set_option linter.unusedSectionVars false
variable [Dfr]
set_option linter.unusedVariables false
section
variable {κ:Kp}{C:Cod}{S T:St C}{ν:Val}{vs:Nat→List Value}{ids:List Nat}{L:List (Nat×Value)}{b:Nat→Value}{σ:FS}{PV:List Priv}{P:Program}{ρ:Type}
variable {t t' ty:TypeId}{x y z:Operand}{d:Nat}{ps:String}{af:Array Edge}{g:Option (Nat×Bool)}{A:AV C.D}{n:Nat}{w0:Start}{σ0:FS}{o:Oper}{D:Nat→Prop}
def v7 (P:Program) (S:St C) (t:TypeId) (m:Nat) (parts:List (Nat×Operand)):Option (AV C.D):=match P.underlying t with
  |some (.slice e)=>(match P.info? e with
    |some ti=>(match ti.zero with
      |some zv=>chk (Nat.beq ti.size (C.size e) && (Nat.blt 0 (C.size e) && (Nat.ble (m * C.size e) 16777216 && (Nat.beq parts.length m && VJ parts 0))))
          ((yj S e (parts.map (·.2))).bind fun xs=>some (.sl e ⟨xs,true⟩ false))
      |none=>none)
    |none=>none)
  |_=>none
theorem zh0 (h:AbsL κ S ν vs ids L b σ PV) (hn:Nat.blt d n=true) {m:Nat}{parts:Array (Nat×Operand)}(hX:v7 P S t m parts.toList=some A):OpA κ P n w0 σ0 ⟨some d,.buildSlice t m parts,ty,ps,af,g⟩ (some (.go (S.put d A))) L b σ PV:=by
 unfold v7 at hX
 split at hX
 ·rename_i e hu
  split at hX
  ·rename_i ti hi
   split at hX
   ·rename_i zv hz
    obtain ⟨hc,hX2⟩:=za hX
    simp only [Bool.and_eq_true] at hc
    obtain ⟨c1,c2,c3,c4,c5⟩:=hc
    obtain ⟨xs,hxs,hX3⟩:=Option.bind_eq_some_iff.1 hX2
    cases hX3
    obtain ⟨r1,r2,r3⟩:=vT h hxs
    have hlen:((parts.toList.map (·.2)).map (opv L b)).length=m:=by
     have:=Nat.eq_of_beq_eq_true c4;simpa using this
    intro out ho a w hinv hf K Q hK hP
    cases ho
    refine XF (ρ:=Unit) (p:=some ()) (H:=fun p' L' σ' PV'=>∃ v,L'=(d,v)::L∧σ'=σ∧PV'=Priv.row (zu C e).o e v ⟨xs,true⟩::PV) (T:=(zu C e).o) (vs:=(parts.toList.map (·.2)).map (opv L b)) (xs:=xs) [] PV hn hu hi hz (Nat.eq_of_beq_eq_true c1) c3 c2 (WQ c5) hlen (fun hh _=>⟨zb.none,zb.none_le _,Ty.rels_o.2 r1,by rw [List.length_map];exact r2,r3⟩) (fun v=>⟨v,rfl,rfl,rfl⟩) () rfl a w hinv hf K Q ?_
    rintro p' L' σ' PV' a' w' hp' hi' hf' ⟨v,rfl,rfl,rfl⟩
    obtain ⟨h1,hh,hsub,hle,hi2⟩:=hi'.freeze (m:=0) rfl
    have hh:zj (zu C e).o e v ⟨xs,true⟩ σ' h1:=hh
    refine hK _ rfl _ _ _ _ _ hi2 hf' ⟨ν,vs,ids,(h.le hle).put (A :=.sl e ⟨xs,true⟩ false) (Rv.of_vrel (hh.fast hle fun b o v e=>YO b o v e)).vr trivial⟩
   ·cases hX
  ·cases hX
 ·cases hX
def rdQ:Op→Bool
 | .alloc _=>false
 | .box _ _=>false
 | .makeSlice _ _ _=>false
 | .call ⟨.value _,_,_⟩=>false
 | .call ⟨.builtin .append,_,_⟩=>false
 | .panic _=>false
 |_=>true
def evQ (P:Program) (S:St C) (ty:TypeId):Op→Option (AV C.D)
 | .buildSlice t m parts=>v7 P S t m parts.toList
 |op=>ZK P S ty op
def zjl (P:Program) (S:St C) (ty:TypeId) (op:Op) (K:AV C.D→Option ρ):Option ρ:=match op with
  | .buildSlice t m parts=>(match P.underlying t with
    |some (.slice e)=>(match P.info? e with
      |some ti=>(match ti.zero with
        |some zv=>chk (Nat.beq ti.size (C.size e) && (Nat.blt 0 (C.size e) && (Nat.ble (m * C.size e) 16777216 && (Nat.beq parts.toList.length m && VJ parts.toList 0))))
            ((yj S e (parts.toList.map (·.2))).bind fun xs=>K (.sl e ⟨xs,true⟩ false))
        |none=>none)
      |none=>none)
    |_=>none)
  |op=>VK P S ty op K
omit [Dfr] in
theorem zlm {op:Op}{K:AV C.D→Option ρ}:zjl P S ty op K=(evQ P S ty op).bind K:=by
 unfold zjl evQ
 split
 ·unfold v7
  cases P.underlying _ with
  |none=>rfl
  |some td=>
   cases td <;> first | rfl | skip
   simp only
   cases P.info? _ with
   |none=>rfl
   |some ti=>
    simp only
    cases ti.zero with
    |none=>rfl
    |some zv=>simp only [zm,Option.bind_assoc,Option.bind_some]
 ·exact WR
theorem zl1 {q:Opts}{Γ:List (Spec C)}(h:AbsL κ S ν vs ids L b σ PV) (hn:Nat.blt d n=true) {op:Op}(hr:rdQ op=true) (he:evQ P S ty op=some A):OpA κ P n w0 σ0 ⟨some d,op,ty,ps,af,g⟩ (some (.go (S.put d A))) L b σ PV:=by
 unfold evQ at he
 split at he
 ·exact zh0 h hn he
 ·have:=zfG (P:=P) (n:=n) (w0:=w0) (σ0:=σ0) (ps:=ps) (af:=af) (g:=g) h (op:=op) hn (ty:=ty)
  rw [he] at this
  exact this
omit [Dfr] in
theorem zbw {e:Nat}:∀ {l:List Operand},(∀ x∈l,S.op x=T.op x)→yj S e l=yj T e l
 |[],_=>rfl
 |x::r,h=>by
  unfold yj
  rw [h x (by simp),zbw fun y hy=>h y (by simp [hy])]
end
end Go.Px
namespace Go.Px
set_option linter.unusedSectionVars false
variable [Dfr]
set_option linter.unusedVariables false
section
variable {C:Cod}{S T:St C}{P:Program}
def AV.hid {D:Nat→Type}:AV D→List Nat
 | .row id=>[id]
 | .pc id _=>[id]
 | .pr id _ _ _=>[id]
 | .nx id _ _ _=>[id]
 |_=>[]
def zcm (S:St C):Op→List Nat
 | .load _ x=>(S.op x).hid
 | .indexAddr _ x _=>(S.op x).hid
 | .binOp _ _ x _ _=>match S.op x with
  | .row id=>[id]
  | .nx id _ _ _=>[id]
  |_=>[]
 | .call ⟨.builtin .len,args,_⟩=>match args.toList with
  |[x]=>(S.op x).hid
  |_=>[]
 |_=>[]
omit [Dfr] in
theorem XV {α:Type}{id U:Nat}{i:Int}{K:(U:Nat)→Sl (C.D U)→Option α}(h:S.heap id=T.heap id):zK S id U i K=zK T id U i K:=by
 unfold zK;rw [h]
omit [Dfr] in
theorem zh1 {t:TypeId}{A:AV C.D}(h:∀ id∈A.hid,S.heap id=T.heap id):Yt P S t A=Yt P T t A:=by
 cases A <;> first | rfl | (simp only [Yt];rw [h _ (by simp [AV.hid])]) | skip
 rename_i id U i x
 cases x <;> first | rfl | (simp only [Yt];rw [XV (h _ (by simp [AV.hid]))])
omit [Dfr] in
theorem zgH {t:TypeId}{A B:AV C.D}(h:∀ id∈A.hid,S.heap id=T.heap id):Y1 P S t A B=Y1 P T t A B:=by
 unfold Y1
 split
 ·split
  ·cases A <;> first | rfl | (cases B <;> first | rfl | (simp only;rw [h _ (by simp [AV.hid])])) | skip
   rename_i id U i x
   cases x <;> cases B <;> first | rfl | (simp only;rw [XV (h _ (by simp [AV.hid]))])
  ·rfl
 ·rfl
omit [Dfr] in
theorem zjm {t:TypeId}{A:AV C.D}(h:∀ id∈A.hid,S.heap id=T.heap id):Xp P S t A=Xp P T t A:=by
 unfold Xp
 cases P.underlying t with
 |none=>rfl
 |some td=>
  cases A <;> first | rfl | (cases td <;> first | rfl | (simp only;rw [h _ (by simp [AV.hid])])) | skip
  rename_i id U i x
  cases x <;> cases td <;> first | rfl | (simp only;rw [XV (h _ (by simp [AV.hid]))])
omit [Dfr] in
theorem W5 {dflt:Int}{o:Option Operand}(h:∀ x,o=some x→S.op x=T.op x):Zn S dflt o=Zn T dflt o:=by
 cases o with
 |none=>rfl
 |some x=>simp only [Zn];rw [h x rfl]
omit [Dfr] in
theorem zgI {t:TypeId}{A:AV C.D}{lo hi:Option Operand}(h1:∀ x,lo=some x→S.op x=T.op x) (h2:∀ x,hi=some x→S.op x=T.op x):Ya P S t A lo hi=Ya P T t A lo hi:=by
 unfold Ya
 have e1:=fun dflt=>W5 (S:=S) (T:=T) (dflt:=dflt) h1
 have e2:=fun dflt=>W5 (S:=S) (T:=T) (dflt:=dflt) h2
 simp only [e1,e2]
omit [Dfr] in
theorem zh2 {l:List Operand}(h:∀ x∈l,S.op x=T.op x):l.map S.op=l.map T.op:=List.map_congr_left h
omit [Dfr] in
theorem zgJ {t:TypeId}{parts:List (Nat×Operand)}(h:∀ q∈parts,S.op q.2=T.op q.2):Xb P S t parts=Xb P T t parts:=by
 unfold Xb
 have:parts.map (fun q=>(q.1,S.op q.2))=parts.map fun q=>(q.1,T.op q.2):=List.map_congr_left fun q hq=>by rw [h q hq]
 rw [this]
omit [Dfr] in
theorem zfI {ty:TypeId}{op:Op}(hop:∀ x∈op.operands.toList,S.op x=T.op x) (hh:∀ id∈zcm S op,S.heap id=T.heap id):ZK P S ty op=ZK P T ty op:=by
 unfold ZK
 cases op
 case move x=>simp only;rw [hop x (by simp [Op.operands])]
 case assign x=>simp only;rw [hop x (by simp [Op.operands])]
 case pick c a e=>simp only;rw [hop c (by simp [Op.operands]),hop a (by simp [Op.operands]),hop e (by simp [Op.operands])]
 case nilCheck x=>simp only;rw [hop x (by simp [Op.operands])]
 case binOp bo t x y t'=>
  simp only
  unfold Yu
  rw [← hop x (by simp [Op.operands]),← hop y (by simp [Op.operands])]
  cases Z7 y with
  |true=>rfl
  |false=>
  simp only [cond_false]
  unfold xd
  simp only [zcm] at hh
  split
  ·rename_i id e
   rw [e] at hh
   rw [hh id (by simp)]
  ·rename_i id U i e
   rw [e] at hh
   split
   ·exact XV (hh id (by simp))
   ·rfl
  ·rfl
 case unOp u t x=>cases u <;> first | rfl | (simp only;rw [hop x (by simp [Op.operands])])
 case convert t t' x=>simp only;rw [hop x (by simp [Op.operands])]
 case makeFunc f fs caps=>
  cases f <;> first | rfl | skip
  simp only
  have hfs:=zh2 (l:=fs.toList) fun x hx=>hop x (by simp [Op.operands];exact .inl (by simpa using hx))
  unfold Wq
  generalize fs.toList=fl at hfs
  rw [zh2 (l:=caps.toList) fun x hx=>hop x (by simp [Op.operands];exact .inr (by simpa using hx))]
  cases fl with
  |nil=>rfl
  |cons y l=>simp only;rw [hfs]
 case makeInterface t x=>simp only;rw [hop x (by simp [Op.operands])]
 case extract x i=>simp only;rw [hop x (by simp [Op.operands])]
 case typeAssert x xt t ok=>simp only;rw [hop x (by simp [Op.operands])]
 case build t parts=>exact zgJ fun q hq=>hop q.2 (by simp [Op.operands];exact ⟨q.1,by simpa using hq⟩)
 case field t x m=>simp only;rw [hop x (by simp [Op.operands])]
 case fieldAddr t x m=>simp only;rw [hop x (by simp [Op.operands])]
 case indexAddr t x y=>
  simp only;rw [← hop x (by simp [Op.operands]),← hop y (by simp [Op.operands])]
  exact zgH hh
 case load t x=>
  simp only;rw [← hop x (by simp [Op.operands])]
  exact zh1 hh
 case index t x y=>simp only;rw [hop x (by simp [Op.operands]),hop y (by simp [Op.operands])]
 case slice t x lo hi mx=>
  cases mx with
  |some m=>rfl
  |none=>
   simp only;rw [← hop x (by simp [Op.operands])]
   exact zgI (fun y e=>hop y (by subst e;simp [Op.operands])) (fun y e=>hop y (by subst e;simp [Op.operands]))
 case call c=>
  obtain ⟨cal,args,ts⟩:=c
  cases cal
  case value c=>rfl
  case invoke r m=>rfl
  case builtin bi=>
   have ha:∀ x∈args.toList,S.op x=T.op x:=fun x hx=>hop x (by simp [Op.operands,Call.operands];simpa using hx)
   cases bi <;> first | rfl | skip
   case len=>
    simp only
    split
    ·rename_i x t e1 e2
     rw [e1] at ha
     rw [← ha x (by simp)]
     refine zjm fun id hid=>hh id ?_
     simp only [zcm,e1];exact hid
    ·rfl
   case min=>
    simp only
    split
    ·rename_i x y e1
     rw [e1] at ha
     rw [ha x (by simp),ha y (by simp)]
    ·rfl
   case max=>
    simp only
    split
    ·rename_i x y e1
     rw [e1] at ha
     rw [ha x (by simp),ha y (by simp)]
    ·rfl
 all_goals rfl
structure EqX (D:Nat→Prop) (S T:St C):Prop where
 heap:S.heap=T.heap
 env:∀ t,¬ D t→S.env t=T.env t
variable {D:Nat→Prop}
def zI (D:Nat→Prop):Option (Out C)→Option (Out C)→Prop
 |some (.go S),some (.go T)=>EqX D S T
 |some (.pan u S),some (.pan v T)=>u=v∧EqX D S T
 |none,none=>True
 |_,_=>False
omit [Dfr] in
theorem zI.go {S' T':St C}(h:EqX D S' T'):zI D (some (.go S')) (some (.go T')):=h
omit [Dfr] in
theorem zI.none:zI (C:=C) D none none:=trivial
omit [Dfr] in
theorem zI.chk {c:Bool}{x y:Option (Out C)}(h:zI D x y):zI D (chk c x) (chk c y):=by
 cases c with
 |true=>exact h
 |false=>trivial
omit [Dfr] in
theorem zI.bind {α:Type}{x:Option α}{f g:α→Option (Out C)}(h:∀ a,zI D (f a) (g a)):zI D (x.bind f) (x.bind g):=by
 cases x with
 |none=>trivial
 |some a=>exact h a
omit [Dfr] in
theorem EqX.refl (S:St C):EqX D S S:=⟨rfl,fun _ _=>rfl⟩
omit [Dfr] in
theorem EqX.put (h:EqX D S T) (d:Nat) (A:AV C.D) {hp:Nat→Option (Ent C)}:EqX D {env:=upd S.env d A,heap:=hp} {env:=upd T.env d A,heap:=hp}:=⟨rfl,fun t ht=>by
 show upd S.env d A t=upd T.env d A t
 unfold upd
 cases Nat.beq t d with
 |true=>rfl
 |false=>exact h.env t ht⟩
omit [Dfr] in
theorem EqX.sub (h:EqX D S T) (id:Nat) (R:AV C.D):EqX D (S.sub id R) (T.sub id R):=by
 refine ⟨?_,fun t ht=>?_⟩
 ·unfold St.sub;simp only;rw [h.heap]
 ·show AV.sub id R (S.env t)=AV.sub id R (T.env t);rw [h.env t ht]
omit [Dfr] in
theorem EqX.frz1 (h:EqX D S T) (id:Nat):EqX D (S.frz1 id) (T.frz1 id):=by
 unfold St.frz1
 rw [h.heap]
 split
 ·exact h.sub _ _
 ·rename_i T0 s g _
  cases g.rd with
  |true=>exact h.sub _ _
  |false=>exact h
 ·exact h
omit [Dfr] in
theorem EqX.frz:∀ (l:List Nat) {S T:St C},EqX D S T→EqX D (S.frz l) (T.frz l)
 |[],_,_,h=>h
 |id::r,_,_,h=>EqX.frz r (h.frz1 id)
omit [Dfr] in
theorem EqX.op (h:EqX D S T) {x:Operand}(hx:∀ t,x = .tmp t→¬ D t):S.op x=T.op x:=by
 cases x with
 |tmp t=>exact h.env t (hx t rfl)
 |const v=>rfl
 |global g=>rfl
 |func f=>rfl
def Xz (D:Nat→Prop) (l:List Operand):Prop:=∀ t,Operand.tmp t∈l→¬ D t
omit [Dfr] in
theorem EqX.ops (h:EqX D S T) {l:List Operand}(hl:Xz D l):∀ x∈l,S.op x=T.op x:=fun x hx=>h.op fun t e=>hl t (e ▸ hx)
omit [Dfr] in
theorem zfJ (h:EqX D S T) {d:Nat}{cs:List (AV C.D)}:zI D (WO S d cs) (WO T d cs):=by
 unfold WO
 rw [h.heap]
 exact .chk (h.put d _)
omit [Dfr] in
theorem zh3 (h:EqX D S T) {d:Nat}{t:TypeId}:zI D (YA P S d t) (YA P T d t):=by
 unfold YA
 split
 ·split
  ·split
   ·unfold zhP
    rw [h.heap]
    exact .chk (h.put d _)
   ·exact zfJ h
  ·trivial
 ·trivial
omit [Dfr] in
theorem zjn (h:EqX D S T) {d:Nat}{t:TypeId}{x y:Operand}(hx:S.op x=T.op x):zI D (xH P S d t x y) (xH P T d t x y):=by
 unfold xH
 rw [hx,h.heap]
 split
 ·split
  ·split
   ·exact .chk (.bind fun q =>.bind fun s=>h.put d _)
   ·trivial
  ·trivial
 ·trivial
omit [Dfr] in
theorem zcU {e:Nat}:∀ {l:List Operand},(∀ x∈l,S.op x=T.op x)→yj S e l=yj T e l
 |[],_=>rfl
 |x::r,h=>by
  unfold yj
  rw [h x (by simp),zcU fun y hy=>h y (List.mem_cons_of_mem _ hy)]
omit [Dfr] in
theorem zgK (h:EqX D S T) {d:Nat}{t:TypeId}{m:Nat}{parts:List (Nat×Operand)}(hp:Xz D (parts.map (·.2))):zI D (yM P S d t m parts) (yM P T d t m parts):=by
 unfold yM
 have e:parts.map (fun q=>S.op q.2)=parts.map fun q=>T.op q.2:=List.map_congr_left fun q hq=>h.ops hp _ (List.mem_map.2 ⟨q,hq,rfl⟩)
 rw [e]
 have h':=EqX.frz (AV.rowss (parts.map fun q=>T.op q.2)) h
 generalize S.frz _=S' at h' ⊢
 generalize T.frz _=T' at h' ⊢
 unfold yM.go
 have e2:=fun e=>zcU (e:=e) (h'.ops hp)
 simp only [h'.heap,e2]
 split
 ·split
  ·split
   ·exact .chk (.bind fun xs=>h'.put d _)
   ·trivial
  ·trivial
 ·trivial
omit [Dfr] in
theorem EqX.heap' (h:EqX D S T) {hp:Nat→Option (Ent C)}:EqX D {S with heap:=hp} {T with heap:=hp}:=⟨rfl,h.env⟩
omit [Dfr] in
theorem zh4 (h:EqX D S T) {t:TypeId}{x y:Operand}(hx:∀ t,x = .tmp t→¬ D t) (hy:∀ t,y = .tmp t→¬ D t):zI D (ZF P S t x y) (ZF P T t x y):=by
 unfold ZF
 have ex:=h.op hx
 have ey:=h.op hy
 rw [ex,ey,h.heap]
 split
 ·split
  ·exact .chk h.heap'
  ·trivial
 ·rename_i ti _ _ _ _ _ _
  have h':=EqX.frz (AV.rows (T.op y)) h
  have ex':=h'.op hx
  have ey':=h'.op hy
  generalize S.frz _=S' at h' ex' ey' ⊢
  generalize T.frz _=T' at h' ex' ey' ⊢
  unfold ZF.go
  rw [ex',ey',h'.heap]
  split
  ·split
   ·exact .chk (.bind fun q =>.bind fun q'=>h'.heap')
   ·trivial
  ·trivial
 ·trivial
omit [Dfr] in
theorem zfK (h:S.heap=T.heap) {e:Nat}{A:AV C.D}:XG S e A=XG T e A:=by
 unfold XG;rw [h]
omit [Dfr] in
theorem EqX.subRow (h:EqX D S T) (d id T':Nat) (s':Sl (C.D T')):EqX D {env:=upd (S.sub id .und).env d (.row (nid d 0)),heap:=upd (S.sub id .und).heap (nid d 0) (some (.row T' s'))} {env:=upd (T.sub id .und).env d (.row (nid d 0)),heap:=upd (T.sub id .und).heap (nid d 0) (some (.row T' s'))}:=by
 have:=h.sub id .und
 exact ⟨by show upd _ _ _=upd _ _ _;rw [this.heap],(this.put d _ (hp:=T.heap)).env⟩
omit [Dfr] in
theorem zbx (h:EqX D S T) {d:Nat}{t:TypeId}{x y:Operand}(hx:S.op x=T.op x) (hy:S.op y=T.op y):zI D (Z2 P S d t x y) (Z2 P T d t x y):=by
 unfold Z2
 have e:=fun e A=>zfK (e:=e) (A:=A) h.heap
 simp only [hx,hy,h.heap,e]
 split
 ·split
  ·split
   ·refine .chk ?_
    split
    ·split
     ·exact .chk (.bind fun ts =>.bind fun s'=>EqX.subRow h _ _ _ _)
     ·trivial
    ·exact .bind fun ts =>.bind fun s'=>h.put d _
    ·trivial
   ·trivial
  ·trivial
 ·trivial
omit [Dfr] in
theorem zcV (h:EqX D S T) {d:Nat}{t:TypeId}{x:Operand}{hi mx:Option Operand}(hx:S.op x=T.op x) (h1:∀ y,hi=some y→S.op y=T.op y) (h2:∀ y,mx=some y→S.op y=T.op y):zI D (yg P S d t x hi mx) (yg P T d t x hi mx):=by
 unfold yg
 have e1:=fun dflt=>W5 (S:=S) (T:=T) (dflt:=dflt) h1
 have hs:=fun id T' s'=>EqX.subRow h d id T' s'
 rw [hx]
 simp only [h.heap,e1]
 split
 ·split
  ·split
   ·split
    ·refine .chk ?_
     split
     ·split
      ·exact .bind fun s'=>hs _ _ _
      ·trivial
     ·rename_i hh m
      rw [h1 hh rfl,h2 m rfl]
      cases isZ hh && isZ m with
      |true=>exact h.put d _
      |false=>
       simp only [cond_false]
       split
       ·exact .chk (.bind fun s'=>hs _ _ _)
       ·trivial
     ·trivial
    ·trivial
   ·refine .chk ?_
    split
    ·exact .chk (h.put d _)
    ·trivial
   ·trivial
  ·trivial
 ·trivial
end
end Go.Px
namespace Go.Px
set_option linter.unusedSectionVars false
variable [Dfr]
set_option linter.unusedVariables false
section
variable {C:Cod}{S T:St C}{P:Program}{D:Nat→Prop}
omit [Dfr] in
theorem EqX.owk (h:EqX D S T) (id:Nat) (e:Ent C):EqX D (S.owk id e) (T.owk id e):=by
 refine ⟨?_,fun t ht=>?_⟩
 ·unfold St.owk;simp only;rw [h.heap]
 ·show AV.knx _ (S.env t)=AV.knx _ (T.env t);rw [h.env t ht]
omit [Dfr] in
theorem EqX.newE (h:EqX D S T) (d i:Nat) (A:AV C.D) (e:Option (Ent C)):EqX D {env:=upd S.env d A,heap:=upd S.heap i e} {env:=upd T.env d A,heap:=upd T.heap i e}:=by
 rw [h.heap];exact h.put d A
omit [Dfr] in
theorem zfL (h:EqX D S T) {id T0:Nat}{s:Sl (C.D T0)}{g:Own}{i:Int}{off:Nat}{cells:List (AV C.D)}:zI D (xl S id T0 s g i off cells some) (xl T id T0 s g i off cells some):=by
 unfold xl
 simp only [Xu]
 split
 ·rw [h.heap]
  split
  ·exact .chk (.bind fun q =>.bind fun g' =>.bind fun q'=>(h.sub _ _).owk _ _)
  ·trivial
 ·refine .bind fun q=>?_
  split
  ·exact .bind fun g' =>.bind fun q'=>h.owk _ _
  ·trivial
 ·trivial
omit [Dfr] in
theorem zln {ti:TypeInfo}{y:Operand}{off N:Nat}(hy:S.op y=T.op y):ww S ti y off N=ww T ti y off N:=by unfold ww;rw [hy]
omit [Dfr] in
theorem zgL (h:EqX D S T) {t:TypeId}{x y:Operand}(hx:S.op x=T.op x) (hy:S.op y=T.op y):zI D (Yn P S t x y) (Yn P T t x y):=by
 have e1:=fun ti off N=>zln (S:=S) (T:=T) (ti:=ti) (y:=y) (off:=off) (N:=N) hy
 unfold Yn YV
 rw [hx,hy,h.heap]
 simp only [e1]
 split
 ·split
  ·refine .chk ?_
   cases Yy _ _ _ with
   |true=>exact zfL h
   |false=>exact .bind fun q =>.bind fun q'=>⟨rfl,h.env⟩
  ·exact .chk (zfL h)
  ·trivial
 ·split
  ·refine .chk (.bind fun q=>?_)
   split
   ·exact .chk (.bind fun y0 =>.bind fun y1 =>.bind fun q'=>⟨rfl,h.env⟩)
   ·trivial
  ·trivial
 ·trivial
omit [Dfr] in
theorem zh5 (h:EqX D S T) {t:TypeId}{x:Operand}(hx:S.op x=T.op x):zI D (Y8 P S t x) (Y8 P T t x):=by
 unfold Y8 xx
 rw [hx,h.heap]
 split
 ·split
  ·split
   ·split
    ·split
     ·exact .chk (.bind fun q=>⟨rfl,h.env⟩)
     ·trivial
    ·split
     ·refine .chk (.bind fun q=>?_)
      split
      ·exact .chk (.bind fun z =>.bind fun q'=>⟨rfl,h.env⟩)
      ·trivial
     ·trivial
    ·trivial
   ·trivial
  ·trivial
 ·trivial
omit [Dfr] in
theorem zlo (h:EqX D S T) {tx id T0:Nat}{i:Int}{gid:Nat}{K K':St C→Option (Out C)}(hK:∀ S1 T1,EqX D S1 T1→(∀ z,(∀ t,z = .tmp t→t=tx∨¬ D t)→S1.op z=T1.op z)→zI D (K S1) (K' T1)):zI D (xS S tx id T0 i gid K) (xS T tx id T0 i gid K'):=by
 unfold xS
 rw [h.heap]
 split
 ·refine .chk (.bind fun q=>?_)
  split
  ·refine hK _ _ (h.put tx _) fun z hz=>?_
   cases z with
   |tmp t=>
    show upd S.env tx _ t=upd T.env tx _ t
    unfold upd
    cases e:Nat.beq t tx with
    |true=>rfl
    |false=>
     simp only [cond_false]
     rcases hz t rfl with z | z
     ·subst z;simp at e
     ·exact h.env t z
   |const v=>rfl
   |global g=>rfl
   |func f=>rfl
  ·trivial
 ·trivial
omit [Dfr] in
theorem zjo (h:EqX D S T) {d:Nat}{t:TypeId}{x y:Operand}(hx:∀ t,x = .tmp t→¬ D t) (hy:∀ t,y = .tmp t→¬ D t):zI D (xT P S d t x y) (xT P T d t x y):=by
 unfold xT
 cases x with
 |tmp tx=>
  simp only
  rw [h.env tx (hx tx rfl)]
  split
  ·exact zlo h fun S1 T1 h1 hz=>zbx h1 (hz _ fun t e =>.inr (hx t e)) (hz _ fun t e =>.inr (hy t e))
  ·trivial
 |const v=>trivial
 |global g=>trivial
 |func f=>trivial
omit [Dfr] in
theorem zjp (h:EqX D S T) {d:Nat}{t:TypeId}{x y:Operand}(hx:S.op x=T.op x) (hy:S.op y=T.op y):zI D (xU P S d t x y) (xU P T d t x y):=by
 have hs:=fun id id2 (e:Option (Ent C))=>((h.sub id .und).sub id2 .und).newE d (nid d 0) (.row (nid d 0)) e
 have hs2:=fun id2 (e:Option (Ent C))=>(h.sub id2 .und).newE d (nid d 0) (.row (nid d 0)) e
 unfold xU Xl
 rw [hx,hy]
 rw [show isNone (S.heap (nid d 0))=isNone (T.heap (nid d 0)) by rw [h.heap]]
 split
 ·split
  ·split
   ·refine .chk ?_
    split
    ·rw [h.heap]
     split
     ·split
      ·split
       ·exact .chk (.bind fun ts =>.bind fun s'=>hs _ _ _)
       ·trivial
      ·exact .bind fun ts =>.bind fun s'=>hs2 _ _
      ·trivial
     ·trivial
    ·trivial
   ·trivial
  ·trivial
 ·trivial
omit [Dfr] in
theorem zgM (h:EqX D S T) {d:Nat}{t:TypeId}{y:Operand}(hy:S.op y=T.op y):zI D (Yp P S d t y) (Yp P T d t y):=by
 have hs2:=fun id2 (e:Option (Ent C))=>(h.sub id2 .und).newE d (nid d 0) (.row (nid d 0)) e
 unfold Yp YX
 rw [hy]
 rw [show isNone (S.heap (nid d 0))=isNone (T.heap (nid d 0)) by rw [h.heap]]
 split
 ·split
  ·split
   ·refine .chk ?_
    split
    ·rw [show ∀ i,S.heap i=T.heap i from fun i=>by rw [h.heap]]
     split
     ·exact .bind fun q=>hs2 _ _
     ·trivial
    ·trivial
   ·trivial
  ·trivial
 ·trivial
omit [Dfr] in
theorem zh6 (h:EqX D S T) {d:Nat}{t:TypeId}{x y:Operand}(hx:S.op x=T.op x):zI D (Y6 P S d t x y) (Y6 P T d t x y):=by
 unfold Y6 xv
 rw [hx,h.heap]
 split
 ·split
  ·split
   ·refine .chk ?_
    split
    ·refine .bind fun q=>?_
     split
     ·exact .chk (.bind fun s=>h.put d _)
     ·trivial
    ·trivial
   ·trivial
  ·trivial
 ·trivial
omit [Dfr] in
theorem zh7 (h:EqX D S T) {d:Nat}{t:TypeId}{x hi mx:Operand}(hx:S.op x=T.op x) (h1:S.op hi=T.op hi) (h2:S.op mx=T.op mx):zI D (Y7 P S d t x hi mx) (Y7 P T d t x hi mx):=by
 have hs2:=fun id2 (e:Option (Ent C))=>(h.sub id2 .und).newE d (nid d 0) (.row (nid d 0)) e
 unfold Y7 xw
 rw [hx,h1,h2]
 rw [show isNone (S.heap (nid d 0))=isNone (T.heap (nid d 0)) by rw [h.heap]]
 split
 ·split
  ·split
   ·rw [show ∀ i,S.heap i=T.heap i from fun i=>by rw [h.heap]]
    split
    ·refine .chk ?_
     split
     ·exact .chk (.bind fun s'=>hs2 _ _)
     ·trivial
    ·trivial
   ·trivial
  ·trivial
 ·trivial
omit [Dfr] in
theorem zlp (h:S.heap=T.heap) {x y:Operand}(hx:S.op x=T.op x) (hy:S.op y=T.op y):zaZ S x y=zaZ T x y:=by unfold zaZ;rw [h,hx,hy]
omit [Dfr] in
theorem zlq {x:Operand}(hx:S.op x=T.op x):zaY S x=zaY T x:=by unfold zaY;rw [hx]
omit [Dfr] in
theorem zh8 (h:S.heap=T.heap) {x:Operand}(hx:S.op x=T.op x):isO S x=isO T x:=by unfold isO;rw [h,hx]
omit [Dfr] in
theorem zlr (h:EqX D S T) {dst:Option Nat}{op:Op}(hf:Xz D op.operands.toList):yV P S dst op=yV P T dst op∧∀ k,yV P T dst op=some k→zI D (xV P S k) (xV P T k):=by
 have hop:=h.ops hf
 unfold yV
 split
 ·rename_i t x y
  have hx:=hop x (by simp [Op.operands])
  have hy:=hop y (by simp [Op.operands])
  rw [zlp h.heap hx hy]
  refine ⟨rfl,fun k hk=>?_⟩
  cases hc:zaZ T x y with
  |false=>rw [hc] at hk;cases hk
  |true=>rw [hc] at hk;cases hk;exact zgL h hx hy
 ·rename_i args ts
  refine ⟨rfl,fun k hk=>?_⟩
  split at hk
  ·rename_i x t e1 e2
   cases hk
   exact zh5 h (hop x (by simp [Op.operands,Call.operands];rw [← Array.mem_toList_iff,e1];simp))
  ·cases hk
 ·rename_i d args ts
  split
  ·rename_i x y t t' e1 e2
   have mx:x∈(Op.operands (.call ⟨.builtin .append,args,ts⟩)).toList:=by simp [Op.operands,Call.operands];rw [← Array.mem_toList_iff,e1];simp
   have my:y∈(Op.operands (.call ⟨.builtin .append,args,ts⟩)).toList:=by simp [Op.operands,Call.operands];rw [← Array.mem_toList_iff,e1];simp
   have hx:=hop x mx
   have hy:=hop y my
   rw [zlq hx,zh8 h.heap hy]
   refine ⟨rfl,fun k hk=>?_⟩
   cases hc:zaY T x with
   |true=>
    rw [hc] at hk;cases hk
    exact .chk (zjo h (fun t e=>hf t (e ▸ mx)) (fun t e=>hf t (e ▸ my)))
   |false=>
    rw [hc,cond_false] at hk
    cases hc2:isO T y with
    |true=>rw [hc2] at hk;cases hk;exact .chk (zjp h hx hy)
    |false=>rw [hc2] at hk;cases hk
  ·exact ⟨rfl,fun k hk=>by cases hk⟩
 ·rename_i d t m parts
  split
  ·rename_i i y e1
   have hy:=hop y (by simp [Op.operands];exact ⟨i,by rw [← Array.mem_toList_iff,e1];simp⟩)
   rw [hy]
   refine ⟨rfl,fun k hk=>?_⟩
   cases hc:(C.own (yA P t) && Vm (zo (T.op y)) (C.nst (yA P t))) with
   |true=>rw [hc] at hk;cases hk;exact .chk (zgM h hy)
   |false=>rw [hc] at hk;cases hk
  ·exact ⟨rfl,fun k hk=>by cases hk⟩
 ·rename_i d t x y
  refine ⟨rfl,fun k hk=>?_⟩
  cases hc:C.own (yA P t) with
  |true=>rw [hc] at hk;cases hk;exact zh6 h (hop x (by simp [Op.operands]))
  |false=>rw [hc] at hk;cases hk
 ·rename_i d t x hi mx
  have hx:=hop x (by simp [Op.operands])
  rw [zh8 h.heap hx]
  refine ⟨rfl,fun k hk=>?_⟩
  cases hc:isO T x with
  |true=>rw [hc] at hk;cases hk;exact zh7 h hx (hop hi (by simp [Op.operands])) (hop mx (by simp [Op.operands]))
  |false=>rw [hc] at hk;cases hk
 ·exact ⟨rfl,fun k hk=>by cases hk⟩
end
end Go.Px
namespace Go.Px
set_option linter.unusedSectionVars false
variable [Dfr]
set_option linter.unusedVariables false
section
variable {C:Cod}{S T:St C}{P:Program}{D:Nat→Prop}
def XA (D:Nat→Prop) (ts:List (Nat×Sh)):Prop:=∀ q∈ts,¬ D q.1
omit [Dfr] in
theorem zkE (h:EqX D S T):∀ {ts:List (Nat×Sh)},XA D ts→fzT S ts=fzT T ts
 |[],_=>rfl
 |(t,s)::ts,hf=>by
  unfold fzT
  rw [h.env t (hf (t,s) (by simp)),zkE h fun q hq=>hf q (List.mem_cons_of_mem _ hq)]
omit [Dfr] in
theorem v8 {es:List ESh}:∀ (ts:List (Nat×Sh)) {S T:St C},EqX D S T→XA D ts→EqX D (nilT es ts S) (nilT es ts T)
 |[],S,T,h,_=>h
 |(t,s)::ts,S,T,h,hf=>by
  unfold nilT
  rw [h.env t (hf (t,s) (by simp)),h.heap]
  have hf':XA D ts:=fun q hq=>hf q (List.mem_cons_of_mem _ hq)
  split
  ·split
   ·cases isNone (T.heap _) with
    |true=>exact v8 ts (h.put t _) hf'
    |false=>exact v8 ts h hf'
   ·exact v8 ts h hf'
  ·exact v8 ts h hf'
omit [Dfr] in
theorem zaQ (h:S.heap=T.heap) {bl:Bl}:XB S bl=XB T bl:=by
 funext k;unfold XB;rw [h]
omit [Dfr] in
theorem zfM (h:EqX D S T):∀ {ts:List (Nat×Sh)}{bl:Bl},XA D ts→zbL S ts bl=zbL T ts bl
 |[],bl,_=>rfl
 |(t,s)::ts,bl,hf=>by
  unfold zbL
  rw [h.env t (hf (t,s) (by simp)),zfM h fun q hq=>hf q (List.mem_cons_of_mem _ hq)]
omit [Dfr] in
theorem zfN (h:S.heap=T.heap):∀ {es:List ESh}{k:Nat}{bl:Bl},zbM S es k bl=zbM T es k bl
 |[],k,bl=>rfl
 |e::es,k,bl=>by
  unfold zbM
  rw [zaQ h,zfN h]
omit [Dfr] in
theorem wK (h:EqX D S T) {g:Sig}{m:Nat}(hf:XA D g.ts):z8 g m S=z8 g m T:=by
 unfold z8
 rw [zfM h hf,zfN h.heap]
omit [Dfr] in
theorem zkF (h:S.heap=T.heap) {bl:Bl}:∀ {es:List ESh}{k:Nat},fzE S bl es k=fzE T bl es k
 |[],k=>rfl
 |e::es,k=>by
  unfold fzE
  rw [zaQ h,zkF h]
omit [Dfr] in
theorem zl2 (h:EqX D S T) {es:List ESh}{id p:Nat}{s:Sh}:EqX D (nil1 es id s p S) (nil1 es id s p T):=by
 unfold nil1
 rw [h.heap]
 split
 ·split
  ·cases isNone (T.heap _) with
   |true=>exact h.heap'
   |false=>exact h
  ·exact h
 ·exact h
omit [Dfr] in
theorem zh9 {es:List ESh}{id:Nat}:∀ (l:List Sh) (p:Nat) {S T:St C},EqX D S T→EqX D (nilC es id l p S) (nilC es id l p T)
 |[],p,S,T,h=>h
 |s::l,p,S,T,h=>zh9 l _ (zl2 h)
omit [Dfr] in
theorem zia {all:List ESh}{bl:Bl}:∀ (es:List ESh) (k:Nat) {S T:St C},EqX D S T→EqX D (nilE all bl es k S) (nilE all bl es k T)
 |[],k,S,T,h=>h
 |e::es,k,S,T,h=>by
  refine zia es _ ?_
  unfold zbN
  split
  ·exact zh9 _ 0 h
  ·exact h
omit [Dfr] in
theorem zib (h:EqX D S T) {g:Sig}{m:Nat}(hf:XA D g.ts):EqX D (g.prep m S) (g.prep m T):=by
 unfold Sig.prep
 rw [zkE h hf]
 have h':=v8 (es:=g.es) g.ts (EqX.frz (fzT T g.ts) h) hf
 generalize nilT g.es g.ts (S.frz _)=S' at h' ⊢
 generalize nilT g.es g.ts (T.frz _)=T' at h' ⊢
 simp only
 rw [wK h' hf]
 have h2:=zia (all:=g.es) (bl:=z8 g m T') g.es 0 h'
 generalize nilE g.es _ g.es 0 S'=S2 at h2 ⊢
 generalize nilE g.es _ g.es 0 T'=T2 at h2 ⊢
 rw [wK h2 hf,zkF h2.heap]
 exact EqX.frz _ h2
omit [Dfr] in
theorem zic (h:S.heap=T.heap) {m:Nat}:∀ {es:List ESh}{k:Nat},zaX S m es k=zaX T m es k
 |[],_=>rfl
 |e::es,k=>by unfold zaX;rw [h,zic h]
omit [Dfr] in
theorem zek (h:EqX D S T) {g:Sig}{m:Nat}{bl:Bl}(hf:XA D g.ts):yH g m S bl=yH g m T bl:=by
 unfold yH
 rw [zic h.heap,zaQ h.heap,show g.ts.map (fun t=>S.env t.1)=g.ts.map fun t=>T.env t.1 from List.map_congr_left fun q hq=>h.env _ (hf q hq)]
omit [Dfr] in
theorem zid (h:EqX D S T) (As:List (AV C.D)):EqX D (virt S As) (virt T As):=⟨h.heap,fun t ht=>by
 show (bif Nat.blt t vB then S.env t else _)=(bif Nat.blt t vB then T.env t else _)
 rw [h.env t ht]⟩
omit [Dfr] in
theorem zel (h:EqX D S T):EqX D (unvirt S) (unvirt T):=⟨h.heap,fun t ht=>by
 show (bif Nat.blt t vB then S.env t else _)=(bif Nat.blt t vB then T.env t else _)
 rw [h.env t ht]⟩
omit [Dfr] in
theorem zfO (h:EqX D S T):EqX (fun t=>D (vB+t)) (yU S) (yU T):=⟨h.heap,fun t ht=>h.env _ ht⟩
omit [Dfr] in
theorem zby (hD:∀ t,D t→t < vB) {g:Sig}:XA D g.shift.ts:=fun q hq=>by
 obtain ⟨p,hp,rfl⟩:=List.mem_map.1 hq
 intro hd
 have:=hD _ hd
 simp only at this;omega
def zdw (D:Nat→Prop) {ins:Sig}:Option (St C×Bl×ins.ty C)→Option (St C×Bl×ins.ty C)→Prop
 |some (S,bl,x),some (T,bl',x')=>EqX D S T∧bl=bl'∧x=x'
 |none,none=>True
 |_,_=>False
omit [Dfr] in
theorem zie (hp0:EqX D S T) (hD:∀ t,D t→t < vB) {ins:Sig}{N:Nat}:zdw D (yx ins S N) (yx ins T N):=by
 unfold yx
 have hf:=zby hD (g:=ins)
 have hp:=zib hp0 (g:=ins.shift) (m:=0) hf
 have hb:=wK hp (g:=ins.shift) (m:=0) hf
 have hg:∀ bl,yH ins 0 (yU (ins.shift.prep 0 S)) bl=yH ins 0 (yU (ins.shift.prep 0 T)) bl:=fun bl=>zek (zfO hp) fun q hq hd=>by
  have:=hD _ hd;omega
 simp only [hb,hg]
 cases Nat.beq N ins.ts.length && Nat.ble ins.es.length 64 with
 |false=>trivial
 |true=>
  show zdw D (Option.map _ _) (Option.map _ _)
  cases yH ins 0 (yU (ins.shift.prep 0 T)) (z8 ins.shift 0 (ins.shift.prep 0 T)) with
  |none=>trivial
  |some x=>exact ⟨hp,rfl,rfl⟩
omit [Dfr] in
theorem zjq (h:EqX D S T) (hD:∀ t,D t→t < vB) {ins:Sig}{As:List (AV C.D)}:zdw D (yE ins S As) (yE ins T As):=by
 unfold yE
 have hv:=zid h As
 have hf:=zby hD (g:=ins)
 have hp:=zib hv (g:=ins.shift) (m:=0) hf
 have hb:=wK hp (g:=ins.shift) (m:=0) hf
 have hg:∀ bl,yH ins 0 (yU (ins.shift.prep 0 (virt S As))) bl=yH ins 0 (yU (ins.shift.prep 0 (virt T As))) bl:=fun bl=>zek (zfO hp) fun q hq hd=>by
  have:=hD _ hd;omega
 simp only [hb,hg]
 cases Nat.beq As.length ins.ts.length && Nat.ble ins.es.length 64 with
 |false=>trivial
 |true=>
  show zdw D (Option.map _ _) (Option.map _ _)
  cases yH ins 0 (yU (ins.shift.prep 0 (virt T As))) (z8 ins.shift 0 (ins.shift.prep 0 (virt T As))) with
  |none=>trivial
  |some x=>exact ⟨hp,rfl,rfl⟩
omit [Dfr] in
theorem zcW (h:EqX D S T) {Sr:St C}{d:Nat}{bl:Bl}{es:List ESh}:EqX D (zZ S Sr d bl es) (zZ T Sr d bl es):=by
 refine ⟨?_,fun t ht=>?_⟩
 ·unfold zZ;simp only;rw [h.heap]
 ·show AV.kill _ (AV.knx _ (S.env t))=AV.kill _ (AV.knx _ (T.env t));rw [h.env t ht]
omit [Dfr] in
theorem zaR (h:S.heap=T.heap) {Sr:St C}{d:Nat}{bl:Bl}:∀ {k:Nat},wj S Sr d bl k=wj T Sr d bl k
 |0=>rfl
 |k+1=>by unfold wj;rw [h,zaR h]
omit [Dfr] in
theorem v9 {outs:List (XK×Sig)}{r:zk C outs}{f g:XE C→St C→Option (Out C)}(h:∀ e Sr,zI D (f e Sr) (g e Sr)):zI D (zO outs r f) (zO outs r g):=by
 have hf:zO outs r (fun _ _=>True):=by
  revert r
  induction outs with
  |nil=>intro r;exact r.elim
  |cons o l ih=>
   have one:∀ y:XK.ty C o.1 o.2,yI o.1 o.2 y (fun _ _=>True):=fun y=>by
    obtain ⟨k,g⟩:=o;cases k <;> trivial
   cases l with
   |nil=>intro r;exact one r
   |cons o2 l=>
    intro r
    cases r with
    |inl a=>exact one a
    |inr y=>exact ih (r:=y)
 revert r
 induction outs with
 |nil=>intro r;exact r.elim
 |cons o l ih=>
  have one:∀ y:XK.ty C o.1 o.2,zI D (yI o.1 o.2 y f) (yI o.1 o.2 y g):=fun y=>by
   obtain ⟨k,sg⟩:=o;cases k <;> exact h _ _
  cases l with
  |nil=>intro r _;exact one r
  |cons o2 l=>
   intro r hr
   cases r with
   |inl a=>exact one a
   |inr y=>exact ih (r:=y) hr
omit [Dfr] in
theorem zif (h:EqX D S T) {s:Spec C}{d:Nat}{bl:Bl}{x:s.ins.ty C}:zI D (Yf s d S bl x) (Yf s d T bl x):=by
 unfold Yf
 refine .bind fun r =>.chk (v9 fun e Sr=>?_)
 unfold xM
 rw [zaR h.heap]
 refine .chk ?_
 have hm:=zel (zcW h (Sr:=Sr) (d:=d) (bl:=bl) (es:=ZA s.outs r))
 cases e with
 |ret=>exact ⟨hm.heap,(hm.put d _ (hp:=fun _=>none)).env⟩
 |pan A=>exact ⟨rfl,hm⟩
 |normal=>trivial
 |exit i=>trivial
omit [Dfr] in
theorem zcX (h:EqX D S T) {s:Spec C}{d:Nat}{x:s.ins.ty C}:zI D (ZN s d S x) (ZN s d T x):=by
 unfold ZN
 refine .bind fun r=>v9 fun e Sr =>.chk ?_
 unfold xM
 rw [zaR h.heap]
 refine .chk ?_
 have hm:=zel (zcW h (Sr:=Sr) (d:=d) (bl:=[]) (es:=ZA s.outs r))
 cases e with
 |ret=>exact ⟨hm.heap,(hm.put d _ (hp:=fun _=>none)).env⟩
 |pan A=>exact ⟨rfl,hm⟩
 |normal=>trivial
 |exit i=>trivial
omit [Dfr] in
theorem zcY (h:EqX D S T) {s:Spec C}{d:Nat}{x:s.ins.ty C}:zI D (ZX s d S x) (ZX s d T x):=by
 unfold ZX
 refine .chk (.bind fun r=>v9 fun e Sr=>?_)
 unfold Wt
 cases e with
 |ret=>exact .chk ⟨h.heap,(h.put d _ (hp:=fun _=>none)).env⟩
 |pan A=>exact .chk ⟨rfl,h⟩
 |normal=>trivial
 |exit i=>trivial
omit [Dfr] in
theorem zgN {α:Type}(h:S.heap=T.heap) {id T0:Nat}{i:Int}{K:(U:Nat)→Sl (C.D U)→Option α}:zK S id T0 i K=zK T id T0 i K:=by
 unfold zK;rw [h]
omit [Dfr] in
mutual
theorem zl3 {α:Type}(h:S.heap=T.heap):∀ {A:AV C.D}{K:AV C.D→Option α},XJ S A K=XJ T A K
 | .nx id T i .whole,K=>zgN h
 | .agg cs,K=>zcn h (As:=cs)
 | .nx _ _ _ (.part _ _ _),K=>rfl
 | .nx _ _ _ (.elem _ _ _),K=>rfl
 | .int _ _,K=>rfl
 | .bool _,K=>rfl
 | .str _,K=>rfl
 | .tup _,K=>rfl
 | .sl _ _ _,K=>rfl
 | .row _,K=>rfl
 | .pc _ _,K=>rfl
 | .pr _ _ _ _,K=>rfl
 | .pz _ _ _,K=>rfl
 | .pnil,K=>rfl
 | .nils,K=>rfl
 | .clo _ _,K=>rfl
 | .nilf,K=>rfl
 | .ifc _ _,K=>rfl
 | .nili,K=>rfl
 | .und,K=>rfl
theorem zcn {α:Type}(h:S.heap=T.heap):∀ {As:List (AV C.D)}{K:List (AV C.D)→Option α},xN S As K=xN T As K
 |[],K=>rfl
 |A::As,K=>by
  show XJ S A _=XJ T A _
  rw [zl3 h (A:=A)]
  congr 1;funext B
  exact zcn h (As:=As)
end
omit [Dfr] in
mutual
theorem zl4:∀ {A:AV C.D}{f g:AV C.D→Option (Out C)},(∀ B,zI D (f B) (g B))→zI D (XJ T A f) (XJ T A g)
 | .nx id T0 i .whole,f,g,h=>by
  show zI D (zK T id T0 i _) (zK T id T0 i _)
  unfold zK
  split
  ·refine .chk (.bind fun q=>?_)
   split
   ·exact h _
   ·trivial
  ·trivial
 | .agg cs,f,g,h=>zco (As:=cs) fun Bs=>h _
 | .nx _ _ _ (.part _ _ _),f,g,h=>h _
 | .nx _ _ _ (.elem _ _ _),f,g,h=>h _
 | .int _ _,f,g,h=>h _
 | .bool _,f,g,h=>h _
 | .str _,f,g,h=>h _
 | .tup _,f,g,h=>h _
 | .sl _ _ _,f,g,h=>h _
 | .row _,f,g,h=>h _
 | .pc _ _,f,g,h=>h _
 | .pr _ _ _ _,f,g,h=>h _
 | .pz _ _ _,f,g,h=>h _
 | .pnil,f,g,h=>h _
 | .nils,f,g,h=>h _
 | .clo _ _,f,g,h=>h _
 | .nilf,f,g,h=>h _
 | .ifc _ _,f,g,h=>h _
 | .nili,f,g,h=>h _
 | .und,f,g,h=>h _
theorem zco:∀ {As:List (AV C.D)}{f g:List (AV C.D)→Option (Out C)},(∀ Bs,zI D (f Bs) (g Bs))→zI D (xN T As f) (xN T As g)
 |[],f,g,h=>h _
 |A::As,f,g,h=>zl4 (A:=A) fun B=>zco (As:=As) fun Bs=>h _
end
omit [Dfr] in
theorem zls (h:EqX D S T) (hD:∀ t,D t→t < vB) (As Bs:List (AV C.D)):EqX D (zbs S As Bs) (zbs T As Bs):=by
 have h1:=EqX.frz (AV.nxss As) (zid h As)
 refine ⟨h1.heap,fun t ht=>?_⟩
 show (bif Nat.blt t vB then _ else match Wb As Bs (t - vB) with | some B=>B | none=>_)=(bif Nat.blt t vB then _ else match Wb As Bs (t - vB) with | some B=>B | none=>_)
 rw [h1.env t ht]
omit [Dfr] in
theorem zcp (hD:∀ t,D t→t < vB):∀ {ts:List (Nat×Sh)}{S T:St C}{f g:St C→Option (Out C)},EqX D S T→(∀ S1 T1,EqX D S1 T1→zI D (f S1) (g T1))→zI D (xk ts S f) (xk ts T g)
 |[],S,T,f,g,h,k=>k _ _ h
 |(t,s)::ts,S,T,f,g,h,k=>by
  unfold xk
  have hn:¬ D (vB+t):=fun hd=>by have:=hD _ hd;omega
  have hc:∀ id,YS S id=YS T id:=fun id=>by unfold YS;rw [h.heap]
  rw [h.env _ hn]
  split
  ·rename_i T0 o id off _
   rw [hc]
   have h1:=EqX.frz (YS T id) h
   rw [h1.heap]
   split
   ·refine .bind fun q=>zcp hD ?_ k
    have h2:=h1.sub id .und
    rw [h2.heap]
    exact h2.put (vB+t) _
   ·trivial
  ·exact zcp hD h k
omit [Dfr] in
theorem zcZ (h:EqX D S T) (hD:∀ t,D t→t < vB) {d f:Nat}{As:List (AV C.D)}:∀ {Γ:List (Spec C)},zI D (Yg Γ S d f As) (Yg Γ T d f As)
 |[]=>trivial
 |s::Γ=>by
  unfold Yg
  cases (Nat.beq s.f f && (s.view || s.viewO)) with
  |false=>exact zcZ h hD
  |true=>
   simp only [cond_true]
   rw [zcn h.heap]
   refine zco fun Bs =>.chk (zcp hD (zls h hD As Bs) fun S1 T1 h1=>?_)
   have hl:=zie h1 hD (ins:=s.ins) (N:=As.length)
   generalize yx s.ins S1 As.length=a at hl
   generalize yx s.ins T1 As.length=b at hl
   match a,b,hl with
   |none,none,_=>trivial
   |some (S2,bl,x),some (T2,_,_),⟨h2,rfl,rfl⟩=>
    show zI D (bif s.view then ZX s d S x else ZN s d S x) (bif s.view then ZX s d T x else ZN s d T x)
    cases s.view with
    |true=>exact zcY h
    |false=>exact zcX h
omit [Dfr] in
theorem Va (h:EqX D S T) (hD:∀ t,D t→t < vB) {Γ0:List (Spec C)}{d f:Nat}{As:List (AV C.D)}:∀ {Γ:List (Spec C)},zI D (yy Γ0 Γ S d f As) (yy Γ0 Γ T d f As)
 |[]=>zcZ h hD
 |s::Γ=>by
  unfold yy
  cases Nat.beq s.f f with
  |false=>exact Va h hD
  |true=>
   simp only [cond_true]
   have hl:=zjq h hD (ins:=s.ins) (As:=As)
   generalize yE s.ins S As=a at hl
   generalize yE s.ins T As=b at hl
   match a,b,hl with
   |none,none,_=>exact Va h hD
   |some (S2,bl,x),some (T2,_,_),⟨h2,rfl,rfl⟩=>
    show zI D (bif s.view then ZX s d S x else bif s.viewO then ZN s d S x else Yf s d S2 bl x) (bif s.view then ZX s d T x else bif s.viewO then ZN s d T x else Yf s d T2 bl x)
    cases s.view with
    |true=>exact zcY h
    |false=>
     cases s.viewO with
     |true=>exact zcX h
     |false=>exact zif h2
omit [Dfr] in
theorem zjr (h:EqX D S T) (hD:∀ t,D t→t < vB) {d f:Nat}{As:List (AV C.D)}{Γ:List (Spec C)}:zI D (wl Γ S d f As) (wl Γ T d f As):=Va h hD
omit [Dfr] in
theorem zbz (h:EqX D S T) {ty:TypeId}{op:Op}(hf:Xz D op.operands.toList):ZK P S ty op=ZK P T ty op:=zfI (h.ops hf) fun id _=>by rw [h.heap]
omit [Dfr] in
theorem zI.map {x:Option (AV C.D)}{d:Nat}(h:EqX D S T):zI D (x.map fun A =>.go (S.put d A)) (x.map fun A =>.go (T.put d A)):=by
 cases x with
 |none=>trivial
 |some A=>exact ⟨h.heap,(h.put d A (hp:=fun _=>Option.none)).env⟩
omit [Dfr] in
theorem zc0 (h:EqX D S T) {x:Operand}(hx:S.op x=T.op x):zI D (YC S x) (YC T x):=by
 unfold YC
 rw [hx]
 split
 ·exact .chk ⟨rfl,h⟩
 ·trivial
omit [Dfr] in
theorem zbA (h:EqX D S T) {d:Nat}{ty t:TypeId}{x:Operand}{lo hi:Option Operand}(hx:S.op x=T.op x) (hf:Xz D (Op.slice t x lo hi none).operands.toList):zI D (ZM P S d ty t x lo hi) (ZM P T d ty t x lo hi):=by
 unfold ZM
 rw [hx]
 split
 ·rename_i id e
  have h1:=EqX.frz1 h id
  rw [zbz h1 hf]
  exact .bind fun A=>⟨h1.heap,(h1.put d A (hp:=fun _=>none)).env⟩
 ·trivial
omit [Dfr] in
theorem zgO (h:EqX D S T) {q:Opts}{d:Nat}{ty t:TypeId}{x:Operand}{lo hi mx:Option Operand}(hf:Xz D (Op.slice t x lo hi mx).operands.toList):zI D (yN q P S d ty t x lo hi mx) (yN q P T d ty t x lo hi mx):=by
 have hop:=h.ops hf
 have hx:S.op x=T.op x:=hop x (by simp [Op.operands])
 unfold yN
 split
 ·cases q.fs with
  |true=>exact zbA h hx hf
  |false=>
   have h1:∀ y,hi=some y→S.op y=T.op y:=fun y e=>hop y (by subst e;simp [Op.operands])
   have h2:∀ y,(none:Option Operand)=some y→S.op y=T.op y:=fun y e=>by cases e
   exact zcV h hx h1 h2
 ·have h1:∀ y,hi=some y→S.op y=T.op y:=fun y e=>hop y (by subst e;simp [Op.operands])
  have h2:∀ y,mx=some y→S.op y=T.op y:=fun y e=>hop y (by subst e;simp [Op.operands])
  exact zcV h hx h1 h2
 ·exact zbA h hx hf
 ·trivial
omit [Dfr] in
theorem zig (h:EqX D S T) {d:Nat}{t t':TypeId}{x:Operand}(hx:S.op x=T.op x):zI D (ZL P S d t t' x) (ZL P T d t t' x):=by
 unfold ZL
 rw [hx]
 split
 ·split
  ·exact .chk (.bind fun l=>⟨h.heap,(h.put d _ (hp:=fun _=>none)).env⟩)
  ·trivial
 ·trivial
omit [Dfr] in
theorem zlt (h:EqX D S T) {d:Nat}{t t':TypeId}{x:Operand}(hx:S.op x=T.op x):zI D (xj P S d t t' x) (xj P T d t t' x):=by
 unfold xj
 rw [hx]
 split
 ·split
  ·rw [zfK h.heap]
   exact .chk (.bind fun ts =>.bind fun l=>⟨h.heap,(h.put d _ (hp:=fun _=>none)).env⟩)
  ·trivial
 ·trivial
omit [Dfr] in
theorem zl5 {q:Opts}{Γ:List (Spec C)}{n:Nat}{o:Oper}(h:EqX D S T) (hD:∀ t,D t→t < vB) (hf:Xz D o.op.operands.toList):zI D (wm q Γ P n o S) (wm q Γ P n o T):=by
 obtain ⟨dst,op,ty,ps,af,g⟩:=o
 have hop:=h.ops hf
 simp only at hf hop
 unfold wm
 cases dst with
 |none=>
  simp only
  split
  ·rename_i t x y
   exact zh4 h (fun t e=>hf t (by simp [Op.operands,e])) (fun t e=>hf t (by simp [Op.operands,e]))
  ·rename_i x;exact zc0 h (hop x (by simp [Op.operands]))
  ·trivial
 |some d=>
  simp only
  refine .chk ?_
  have rd:∀ op',op'=op→zI D ((ZK P S ty op').map fun A =>.go (S.put d A)) ((ZK P T ty op').map fun A =>.go (T.put d A)):=fun op' e=>by
   subst e;rw [zbz h hf];exact .map h
  unfold yO
  split
  ·exact zh3 h
  ·rename_i t x
   rw [hop x (by simp [Op.operands])]
   exact .chk (zfJ h)
  ·rename_i t x y;exact zjn h (hop x (by simp [Op.operands]))
  ·rename_i t m parts;exact zgK h (by simpa [Op.operands] using hf)
  ·rename_i t x lo hi mx
   rw [zbz h hf]
   split
   ·exact ⟨h.heap,(h.put d _ (hp:=fun _=>none)).env⟩
   ·exact zgO h hf
  ·rename_i t t' x
   have hx:=hop x (by simp [Op.operands])
   rw [zbz h hf]
   split
   ·exact ⟨h.heap,(h.put d _ (hp:=fun _=>none)).env⟩
   ·have h1:=zig (P:=P) h (d:=d) (t:=t) (t':=t') hx
    have h2:=zlt (P:=P) h (d:=d) (t:=t) (t':=t') hx
    revert h1
    cases ZL P S d t t' x <;> cases ZL P T d t t' x <;> intro h1
    ·exact h2
    ·exact h1.elim
    ·rename_i o;cases o <;> exact h1.elim
    ·exact h1
  ·rename_i c args ts
   have ha:args.toList.map S.op=args.toList.map T.op:=List.map_congr_left fun x hx=>hop x (by simp [Op.operands,Call.operands];exact .inr (by simpa using hx))
   rw [hop c (by simp [Op.operands,Call.operands]),ha]
   split
   ·exact zI.chk (zjr h hD)
   ·trivial
  ·rename_i args ts
   split
   ·rename_i x y t t' e1 e2
    have ha:∀ z∈args.toList,S.op z=T.op z:=fun z hz=>hop z (by simp [Op.operands,Call.operands];simpa using hz)
    rw [e1] at ha
    exact .chk (zbx h (ha x (by simp)) (ha y (by simp)))
   ·trivial
  ·rename_i x;exact zc0 h (hop x (by simp [Op.operands]))
  ·exact rd _ rfl
omit [Dfr] in
theorem znp {q:Opts}{Γ:List (Spec C)}{n:Nat}{o:Oper}(h:EqX D S T) (hD:∀ t,D t→t < vB) (hf:Xz D o.op.operands.toList):zI D (stp q Γ P n o S) (stp q Γ P n o T):=by
 obtain ⟨h1,h2⟩:=zlr (P:=P) (dst:=o.dst) h hf
 unfold stp
 rw [h1]
 cases hk:yV P T o.dst o.op with
 |some k=>exact .chk (h2 k hk)
 |none=>exact zl5 h hD hf
end
end Go.Px
namespace Go.Px
set_option linter.unusedSectionVars false
variable [Dfr]
set_option linter.unusedVariables false
def xo (id:Nat):Nat:=id+1099511627776
mutual
def AV.avoid {D:Nat→Type}(l:List Nat):AV D→Bool
 | .row id=> !zw id l
 | .pc id _=> !zw id l
 | .pr id _ _ _=> !zw id l
 | .nx id _ _ _=> !zw id l && !zw (xo id) l
 | .agg cs=>AV.avoids l cs
 | .tup cs=>AV.avoids l cs
 | .clo _ cs=>AV.avoids l cs
 | .ifc _ A=>AV.avoid l A
 |_=>true
def AV.avoids {D:Nat→Type}(l:List Nat):List (AV D)→Bool
 |[]=>true
 |A::As=>AV.avoid l A && AV.avoids l As
end
omit [Dfr] in
mutual
theorem Vb {D:Nat→Type}{l:List Nat}{id:Nat}{R:AV D}(hm:zw id l=true):∀ {A:AV D},A.avoid l=true→AV.sub id R A=A
 | .row j,h=>by
  unfold AV.sub
  cases e:Nat.beq j id with
  |true=>
   have:=Nat.eq_of_beq_eq_true e;subst this
   simp only [AV.avoid,hm] at h;cases h
  |false=>rfl
 | .pc j o,h=>by
  unfold AV.sub
  cases e:Nat.beq j id with
  |true=>
   have:=Nat.eq_of_beq_eq_true e;subst this
   simp only [AV.avoid,hm] at h;cases h
  |false=>rfl
 | .pr j _ _ _,h=>by
  unfold AV.sub
  cases e:Nat.beq j id with
  |true=>
   have:=Nat.eq_of_beq_eq_true e;subst this
   simp only [AV.avoid,hm] at h;cases h
  |false=>rfl
 | .nx j _ _ _,h=>by
  unfold AV.sub
  cases e:Nat.beq j id with
  |true=>
   have:=Nat.eq_of_beq_eq_true e;subst this
   simp only [AV.avoid,hm] at h;cases h
  |false=>rfl
 | .agg cs,h=>by unfold AV.sub;rw [xO hm h]
 | .tup cs,h=>by unfold AV.sub;rw [xO hm h]
 | .clo f cs,h=>by unfold AV.sub;rw [xO hm h]
 | .ifc t A,h=>by unfold AV.sub;rw [Vb hm (A:=A) h]
 | .int _ _,_=>rfl
 | .bool _,_=>rfl
 | .str _,_=>rfl
 | .sl _ _ _,_=>rfl
 | .pz _ _ _,_=>rfl
 | .pnil,_=>rfl
 | .nils,_=>rfl
 | .nilf,_=>rfl
 | .nili,_=>rfl
 | .und,_=>rfl
theorem xO {D:Nat→Type}{l:List Nat}{id:Nat}{R:AV D}(hm:zw id l=true):∀ {A:List (AV D)},AV.avoids l A=true→AV.subs id R A=A
 |[],_=>rfl
 |A::As,h=>by
  simp only [AV.avoids,Bool.and_eq_true] at h
  unfold AV.subs;rw [Vb hm h.1,xO hm h.2]
end
omit [Dfr] in
mutual
theorem W6 {D:Nat→Type}{l:List Nat}{p:Nat→Bool}(hp:∀ i,p i=true→zw i l=true):∀ {A:AV D},A.avoid l=true→AV.kill p A=A
 | .row j,h=>by
  unfold AV.kill
  cases e:p j with
  |true=>simp only [AV.avoid,hp j e] at h;cases h
  |false=>rfl
 | .pc j o,h=>by
  unfold AV.kill
  cases e:p j with
  |true=>simp only [AV.avoid,hp j e] at h;cases h
  |false=>rfl
 | .pr j _ _ _,h=>by
  unfold AV.kill
  cases e:p j with
  |true=>simp only [AV.avoid,hp j e] at h;cases h
  |false=>rfl
 | .nx j _ _ _,h=>by
  unfold AV.kill
  cases e:p j with
  |true=>simp only [AV.avoid,hp j e] at h;cases h
  |false=>rfl
 | .agg cs,h=>by unfold AV.kill;rw [xe hp h]
 | .tup cs,h=>by unfold AV.kill;rw [xe hp h]
 | .clo f cs,h=>by unfold AV.kill;rw [xe hp h]
 | .ifc t A,h=>by unfold AV.kill;rw [W6 hp (A:=A) h]
 | .int _ _,_=>rfl
 | .bool _,_=>rfl
 | .str _,_=>rfl
 | .sl _ _ _,_=>rfl
 | .pz _ _ _,_=>rfl
 | .pnil,_=>rfl
 | .nils,_=>rfl
 | .nilf,_=>rfl
 | .nili,_=>rfl
 | .und,_=>rfl
theorem xe {D:Nat→Type}{l:List Nat}{p:Nat→Bool}(hp:∀ i,p i=true→zw i l=true):∀ {A:List (AV D)},AV.avoids l A=true→AV.kills p A=A
 |[],_=>rfl
 |A::As,h=>by
  simp only [AV.avoids,Bool.and_eq_true] at h
  unfold AV.kills;rw [W6 hp h.1,xe hp h.2]
end
omit [Dfr] in
mutual
theorem wL {D:Nat→Type}{l:List Nat}{p:Nat→Bool}(hp:∀ i,p i=true→zw (xo i) l=true):∀ {A:AV D},A.avoid l=true→AV.knx p A=A
 | .row j,h=>rfl
 | .pc j o,h=>rfl
 | .pr j _ _ _,h=>rfl
 | .nx j _ _ _,h=>by
  unfold AV.knx
  cases e:p j with
  |true=>simp only [AV.avoid,hp j e,Bool.not_true,Bool.and_false] at h;cases h
  |false=>rfl
 | .agg cs,h=>by unfold AV.knx;rw [Y4 hp h]
 | .tup cs,h=>by unfold AV.knx;rw [Y4 hp h]
 | .clo f cs,h=>by unfold AV.knx;rw [Y4 hp h]
 | .ifc t A,h=>by unfold AV.knx;rw [wL hp (A:=A) h]
 | .int _ _,_=>rfl
 | .bool _,_=>rfl
 | .str _,_=>rfl
 | .sl _ _ _,_=>rfl
 | .pz _ _ _,_=>rfl
 | .pnil,_=>rfl
 | .nils,_=>rfl
 | .nilf,_=>rfl
 | .nili,_=>rfl
 | .und,_=>rfl
theorem Y4 {D:Nat→Type}{l:List Nat}{p:Nat→Bool}(hp:∀ i,p i=true→zw (xo i) l=true):∀ {A:List (AV D)},AV.avoids l A=true→AV.knxs p A=A
 |[],_=>rfl
 |A::As,h=>by
  simp only [AV.avoids,Bool.and_eq_true] at h
  unfold AV.knxs;rw [wL hp h.1,Y4 hp h.2]
end
section
variable {C:Cod}{S T:St C}{P:Program}
def Ent.avoid (l:List Nat):Ent C→Bool
 | .cell cs=>AV.avoids l cs
 | .row _ _=>true
 | .obj _ _ _ _=>true
 | .orow _ _ _=>true
def zem (l:List Nat):Option (Ent C)→Bool
 |some e=>e.avoid l
 |none=>true
structure Keeps (S T:St C) (d:Option Nat) (l:List Nat) (p:Nat→Bool):Prop where
 env:∀ t,t < vB→d≠some t→(S.env t).avoid l=true→T.env t=S.env t
 heap:∀ id,p id=false→zem l (S.heap id)=true→T.heap id=S.heap id
omit [Dfr] in
theorem Keeps.refl (S:St C) {d:Option Nat}{l:List Nat}{p:Nat→Bool}:Keeps S S d l p:=⟨fun _ _ _ _=>rfl,fun _ _ _=>rfl⟩
omit [Dfr] in
theorem Keeps.trans {U:St C}{d:Option Nat}{l:List Nat}{p:Nat→Bool}(h:Keeps S T d l p) (k:Keeps T U d l p):Keeps S U d l p:=
 ⟨fun t h1 h2 h3=>by have e:=h.env t h1 h2 h3;rw [k.env t h1 h2 (by rw [e];exact h3),e],fun id h1 h2=>by have e:=h.heap id h1 h2;rw [k.heap id h1 (by rw [e];exact h2),e]⟩
omit [Dfr] in
theorem Keeps.sub {id:Nat}{R:AV C.D}{d:Option Nat}{l:List Nat}{p:Nat→Bool}(hm:zw id l=true) (hp:p id=true):Keeps S (S.sub id R) d l p:=by
 refine ⟨fun t _ _ h=>Vb hm h,fun j hj h=>?_⟩
 show (bif Nat.beq j id then none else (S.heap j).map (Ent.sub id R))=S.heap j
 cases e:Nat.beq j id with
 |true=>have:=Nat.eq_of_beq_eq_true e;subst this;rw [hp] at hj;cases hj
 |false=>
  simp only [cond_false]
  cases hs:S.heap j with
  |none=>rfl
  |some en=>
   rw [hs] at h
   cases en with
   |row T s=>rfl
   |obj q T b s=>rfl
   |orow T s g=>rfl
   |cell cs=>show some (Ent.cell (AV.subs id R cs))=_;rw [xO hm h]
omit [Dfr] in
theorem W7 (S:St C) (id:Nat):(∃ R,S.frz1 id=S.sub id R)∨S.frz1 id=S:=by
 unfold St.frz1
 split
 ·exact .inl ⟨_,rfl⟩
 ·rename_i T s g _
  cases g.rd with
  |true=>exact .inl ⟨_,rfl⟩
  |false=>exact .inr rfl
 ·exact .inr rfl
omit [Dfr] in
theorem Keeps.frz {d:Option Nat}{l:List Nat}{p:Nat→Bool}:∀ (r:List Nat) {S:St C},(∀ id∈r,zw id l=true∧p id=true)→Keeps S (S.frz r) d l p
 |[],S,_ =>.refl S
 |id::r,S,h=>by
  have h1:=h id (by simp)
  have k:Keeps S (S.frz1 id) d l p:=by
   rcases W7 S id with ⟨R,e⟩ | e
   ·rw [e];exact .sub h1.1 h1.2
   ·rw [e];exact .refl S
  exact k.trans (Keeps.frz r fun j hj=>h j (List.mem_cons_of_mem _ hj))
omit [Dfr] in
theorem Keeps.new {d id:Nat}{A:AV C.D}{e:Option (Ent C)}{l:List Nat}{p:Nat→Bool}(hp:p id=true):Keeps S {env:=upd S.env d A,heap:=upd S.heap id e} (some d) l p:=
 ⟨fun t _ h2 _=>zp fun e=>h2 (by rw [e]),fun j hj _=>zp fun e=>by subst e;rw [hp] at hj;cases hj⟩
omit [Dfr] in
theorem Keeps.ent {id:Nat}{e:Option (Ent C)}{d:Option Nat}{l:List Nat}{p:Nat→Bool}(hp:p id=true):Keeps S {S with heap:=upd S.heap id e} d l p:=
 ⟨fun t _ _ _=>rfl,fun j hj _=>zp fun e=>by subst e;rw [hp] at hj;cases hj⟩
omit [Dfr] in
theorem Keeps.put {d:Nat}{A:AV C.D}{l:List Nat}{p:Nat→Bool}:Keeps S (S.put d A) (some d) l p:=⟨fun t _ h2 _=>zp fun e=>h2 (by rw [e]),fun j _ _=>rfl⟩
omit [Dfr] in
theorem Keeps.virt {As:List (AV C.D)}{d:Option Nat}{l:List Nat}{p:Nat→Bool}:Keeps S (virt S As) d l p:=⟨fun t ht _ _=>by
 show (bif Nat.blt t vB then S.env t else _)=_
 rw [show Nat.blt t vB=true from by rw [Nat.blt_eq];exact ht];rfl,fun j _ _=>rfl⟩
omit [Dfr] in
theorem Keeps.unvirt {d:Option Nat}{l:List Nat}{p:Nat→Bool}:Keeps S (unvirt S) d l p:=⟨fun t ht _ _=>by
 show (bif Nat.blt t vB then S.env t else _)=_
 rw [show Nat.blt t vB=true from by rw [Nat.blt_eq];exact ht];rfl,fun j _ _=>rfl⟩
omit [Dfr] in
theorem Keeps.nilT {es:List ESh}{d:Option Nat}{l:List Nat}{p:Nat→Bool}(hp:∀ id,1048576≤id→p id=true):∀ (ts:List (Nat×Sh)) {S:St C},(∀ q∈ts,vB≤q.1)→Keeps S (nilT es ts S) d l p
 |[],S,_ =>.refl S
 |(t,s)::ts,S,hts=>by
  have hts':∀ q∈ts,vB≤q.1:=fun q hq=>hts q (List.mem_cons_of_mem _ hq)
  unfold Px.nilT
  split
  ·split
   ·cases isNone (S.heap _) with
    |false=>exact Keeps.nilT hp ts hts'
    |true=>
     refine Keeps.trans ?_ (Keeps.nilT hp ts hts')
     refine ⟨fun t' ht' _ _=>zp fun e=>?_,fun j hj _=>zp fun e=>?_⟩
     ·have:=hts _ (List.mem_cons_self ..);simp only at this;omega
     ·rw [hp j (by omega)] at hj;cases hj
   ·exact Keeps.nilT hp ts hts'
  ·exact Keeps.nilT hp ts hts'
omit [Dfr] in
theorem Keeps.nil1 {es:List ESh}{id q:Nat}{s:Sh}{d:Option Nat}{l:List Nat}{p:Nat→Bool}(hp:∀ id,1048576≤id→p id=true) (hid:p id=true):Keeps S (nil1 es id s q S) d l p:=by
 unfold Px.nil1
 split
 ·split
  ·cases isNone (S.heap _) with
   |true=>
    refine ⟨fun _ _ _ _=>rfl,fun j hj _=>?_⟩
    show upd (upd S.heap _ _) id _ j=S.heap j
    have e1:j≠id:=fun e=>by subst e;rw [hid] at hj;cases hj
    rw [zp e1]
    exact zp fun e=>by rw [hp j (by omega)] at hj;cases hj
   |false=>exact .refl S
  ·exact .refl S
 ·exact .refl S
omit [Dfr] in
theorem Keeps.nilC {es:List ESh}{id:Nat}{d:Option Nat}{l:List Nat}{p:Nat→Bool}(hp:∀ id,1048576≤id→p id=true) (hid:p id=true):∀ (sl:List Sh) (q:Nat) {S:St C},Keeps S (nilC es id sl q S) d l p
 |[],q,S =>.refl S
 |s::sl,q,S=>(Keeps.nil1 hp hid).trans (Keeps.nilC hp hid sl _)
omit [Dfr] in
theorem Keeps.nilE {all:List ESh}{bl:Bl}{d:Option Nat}{l:List Nat}{p:Nat→Bool}(hp:∀ id,1048576≤id→p id=true) (hb:∀ id,Zw id bl=true→p id=true):∀ (es:List ESh) (k:Nat) {S:St C},Keeps S (nilE all bl es k S) d l p
 |[],k,S =>.refl S
 |e::es,k,S=>by
  refine Keeps.trans ?_ (Keeps.nilE hp hb es _)
  unfold zbN
  split
  ·rename_i id e';exact Keeps.nilC hp (hb id (YF e')) _ 0
  ·exact .refl S
def zkG (g:Sig) (m:Nat) (S:St C):Bl:=z8 g m (nilT g.es g.ts (S.frz (fzT S g.ts)))
def zbB (g:Sig) (m:Nat) (S:St C):List Nat:=
 let S1:=nilT g.es g.ts (S.frz (fzT S g.ts))
 let S2:=nilE g.es (z8 g m S1) g.es 0 S1
 fzT S g.ts++fzE S2 (z8 g m S2) g.es 0
omit [Dfr] in
theorem Keeps.prep {g:Sig}{m:Nat}{d:Option Nat}{l:List Nat}{p:Nat→Bool}(hp:∀ id,1048576≤id→p id=true) (hts:∀ q∈g.ts,vB≤q.1) (hb:∀ id,Zw id (zkG g m S)=true→p id=true) (hf:∀ id∈zbB g m S,zw id l=true∧p id=true):Keeps S (g.prep m S) d l p:=by
 unfold Sig.prep
 simp only
 refine (Keeps.frz _ fun id hid=>hf id (by unfold zbB;simp only;exact List.mem_append_left _ hid)).trans ((Keeps.nilT hp g.ts hts).trans ((Keeps.nilE hp hb g.es 0).trans (Keeps.frz _ fun id hid=>hf id (by unfold zbB;simp only;exact List.mem_append_right _ hid))))
omit [Dfr] in
theorem Wu (d k:Nat) (hk:k < 64):nid d k / 64=d+1:=by unfold nid;omega
omit [Dfr] in
theorem Keeps.merge {Sr:St C}{d:Nat}{bl:Bl}{es:List ESh}{l:List Nat}{p:Nat→Bool}(hg:∀ id∈ym es bl,zw id l=true∧p id=true) (hb:∀ id,Zw id bl=true→p id=true) (hn:∀ k,k < 64→p (nid d k)=true) (hes:es.length≤64) (hx:∀ id,Zw id bl=true→zw (xo id) l=true):Keeps S (zZ S Sr d bl es) (some d) l p:=by
 have hg':∀ i,zw i (ym es bl)=true→zw i l=true:=fun i hi=>(hg i (zF.1 hi)).1
 refine ⟨fun t _ _ h=>by show AV.kill _ (AV.knx _ (S.env t))=_;rw [wL (fun id hid=>hx id (by simp only [Bool.and_eq_true] at hid;exact hid.1)) h,W6 hg' h],fun j hj h=>?_⟩
 have e1:(zZ S Sr d bl es).heap j=bif zw j (ym es bl) then none else (S.heap j).map fun e=>Ent.kill (fun i=>zw i (ym es bl)) (Ent.knx (fun i=>Zw i bl && !zw i (kpL Sr bl 0)) e):=by
  refine XI fun k e he hge=>?_
  rw [Nat.zero_add]
  intro e'
  unfold Ye at e'
  split at e'
  ·rename_i id hid
   subst e'
   rw [hb _ (YF hid)] at hj;cases hj
  ·subst e'
   rw [hn k (by have:=(List.getElem?_eq_some_iff.1 he).1;omega)] at hj;cases hj
 rw [e1]
 cases hm:zw j (ym es bl) with
 |true=>rw [(hg j (zF.1 hm)).2] at hj;cases hj
 |false=>
  simp only [cond_false]
  cases hs:S.heap j with
  |none=>rfl
  |some en=>
   rw [hs] at h
   cases en with
   |row T s=>rfl
   |obj q T b s=>rfl
   |orow T s g=>rfl
   |cell cs=>show some (Ent.cell (AV.kills _ (AV.knxs _ cs)))=_;rw [Y4 (fun id hid=>hx id (by simp only [Bool.and_eq_true] at hid;exact hid.1)) h,xe hg' h]
abbrev Tch:=List Nat×(Nat→Bool)
def zbC (d:Nat):Option Tch:=some ([],fun i=>Nat.beq (i / 64) (d+1))
def W8:Bl→List Nat
 |[]=>[]
 |some id::r=>xo id::W8 r
 |none::r=>W8 r
omit [Dfr] in
theorem zaS {id:Nat}:∀ {bl:Bl},Zw id bl=true→xo id∈W8 bl
 |some a::r,h=>by
  simp only [Zw,Bool.or_eq_true] at h
  rcases h with h | h
  ·rw [Nat.eq_of_beq_eq_true h];simp [W8]
  ·exact List.mem_cons_of_mem _ (zaS h)
 |none::r,h=>zaS (bl:=r) h
 |[],h=>by cases h
def zih (id:Nat) (l:List Nat):Option Tch:=some (l,fun i=>Nat.beq i id || zw i l)
def X7 (Γ:List (Spec C)) (S:St C) (d f:Nat) (As:List (AV C.D)):Option Tch:=match Γ with
 |[]=>some ([],fun i=>Nat.beq (i / 64) (d+1))
 |s::Γ=>bif Nat.beq s.f f then (match yE s.ins S As with
  |some (S2,bl,x)=>bif s.view then some ([],fun _=>false) else bif s.viewO then chk (s.outs.all fun o=>Nat.ble o.2.es.length 64) (some ([],fun i=>Nat.beq (i / 64) (d+1))) else go s bl (zkG s.ins.shift 0 (virt S As)) (zbB s.ins.shift 0 (virt S As)++((s.outs.flatMap fun o=>ym o.2.es bl)++W8 bl))
  |none=>X7 Γ S d f As) else X7 Γ S d f As
where
 go (s:Spec C) (bl b1:Bl) (l:List Nat):Option Tch:=chk (s.outs.all fun o=>Nat.ble o.2.es.length 64) (some (l,fun i=>zw i l || (Zw i bl || (Nat.beq (i / 64) (d+1) || (Nat.ble 1048576 i || Zw i b1)))))
def zjs (Γ:List (Spec C)) (P:Program) (o:Oper) (S:St C):Option Tch:=match o.dst with
 |none=>match o.op with
  | .store t x y=>(match S.op x with
   | .pc id _=>zih id []
   | .pr id _ _ _=>zih id (AV.rows (S.op y))
   |_=>none)
  |_=>some ([],fun _=>false)
 |some d=>match o.op with
  | .alloc _=>zbC d
  | .box _ _=>zbC d
  | .makeSlice _ _ _=>zbC d
  | .buildSlice _ _ parts=>go d (AV.rowss (parts.toList.map fun q=>S.op q.2))
  | .call ⟨.value c,args,_⟩=>(match S.op c with
   | .clo f caps=>X7 Γ S d f (YD (args.toList.map S.op) caps)
   |_=>none)
  | .call ⟨.builtin .append,args,_⟩=>(match args.toList with
   |[x,y]=>(match S.op x with
    | .row id=>go d [id]
    | .nils=>zbC d
    |_=>none)
   |_=>none)
  | .slice _ x _ _ _=>go d (S.op x).hid
  | .panic _=>some ([],fun _=>false)
  |_=>some ([],fun _=>false)
where
 go (d:Nat) (l:List Nat):Option Tch:=some (l,fun i=>zw i l || Nat.beq (i / 64) (d+1))
omit [Dfr] in
theorem Zj {id:Nat}{l:List Nat}(h:id∈l):zw id l=true:=zF.2 h
omit [Dfr] in
theorem xa (d:Nat):Nat.beq (nid d 0 / 64) (d+1)=true:=by rw [Wu d 0 (by omega)];simp
omit [Dfr] in
theorem wM:∀ {outs:List (XK×Sig)}{r:zk C outs},∃ o∈outs,ZA outs r=o.2.es
 |[],r=>r.elim
 |[o],r=>⟨o,by simp,rfl⟩
 |o::o2::l,r=>by
  cases r with
  |inl a=>exact ⟨o,by simp,rfl⟩
  |inr y=>
   obtain ⟨o',h1,h2⟩:=wM (outs:=o2::l) (r:=y)
   exact ⟨o',List.mem_cons_of_mem _ h1,h2⟩
omit [Dfr] in
theorem YU {α:Type}{K:XE C→St C→Option α}{z:α}{outs:List (XK×Sig)}{r:zk C outs}(h:zO outs r K=some z):∃ e S,K e S=some z:=by
 have hq:zO outs r (fun _ _=>True):=by
  clear h
  revert r
  induction outs with
  |nil=>intro r;exact r.elim
  |cons o l ih=>
   have one:∀ y:XK.ty C o.1 o.2,yI o.1 o.2 y (fun _ _=>True):=fun y=>by
    obtain ⟨k,g⟩:=o;cases k <;> trivial
   cases l with
   |nil=>intro r;exact one r
   |cons o2 l=>
    intro r
    cases r with
    |inl a=>exact one a
    |inr y=>exact ih (r:=y)
 obtain ⟨e,S,h1,_⟩:=YR h hq
 exact ⟨e,S,h1⟩
omit [Dfr] in
theorem zdn {s:Spec C}(hvo:s.viewO=true) {d:Nat}{x:s.ins.ty C}{S':St C}(h:ZN s d S x=some (.go S')):Keeps S S' (some d) [] fun i=>Nat.beq (i / 64) (d+1):=by
 simp only [Spec.viewO,Bool.and_eq_true] at hvo
 unfold ZN at h
 obtain ⟨r,_,h⟩:=Option.bind_eq_some_iff.1 h
 obtain ⟨e,Sr,h⟩:=YU h
 obtain ⟨_,h⟩:=za h
 unfold xM at h
 obtain ⟨_,h⟩:=za h
 cases e with
 |normal=>cases h
 |exit i=>cases h
 |pan A=>cases h
 |ret=>
  cases h
  obtain ⟨o,ho,he⟩:=wM (outs:=s.outs) (r:=r)
  have hg:ym (ZA s.outs r) []=[]:=by cases ZA s.outs r <;> rfl
  have hc:=List.all_eq_true.1 hvo.2 o ho
  simp only [Bool.and_eq_true] at hc
  refine Keeps.trans (.merge (fun id hid=>?_) (fun id hid=>?_) (fun k hk=>?_) ?_ (fun id hid=>?_)) (Keeps.trans .unvirt .put)
  ·rw [hg] at hid;cases hid
  ·cases hid
  ·simp only [Wu d k hk,Nat.beq_refl]
  ·rw [he];exact Nat.le_of_ble_eq_true hc.2
  ·cases hid
omit [Dfr] in
theorem zdo {s:Spec C}{d:Nat}{x:s.ins.ty C}{S':St C}{l:List Nat}{p:Nat→Bool}(h:ZX s d S x=some (.go S')):Keeps S S' (some d) l p:=by
 obtain ⟨_,h⟩:=za h
 obtain ⟨r,_,h⟩:=Option.bind_eq_some_iff.1 h
 obtain ⟨e,Sr,h⟩:=YU h
 unfold Wt at h
 cases e with
 |normal=>cases h
 |exit i=>cases h
 |pan A=>obtain ⟨_,h⟩:=za h;cases h
 |ret=>obtain ⟨_,h⟩:=za h;cases h;exact .put
omit [Dfr] in
theorem vA {d f:Nat}{As:List (AV C.D)}{S':St C}:∀ {Γ:List (Spec C)},Yg Γ S d f As=some (.go S')→Keeps S S' (some d) [] fun i=>Nat.beq (i / 64) (d+1)
 |[],h=>by cases h
 |s::Γ,h=>by
  unfold Yg at h
  cases hf:(Nat.beq s.f f && (s.view || s.viewO)) with
  |false=>rw [hf] at h;exact vA h
  |true=>
   rw [hf,cond_true] at h
   obtain ⟨Bs,h,_⟩:=WU h
   obtain ⟨_,h⟩:=za h
   obtain ⟨T,h,_⟩:=XU h
   split at h
   ·rename_i S2 bl x hl
    cases hv:s.view with
    |true=>rw [hv] at h;exact zdo h
    |false=>
     rw [hv] at h
     simp only [Bool.and_eq_true,Bool.or_eq_true,hv] at hf
     exact zdn (by simpa using hf.2) h
   ·cases h
omit [Dfr] in
theorem We {Γ0:List (Spec C)}{d f:Nat}{As:List (AV C.D)}{S':St C}{l:List Nat}{p:Nat→Bool}:∀ {Γ:List (Spec C)},yy Γ0 Γ S d f As=some (.go S')→X7 Γ S d f As=some (l,p)→Keeps S S' (some d) l p
 |[],h,ht=>by cases ht;exact vA h
 |s::Γ,h,ht=>by
  unfold yy at h
  unfold X7 at ht
  cases hf:Nat.beq s.f f with
  |false=>rw [hf] at h ht;exact We h ht
  |true=>
   rw [hf] at h ht
   simp only [cond_true] at h ht
   split at h
   ·rename_i S2 bl x hl
    rw [hl] at ht
    simp only at ht
    cases hv:s.view with
    |true=>
     rw [hv] at h ht
     cases ht
     simp only [cond_true] at h
     obtain ⟨_,h⟩:=za h
     obtain ⟨r,_,h⟩:=Option.bind_eq_some_iff.1 h
     obtain ⟨e,Sr,h⟩:=YU h
     unfold Wt at h
     cases e with
     |normal=>cases h
     |exit i=>cases h
     |pan A=>obtain ⟨_,h⟩:=za h;cases h
     |ret=>obtain ⟨_,h⟩:=za h;cases h;exact .put
    |false=>
    rw [hv] at h ht
    rw [cond_false] at h ht
    cases hv2:s.viewO with
    |true=>
     rw [hv2] at h ht
     rw [cond_true] at h ht
     obtain ⟨hc,ht⟩:=za ht
     cases ht
     unfold ZN at h
     obtain ⟨r,_,h⟩:=Option.bind_eq_some_iff.1 h
     obtain ⟨e,Sr,h⟩:=YU h
     obtain ⟨_,h⟩:=za h
     unfold xM at h
     obtain ⟨_,h⟩:=za h
     cases e with
     |normal=>cases h
     |exit i=>cases h
     |pan A=>cases h
     |ret=>
      cases h
      obtain ⟨o,ho,he⟩:=wM (outs:=s.outs) (r:=r)
      have hg:ym (ZA s.outs r) []=[]:=by cases ZA s.outs r <;> rfl
      refine Keeps.trans (.merge (fun id hid=>?_) (fun id hid=>?_) (fun k hk=>?_) ?_ (fun id hid=>?_)) (Keeps.trans .unvirt .put)
      ·rw [hg] at hid;cases hid
      ·cases hid
      ·simp only [Wu d k hk,Nat.beq_refl]
      ·rw [he];exact Nat.le_of_ble_eq_true (List.all_eq_true.1 hc o ho)
      ·cases hid
    |false=>
    rw [hv2] at h ht
    simp only [cond_false] at h ht
    obtain ⟨hc,ht⟩:=za ht
    cases ht
    unfold yE at hl
    obtain ⟨_,hl⟩:=za hl
    obtain ⟨x',hx,he⟩:=Option.map_eq_some_iff.1 hl
    cases he
    unfold Yf at h
    obtain ⟨r,_,h⟩:=Option.bind_eq_some_iff.1 h
    obtain ⟨_,h⟩:=za h
    obtain ⟨e,Sr,h⟩:=YU h
    unfold xM at h
    obtain ⟨_,h⟩:=za h
    cases e with
    |normal=>cases h
    |exit i=>cases h
    |pan A=>cases h
    |ret=>
     cases h
     obtain ⟨o,ho,he⟩:=wM (outs:=s.outs) (r:=r)
     refine Keeps.trans .virt (Keeps.trans (.prep (g:=s.ins.shift) (m:=0) (fun id h=>?_) (fun q hq=>?_) (fun id hid=>?_) (fun id hid=>?_)) (Keeps.trans (.merge (fun id hid=>?_) (fun id hid=>?_) (fun k hk=>?_) ?_ (fun id hid=>?_)) (Keeps.trans .unvirt .put)))
     ·simp [Nat.ble_eq,h]
     ·obtain ⟨p,hp,rfl⟩:=List.mem_map.1 hq
      simp only;omega
     ·simp only [hid,Bool.or_true]
     ·have:=Zj (List.mem_append_left ((s.outs.flatMap fun o=>ym o.2.es (z8 s.ins.shift 0 (s.ins.shift.prep 0 (virt S As))))++W8 (z8 s.ins.shift 0 (s.ins.shift.prep 0 (virt S As)))) hid)
      exact ⟨this,by simp only [this,Bool.true_or]⟩
     ·have:id∈zbB s.ins.shift 0 (virt S As)++((s.outs.flatMap fun o=>ym o.2.es (z8 s.ins.shift 0 (s.ins.shift.prep 0 (virt S As))))++W8 (z8 s.ins.shift 0 (s.ins.shift.prep 0 (virt S As)))):=List.mem_append_right _ (List.mem_append_left _ (List.mem_flatMap.2 ⟨o,ho,by rw [← he];exact hid⟩))
      have:=Zj this
      exact ⟨this,by simp only [this,Bool.true_or]⟩
     ·simp only [hid,Bool.true_or,Bool.or_true]
     ·simp only [Wu d k hk,Nat.beq_refl,Bool.true_or,Bool.or_true]
     ·rw [he];exact Nat.le_of_ble_eq_true (List.all_eq_true.1 hc o ho)
     ·exact Zj (List.mem_append_right _ (List.mem_append_right _ (zaS hid)))
   ·rename_i hl
    rw [hl] at ht
    exact We h ht
omit [Dfr] in
theorem zgP {d f:Nat}{As:List (AV C.D)}{S':St C}{l:List Nat}{p:Nat→Bool}{Γ:List (Spec C)}(h:wl Γ S d f As=some (.go S')) (ht:X7 Γ S d f As=some (l,p)):Keeps S S' (some d) l p:=We h ht
omit [Dfr] in
theorem zat {d:Nat}{cs:List (AV C.D)}{S':St C}{l:List Nat}{p:Nat→Bool}(h:WO S d cs=some (.go S')) (hp:p (nid d 0)=true):Keeps S S' (some d) l p:=by
 obtain ⟨_,h⟩:=za h
 cases h
 exact .new hp
omit [Dfr] in
theorem vC {d:Nat}{t:TypeId}{x:Operand}{hi mx:Option Operand}{S':St C}(h:yg P S d t x hi mx=some (.go S')):Keeps S S' (some d) (S.op x).hid fun i=>zw i (S.op x).hid || Nat.beq (i / 64) (d+1):=by
      unfold yg at h
      split at h
      · split at h
        · split at h
          · rename_i id ex
            rw [ex]
            have hid:zw id (AV.hid (.row (D:=C.D) id))=true:=Zj (by simp [AV.hid])
            have two:∀ {A e},Keeps S {env:=upd (S.sub id .und).env d A,heap:=upd (S.sub id .und).heap (nid d 0) e} (some d) (AV.hid (.row (D:=C.D) id)) fun i=>zw i (AV.hid (.row (D:=C.D) id)) || Nat.beq (i / 64) (d+1):=fun {A e}=>
              Keeps.trans (.sub hid (by simp only [hid,Bool.true_or])) (.new (by simp only [xa,Bool.or_true]))
            split at h
            · obtain ⟨_,h⟩:=za h
              split at h
              · split at h
                · obtain ⟨q,_,h⟩:=Option.bind_eq_some_iff.1 h
                  cases h
                  exact two
                · cases h
              · generalize (isZ _ && isZ _)=z at h
                cases z with
                |true=>
                  cases h
                  exact .new (by simp only [xa,Bool.or_true])
                |false=>
                  simp only [cond_false] at h
                  split at h
                  · obtain ⟨_,h⟩:=za h
                    obtain ⟨q,_,h⟩:=Option.bind_eq_some_iff.1 h
                    cases h
                    exact two
                  · cases h
              · cases h
            · cases h
          · obtain ⟨_,h⟩:=za h
            split at h
            · obtain ⟨_,h⟩:=za h
              cases h
              exact .new (by simp only [xa,Bool.or_true])
            · cases h
          · cases h
        · cases h
      · cases h
omit [Dfr] in
theorem Wv {d:Nat}{ty t:TypeId}{x:Operand}{lo hi:Option Operand}{S':St C}(h:ZM P S d ty t x lo hi=some (.go S')):Keeps S S' (some d) (S.op x).hid fun i=>zw i (S.op x).hid || Nat.beq (i / 64) (d+1):=by
 unfold ZM at h
 split at h
 ·rename_i id ex
  obtain ⟨A,_,h⟩:=Option.bind_eq_some_iff.1 h
  cases h
  rw [ex]
  have hid:zw id (AV.hid (.row (D:=C.D) id))=true:=Zj (by simp [AV.hid])
  have:=Keeps.frz (d:=some d) (l:=AV.hid (.row (D:=C.D) id)) (p:=fun i=>zw i (AV.hid (.row (D:=C.D) id)) || Nat.beq (i / 64) (d+1)) [id] (S:=S) (fun j hj=>by
   obtain rfl:j=id:=by simpa using hj
   exact ⟨hid,by simp only [hid,Bool.true_or]⟩)
  exact Keeps.trans this .put
 ·cases h
omit [Dfr] in
theorem zlu {q:Opts}{Γ:List (Spec C)}{n:Nat}{o:Oper}{S':St C}{l:List Nat}{p:Nat→Bool}(h:wm q Γ P n o S=some (.go S')) (ht:zjs Γ P o S=some (l,p)):Keeps S S' o.dst l p:=by
 obtain ⟨dst,op,ty,ps,af,g⟩:=o
 unfold wm at h
 unfold zjs at ht
 cases dst with
 |none=>
  simp only at h ht ⊢
  split at h
  ·rename_i t x y
   simp only at ht
   unfold ZF at h
   split at h
   ·rename_i ti id off hi ex
    rw [ex] at ht;cases ht
    split at h
    ·obtain ⟨_,h⟩:=za h
     cases h
     exact .ent (by simp)
    ·cases h
   ·rename_i ti id T i off hi ex
    rw [ex] at ht;cases ht
    refine Keeps.trans (.frz (AV.rows (S.op y)) fun j hj=>⟨Zj hj,by rw [Zj hj];simp⟩) ?_
    have hx:(S.frz (AV.rows (S.op y))).op x = .pr id T i off∨¬ (S.frz (AV.rows (S.op y))).op x = .pr id T i off:=Classical.em _
    have key:∀ (S1:St C),(∀ id' T' i' off',S1.op x = .pr id' T' i' off'→id'=id)→ZF.go x y ti S1=some (.go S')→Keeps S1 S' none (AV.rows (S.op y)) fun i=>Nat.beq i id || zw i (AV.rows (S.op y)):=by
     intro S1 hk h
     unfold ZF.go at h
     split at h
     ·rename_i id' T' i' off' ex'
      have:=hk _ _ _ _ ex'
      subst this
      split at h
      ·obtain ⟨_,h⟩:=za h
       obtain ⟨q,_,h⟩:=Option.bind_eq_some_iff.1 h
       obtain ⟨q',_,h⟩:=Option.bind_eq_some_iff.1 h
       cases h
       exact .ent (by simp)
      ·cases h
     ·cases h
    refine key _ ?_ h
    intro id' T' i' off' e'
    cases x with
    |const v=>exact absurd ex (by cases v <;> (try (intro h;cases h;done)) <;> (simp only [St.op,WI,Zg];(try split) <;> simp))
    |global g=>cases ex
    |func f=>cases ex
    |tmp tt=>
     have e1:S.env tt = .pr id T i off:=ex
     have e2:(S.frz (AV.rows (S.op y))).env tt = .pr id' T' i' off':=e'
     have frzpr:∀ (r:List Nat) (S1:St C),(∀ a b c d,S1.env tt = .pr a b c d→a=id)→(∀ R,S1.env tt=R→(∃ a b c d,R = .pr a b c d)∨R = .und)→(∀ a b c d,(S1.frz r).env tt = .pr a b c d→a=id):=by
      intro r
      induction r with
      |nil=>intro S1 h1 _;exact h1
      |cons j r ih=>
       intro S1 h1 h2
       refine ih (S1.frz1 j) ?_ ?_
       ·intro a b c d e
        rcases W7 S1 j with ⟨R0,e0⟩ | e0
        ·rw [e0] at e
         have e:AV.sub j R0 (S1.env tt)=_:=e
         rcases h2 _ rfl with ⟨a',b',c',d',h⟩ | h
         ·rw [h] at e
          unfold AV.sub at e
          cases hb:Nat.beq a' j with
          |true=>rw [hb] at e;cases e
          |false=>rw [hb] at e;cases e;exact h1 _ _ _ _ h
         ·rw [h] at e;cases e
        ·rw [e0] at e;exact h1 a b c d e
       ·intro R e
        rcases W7 S1 j with ⟨R0,e0⟩ | e0
        ·rw [e0] at e
         have e:AV.sub j R0 (S1.env tt)=_:=e
         rcases h2 _ rfl with ⟨a',b',c',d',h⟩ | h
         ·rw [h] at e
          unfold AV.sub at e
          cases hb:Nat.beq a' j with
          |true=>rw [hb] at e;exact .inr e.symm
          |false=>rw [hb] at e;exact .inl ⟨_,_,_,_,e.symm⟩
         ·rw [h] at e;exact .inr e.symm
        ·rw [e0] at e;exact h2 R e
     exact frzpr _ S (fun a b c d e=>by rw [e1] at e;cases e;rfl) (fun R e =>.inl ⟨_,_,_,_,e.symm.trans e1⟩) _ _ _ _ e2
   ·cases h
  ·rename_i x
   unfold YC at h
   split at h
   ·obtain ⟨_,h⟩:=za h;cases h
   ·cases h
  ·cases h
 |some d=>
  simp only at h ht ⊢
  obtain ⟨_,h⟩:=za h
  unfold yO at h
  have pan:∀ x,YC S x=some (.go S')→False:=fun x h=>by
   unfold YC at h
   split at h
   ·obtain ⟨_,h⟩:=za h;cases h
   ·cases h
  split at h
  ·cases ht
   unfold YA at h
   split at h
   ·split at h
    ·split at h
     ·obtain ⟨_,h⟩:=za h
      cases h
      exact .new (xa d)
     ·exact zat h (xa d)
    ·cases h
   ·cases h
  ·cases ht
   obtain ⟨_,h⟩:=za h
   exact zat h (xa d)
  ·cases ht
   unfold xH at h
   split at h
   ·split at h
    ·split at h
     ·obtain ⟨_,h⟩:=za h
      obtain ⟨q,_,h⟩:=Option.bind_eq_some_iff.1 h
      obtain ⟨q',_,h⟩:=Option.bind_eq_some_iff.1 h
      cases h
      exact .new (xa d)
     ·cases h
    ·cases h
   ·cases h
  ·rename_i t m parts
   cases ht
   unfold yM at h
   refine Keeps.trans (.frz _ fun j hj=>⟨Zj hj,by simp only [Zj hj,Bool.true_or]⟩) ?_
   generalize S.frz _=S1 at h ⊢
   unfold yM.go at h
   split at h
   ·split at h
    ·split at h
     ·obtain ⟨_,h⟩:=za h
      obtain ⟨q,_,h⟩:=Option.bind_eq_some_iff.1 h
      cases h
      exact .new (by simp only [xa,Bool.or_true])
     ·cases h
    ·cases h
   ·cases h
  ·rename_i t x lo hi mx
   cases ht
   split at h
   ·cases h;exact .put
   ·unfold yN at h
    split at h
    ·cases hq:q.fs with
     |true=>rw [hq,cond_true] at h;exact Wv h
     |false=>rw [hq,cond_false] at h;exact vC h
    ·exact vC h
    ·exact Wv h
    ·cases h
  ·cases ht
   split at h
   ·cases h;exact .put
   ·split at h
    ·rename_i o e
     cases h
     unfold ZL at e
     split at e
     ·split at e
      ·obtain ⟨_,e⟩:=za e
       obtain ⟨l,_,e⟩:=Option.bind_eq_some_iff.1 e
       cases e;exact .put
      ·cases e
     ·cases e
    ·unfold xj at h
     split at h
     ·split at h
      ·obtain ⟨_,h⟩:=za h
       obtain ⟨l,_,h⟩:=Option.bind_eq_some_iff.1 h
       obtain ⟨l,_,h⟩:=Option.bind_eq_some_iff.1 h
       cases h;exact .put
      ·cases h
     ·cases h
  ·rename_i c args ts _
   simp only at ht
   split at h
   ·rename_i f caps ec
    rw [ec] at ht
    exact zgP (za h).2 ht
   ·cases h
  ·rename_i args ts _
   simp only at ht
   split at h
   ·rename_i x y t t' e1 e2
    rw [e1] at ht
    simp only at ht
    obtain ⟨_,h⟩:=za h
    unfold Z2 at h
    split at h
    ·split at h
     ·split at h
      ·obtain ⟨_,h⟩:=za h
       split at h
       ·rename_i id ex
        rw [ex] at ht;cases ht
        have hid:zw id [id]=true:=Zj (by simp)
        split at h
        ·obtain ⟨_,h⟩:=za h
         obtain ⟨q,_,h⟩:=Option.bind_eq_some_iff.1 h
         obtain ⟨q',_,h⟩:=Option.bind_eq_some_iff.1 h
         cases h
         exact Keeps.trans (.sub hid (by simp only [hid,Bool.true_or])) (.new (by simp only [xa,Bool.or_true]))
        ·cases h
       ·rename_i ex
        rw [ex] at ht;cases ht
        obtain ⟨q,_,h⟩:=Option.bind_eq_some_iff.1 h
        obtain ⟨q',_,h⟩:=Option.bind_eq_some_iff.1 h
        cases h
        exact .new (xa d)
       ·cases h
      ·cases h
     ·cases h
    ·cases h
   ·cases h
  ·exact (pan _ h).elim
  ·obtain ⟨A,_,h⟩:=Option.map_eq_some_iff.1 h
   cases h
   exact .put
omit [Dfr] in
theorem Keeps.owk {id:Nat}{e:Ent C}{d:Option Nat}{l:List Nat}{p:Nat→Bool}(hm:zw (xo id) l=true) (hp:p id=true):Keeps S (S.owk id e) d l p:=by
 have hx:∀ i,Nat.beq i id=true→zw (xo i) l=true:=fun i hi=>by rw [Nat.eq_of_beq_eq_true hi];exact hm
 refine ⟨fun t _ _ h=>wL hx h,fun j hj h=>?_⟩
 show (bif Nat.beq j id then some e else (S.heap j).map (Ent.knx _))=S.heap j
 cases e1:Nat.beq j id with
 |true=>have:=Nat.eq_of_beq_eq_true e1;subst this;rw [hp] at hj;cases hj
 |false=>
  simp only [cond_false]
  cases hs:S.heap j with
  |none=>rfl
  |some en=>
   rw [hs] at h
   cases en with
   |row T s=>rfl
   |obj q T b s=>rfl
   |orow T s g=>rfl
   |cell cs=>show some (Ent.cell (AV.knxs _ cs))=_;rw [Y4 hx h]
def zl6:KN→Option Nat
 | .st _ _ _=>none
 | .cl _ _=>none
 | .apn d _ _ _ _=>some d
 | .apo d _ _ _ _=>some d
 | .bl d _ _ _ _=>some d
 | .mk d _ _ _=>some d
 | .cp d _ _ _ _=>some d
omit [Dfr] in
theorem zii {dst:Option Nat}{op:Op}{k:KN}(h:yV P S dst op=some k):zl6 k=dst:=by
 unfold yV at h
 split at h
 ·cases hc:zaZ S _ _ with
  |true=>rw [hc] at h;cases h;rfl
  |false=>rw [hc] at h;cases h
 ·split at h <;> cases h;rfl
 ·split at h
  ·rename_i x y _ _ _ _
   cases hc:zaY S x with
   |true=>rw [hc] at h;cases h;rfl
   |false=>
    rw [hc,cond_false] at h
    cases hc2:isO S y with
    |true=>rw [hc2] at h;cases h;rfl
    |false=>rw [hc2] at h;cases h
  ·cases h
 ·split at h
  ·cases hc:(C.own (yA P _) && Vm (zo (S.op _)) (C.nst (yA P _))) with
   |true=>rw [hc] at h;cases h;rfl
   |false=>rw [hc] at h;cases h
  ·cases h
 ·cases hc:C.own (yA P _) with
  |true=>rw [hc] at h;cases h;rfl
  |false=>rw [hc] at h;cases h
 ·cases hc:isO S _ with
  |true=>rw [hc] at h;cases h;rfl
  |false=>rw [hc] at h;cases h
 ·cases h
def W9 (S:St C):KN→Option Tch
 | .st _ x y=>(match S.op x with
  | .pr id T _ off=>some (bif Yy off (zo (S.op y)).length (C.nst T) then xo id::AV.rowss (zo (S.op y)) else [],fun i=>Nat.beq i id || zw i (AV.rowss (zo (S.op y))))
  | .nx id _ _ _=>some ([],fun i=>Nat.beq i id)
  |_=>none)
 | .cl _ x=>(match S.op x with
  | .row id=>some ([],fun i=>Nat.beq i id)
  | .nx id _ _ _=>some ([],fun i=>Nat.beq i id)
  |_=>none)
 | .apn d _ _ x _=>(match S.op x with
  | .nx id _ _ _=>some ([xo id,nid d 1],fun i=>Nat.beq i id || Nat.beq (i / 64) (d+1))
  |_=>none)
 | .apo d _ _ x y=>(match S.op x,S.op y with
  | .row id,.row id2=>some ([id,id2],fun i=>zw i [id,id2] || Nat.beq (i / 64) (d+1))
  | .nils,.row id2=>some ([id2],fun i=>zw i [id2] || Nat.beq (i / 64) (d+1))
  |_,_=>none)
 | .bl d _ _ _ y=>some (AV.rowss (zo (S.op y)),fun i=>zw i (AV.rowss (zo (S.op y))) || Nat.beq (i / 64) (d+1))
 | .mk d _ _ _=>some ([],fun i=>Nat.beq (i / 64) (d+1))
 | .cp d _ x _ _=>(match S.op x with
  | .row id=>some ([id],fun i=>zw i [id] || Nat.beq (i / 64) (d+1))
  |_=>none)
omit [Dfr] in
theorem zcq {D:Nat→Type}{id:Nat}:∀ {cs:List (AV D)}{k:Nat},cs[k]?=some (.row id)→id∈AV.rowss cs
 |A::cs,0,h=>by
  simp at h;subst h
  simp [AV.rowss,AV.rows]
 |A::cs,k+1,h=>by
  have:=zcq (cs:=cs) (k:=k) (by simpa using h)
  simp only [AV.rowss,List.mem_append];exact .inr this
 |[],k,h=>by simp at h
omit [Dfr] in
theorem zau {id T0:Nat}{s:Sl (C.D T0)}{g:Own}{i:Int}{off:Nat}{cells:List (AV C.D)}{S':St C}{l:List Nat}{p:Nat→Bool}(h:xl S id T0 s g i off cells some=some (.go S')) (hx:zw (xo id) l=true) (hp:p id=true) (hr:∀ id2,id2∈AV.rowss cells→zw id2 l=true∧p id2=true) {d:Option Nat}:Keeps S S' d l p:=by
 unfold xl at h
 simp only [Xu] at h
 split at h
 ·rename_i id2 hc
  split at h
  ·obtain ⟨_,h⟩:=za h
   obtain ⟨q,_,h⟩:=Option.bind_eq_some_iff.1 h
   obtain ⟨g',_,h⟩:=Option.bind_eq_some_iff.1 h
   obtain ⟨q',_,h⟩:=Option.bind_eq_some_iff.1 h
   cases h
   obtain ⟨r1,r2⟩:=hr id2 (zcq hc)
   exact Keeps.trans (.sub r1 r2) (.owk hx hp)
  ·cases h
 ·obtain ⟨q,_,h⟩:=Option.bind_eq_some_iff.1 h
  split at h
  ·obtain ⟨g',_,h⟩:=Option.bind_eq_some_iff.1 h
   obtain ⟨q',_,h⟩:=Option.bind_eq_some_iff.1 h
   cases h
   exact .owk hx hp
  ·cases h
 ·cases h
omit [Dfr] in
theorem Vc {gid d:Nat}{t:TypeId}{x y:Operand}{S':St C}{l:List Nat}{p:Nat→Bool}(h:Z2 P S d t x y=some (.go S')) (hx:S.op x = .row gid) (hm:zw gid l=true) (hp:p gid=true) (hd:p (nid d 0)=true):Keeps S S' (some d) l p:=by
 unfold Z2 at h
 split at h
 ·split at h
  ·split at h
   ·obtain ⟨_,h⟩:=za h
    rw [hx] at h
    simp only at h
    split at h
    ·obtain ⟨_,h⟩:=za h
     obtain ⟨_,_,h⟩:=Option.bind_eq_some_iff.1 h
     obtain ⟨_,_,h⟩:=Option.bind_eq_some_iff.1 h
     cases h
     exact Keeps.trans (.sub hm hp) (.new hd)
    ·cases h
   ·cases h
  ·cases h
 ·cases h
omit [Dfr] in
theorem zl7 (d:Nat):Nat.beq (nid d 1 / 64) (d+1)=true:=by rw [Wu d 1 (by omega)];simp
omit [Dfr] in
theorem zgQ {k:KN}{S':St C}{l:List Nat}{p:Nat→Bool}(h:xV P S k=some (.go S')) (ht:W9 S k=some (l,p)):Keeps S S' (zl6 k) l p:=by
 cases k with
 |st t x y=>
  simp only [xV] at h
  simp only [W9] at ht
  unfold Yn YV at h
  split at h
  ·rename_i ti id T i off hi ex
   rw [ex] at ht
   cases ht
   split at h
   ·rename_i T' s g hs
    obtain ⟨hc,h⟩:=za h
    simp only [Bool.and_eq_true] at hc
    obtain rfl:=Nat.eq_of_beq_eq_true hc.1
    cases hin:Yy off (zo (S.op y)).length (C.nst T) with
    |true=>
     rw [hin] at h
     simp only [cond_true] at h ⊢
     exact zau h (by simp [zw]) (by simp) fun id2 h2=>⟨by simp [zw,Zj h2],by simp [Zj h2]⟩
    |false=>
     rw [hin] at h
     simp only [cond_false] at h ⊢
     obtain ⟨q,_,h⟩:=Option.bind_eq_some_iff.1 h
     obtain ⟨q',_,h⟩:=Option.bind_eq_some_iff.1 h
     cases h
     exact .ent (by simp)
   ·rename_i T' s hs
    obtain ⟨hc,h⟩:=za h
    simp only [Bool.and_eq_true] at hc
    obtain rfl:=Nat.eq_of_beq_eq_true hc.1
    rw [hc.2.2]
    simp only [cond_true]
    exact zau h (by simp [zw]) (by simp) fun id2 h2=>⟨by simp [zw,Zj h2],by simp [Zj h2]⟩
   ·cases h
  ·rename_i ti id T i U k off hi ex
   rw [ex] at ht
   cases ht
   split at h
   ·obtain ⟨_,h⟩:=za h
    obtain ⟨q,_,h⟩:=Option.bind_eq_some_iff.1 h
    split at h
    ·obtain ⟨_,h⟩:=za h
     obtain ⟨_,_,h⟩:=Option.bind_eq_some_iff.1 h
     obtain ⟨_,_,h⟩:=Option.bind_eq_some_iff.1 h
     obtain ⟨_,_,h⟩:=Option.bind_eq_some_iff.1 h
     cases h
     exact .ent (by simp)
    ·cases h
   ·cases h
  ·cases h
 |cl t x=>
  simp only [xV] at h
  simp only [W9] at ht
  unfold Y8 xx at h
  split at h
  ·split at h
   ·split at h
    ·split at h
     ·rename_i id ex
      rw [ex] at ht
      cases ht
      split at h
      ·obtain ⟨_,h⟩:=za h
       obtain ⟨_,_,h⟩:=Option.bind_eq_some_iff.1 h
       cases h
       exact .ent (by simp)
      ·cases h
     ·rename_i id T i ex
      rw [ex] at ht
      cases ht
      split at h
      ·obtain ⟨_,h⟩:=za h
       obtain ⟨_,_,h⟩:=Option.bind_eq_some_iff.1 h
       split at h
       ·obtain ⟨_,h⟩:=za h
        obtain ⟨_,_,h⟩:=Option.bind_eq_some_iff.1 h
        obtain ⟨_,_,h⟩:=Option.bind_eq_some_iff.1 h
        cases h
        exact .ent (by simp)
       ·cases h
      ·cases h
     ·cases h
    ·cases h
   ·cases h
  ·cases h
 |apn d t t' x y=>
  simp only [xV] at h
  simp only [W9] at ht
  have h:=(za h).2
  unfold xT at h
  cases x with
  |const v=>cases h
  |global g=>cases h
  |func f=>cases h
  |tmp tx=>
   simp only at h
   split at h
   ·rename_i id T i ex
    have ht:(match S.env tx with | .nx id _ _ _=>some ([xo id,nid d 1],fun i=>Nat.beq i id || Nat.beq (i / 64) (d+1)) | _=>none)=some (l,p):=ht
    rw [ex] at ht
    cases ht
    unfold xS at h
    split at h
    ·obtain ⟨hc,h⟩:=za h
     simp only [Bool.and_eq_true] at hc
     obtain ⟨_,_,h⟩:=Option.bind_eq_some_iff.1 h
     split at h
     ·have k2:=Vc (gid:=nid d 1) (l:=[xo id,nid d 1]) (p:=fun i=>Nat.beq i id || Nat.beq (i / 64) (d+1)) h (by show upd S.env tx _ tx=_;rw [zn]) (by simp [zw]) (by simp [zl7]) (by simp [xa])
      refine Keeps.trans ⟨fun t ht hd ha=>?_,fun j hj _=>?_⟩ k2
      ·show upd S.env tx _ t=S.env t
       by_cases e:t=tx
       ·subst e
        rw [ex] at ha
        simp [AV.avoid,zw] at ha
       ·rw [zp e]
      ·show upd (upd S.heap id _) (nid d 1) _ j=S.heap j
       rw [zp fun e=>by subst e;simp [zl7] at hj,zp fun e=>by subst e;simp at hj]
     ·cases h
    ·cases h
   ·cases h
 |apo d t t' x y=>
  simp only [xV] at h
  simp only [W9] at ht
  obtain ⟨_,h⟩:=za h
  unfold xU Xl at h
  split at h
  ·split at h
   ·split at h
    ·obtain ⟨_,h⟩:=za h
     split at h
     ·rename_i id2 ey
      rw [ey] at ht
      split at h
      ·split at h
       ·rename_i id ex
        rw [ex] at ht
        cases ht
        split at h
        ·obtain ⟨_,h⟩:=za h
         obtain ⟨_,_,h⟩:=Option.bind_eq_some_iff.1 h
         obtain ⟨_,_,h⟩:=Option.bind_eq_some_iff.1 h
         cases h
         exact Keeps.trans (.sub (by simp [zw]) (by simp [zw])) (Keeps.trans (.sub (by simp [zw]) (by simp [zw])) (.new (by simp [xa])))
        ·cases h
       ·rename_i ex
        rw [ex] at ht
        cases ht
        obtain ⟨_,_,h⟩:=Option.bind_eq_some_iff.1 h
        obtain ⟨_,_,h⟩:=Option.bind_eq_some_iff.1 h
        cases h
        exact Keeps.trans (.sub (by simp [zw]) (by simp [zw])) (.new (by simp [xa]))
       ·cases h
      ·cases h
     ·cases h
    ·cases h
   ·cases h
  ·cases h
 |bl d t i m y=>
  simp only [xV] at h
  simp only [W9] at ht
  cases ht
  obtain ⟨_,h⟩:=za h
  unfold Yp YX at h
  split at h
  ·split at h
   ·split at h
    ·obtain ⟨_,h⟩:=za h
     split at h
     ·rename_i id2 hc
      split at h
      ·obtain ⟨_,_,h⟩:=Option.bind_eq_some_iff.1 h
       cases h
       have hm:=Zj (zcq hc)
       exact Keeps.trans (.sub hm (by simp [hm])) (.new (by simp [xa]))
      ·cases h
     ·cases h
    ·cases h
   ·cases h
  ·cases h
 |mk d t x y=>
  simp only [xV] at h
  simp only [W9] at ht
  cases ht
  unfold Y6 xv at h
  split at h
  ·split at h
   ·split at h
    ·obtain ⟨_,h⟩:=za h
     split at h
     ·obtain ⟨_,_,h⟩:=Option.bind_eq_some_iff.1 h
      split at h
      ·obtain ⟨_,h⟩:=za h
       obtain ⟨_,_,h⟩:=Option.bind_eq_some_iff.1 h
       cases h
       exact .new (by simp [xa])
      ·cases h
     ·cases h
    ·cases h
   ·cases h
  ·cases h
 |cp d t x hi mx=>
  simp only [xV] at h
  simp only [W9] at ht
  unfold Y7 xw at h
  split at h
  ·split at h
   ·split at h
    ·rename_i id ex
     rw [ex] at ht
     cases ht
     split at h
     ·obtain ⟨_,h⟩:=za h
      split at h
      ·obtain ⟨_,h⟩:=za h
       obtain ⟨_,_,h⟩:=Option.bind_eq_some_iff.1 h
       cases h
       exact Keeps.trans (.sub (by simp [zw]) (by simp [zw])) (.new (by simp [xa]))
      ·cases h
     ·cases h
    ·cases h
   ·cases h
  ·cases h
def tch (Γ:List (Spec C)) (P:Program) (o:Oper) (S:St C):Option Tch:=match yV P S o.dst o.op with
 |some k=>W9 S k
 |none=>zjs Γ P o S
omit [Dfr] in
theorem zij {q:Opts}{Γ:List (Spec C)}{n:Nat}{o:Oper}{S':St C}{l:List Nat}{p:Nat→Bool}(h:stp q Γ P n o S=some (.go S')) (ht:tch Γ P o S=some (l,p)):Keeps S S' o.dst l p:=by
 unfold stp at h
 unfold tch at ht
 cases hk:yV P S o.dst o.op with
 |some k=>
  rw [hk] at h ht
  obtain ⟨_,h⟩:=za h
  rw [← zii hk]
  exact zgQ h ht
 |none=>rw [hk] at h ht;exact zlu h ht
end
end Go.Px
namespace Go.Px
set_option linter.unusedSectionVars false
variable [Dfr]
set_option linter.unusedVariables false
def Ww:List Operand→List Nat
 |[]=>[]
 | .tmp t::r=>t::Ww r
 |_::r=>Ww r
omit [Dfr] in
theorem va {t:Nat}:∀ {l:List Operand},Operand.tmp t∈l→t∈Ww l
 |x::r,h=>by
  rcases List.mem_cons.1 h with h | h
  ·subst h;simp [Ww]
  ·have:=va h
   cases x <;> simp [Ww,this]
def xf (ops:Array Oper) (o:Oper):List Nat:=match o.guard with
 |none=>[]
 |some (j,_)=>match (ops[j]?).bind (·.dst) with
  |some d=>[d]
  |none=>[]
def yF (ops:Array Oper) (o:Oper):List Nat:=Ww o.op.operands.toList++xf ops o
def zy (o:Oper):List Nat:=(o.after.toList.filter (Region.binds .any)).map (·.on)
omit [Dfr] in
theorem zgR {o:Oper}{e:Edge}(h:e∈o.after) (hb:Region.binds .any e=true):e.on∈zy o:=List.mem_map.2 ⟨e,List.mem_filter.2 ⟨by simpa using h,hb⟩,rfl⟩
def vb (l cl:List Nat):Bool:=l.all fun j=>zw j cl
def VN:List (Nat×Nat)→Nat→Nat
 |[],_=>0
 |(i,m)::r,j=>bif Nat.beq i j then m else VN r j
def Z3 (al:List (Nat×Nat)):List Nat→Nat
 |[]=>0
 |j::ds=>Nat.lor (Nat.lor (Nat.shiftLeft 1 j) (VN al j)) (Z3 al ds)
section
variable {C:Cod}{ρ:Type}
def zbD (S:St C) (l:List Nat) (dst:Option Nat) (t:Nat):Bool:=(S.env t).avoid l && (Nat.blt t vB && (match dst with | some d=> !Nat.beq t d | none=>true))
def zbE (ops:Array Oper) (S:St C) (l:List Nat) (p:Nat→Bool) (dst:Option Nat) (r:Nat):Bool:=match ops[r]? with
 |some q=>(yF ops q).all (zbD S l dst) && ((match q.dst with | some d=>zbD S l dst d | none=>true) && (zcm S q.op).all fun id=> !p id && zem l (S.heap id))
 |none=>true
def Vd (S:St C) (l:List Nat):St C:={S with env:=fun t=>bif zw t l then .und else S.env t}
def zl8 (ops:Array Oper):List Nat:=ops.toList.filterMap (·.dst)
def Xd (ops:Array Oper) (n:Nat) (cl:List Nat) (taken:List Nat) (i:Nat) (o:Oper):Bool:=match o.dst with
  |none=>true
  |some d=>Nat.blt d n && (Nat.blt d vB && (!zw d (yF ops o) &&
      ((List.range ops.size).all fun j=>Nat.beq j i || (match ops[j]? with
        |none=>true
        |some q=>(bif zw j cl then (!zw j taken || !zw d (yF ops q)) else (!zw d (yF ops q) || zw i (zy q))) && (match q.dst with
            |some d'=> !Nat.beq d d'
            |none=>true)))))
def flB (C:Cod) (P:Program) (ops:Array Oper) (n j:Nat):Bool:=match ops[j]? with
  |none=>false
  |some o=>(match o.dst,o.op,o.guard with
    |some d,.alloc t,none=>(match P.info? t with
      |some ti=>(match ti.zero with
        |some zv=>(match C.oal t zv.cells.toList with
          |none=>Nat.blt d n && (Nat.blt d vB && (List.range ops.size).all fun j'=>Nat.beq j' j || (match ops[j']? with
              |none=>true
              |some q=>(!zw d (yF ops q) || zw j (zy q)) && (match q.dst with
                |some d'=> !Nat.beq d d'
                |none=>true)))
          |some _=>false)
        |none=>false)
      |none=>false)
    |_,_,_=>false)
def Xe (C:Cod) (P:Program) (ops:Array Oper) (n:Nat):List Nat:=(List.range ops.size).filter (flB C P ops n)
def rmL (i:Nat) (l:List Nat):List Nat:=l.filter fun j=> !Nat.beq j i
def zgS (ops:Array Oper) (fl cl:List Nat) (i:Nat):Bool:=(List.range ops.size).all fun j=>Nat.beq j i || (zw j fl || (zw j cl || (match ops[j]? with
 |none=>true
 |some q=> !vb (zy q) (rmL i fl++cl))))
def zik (ops:Array Oper) (fl cl:List Nat) (i i2:Nat):Bool:=(List.range ops.size).all fun j=>(Nat.beq j i || Nat.beq j i2) || (zw j fl || (zw j cl || (match ops[j]? with
 |none=>true
 |some q=> !vb (zy q) (rmL i (rmL i2 fl)++cl))))
open Classical in
noncomputable def xP {α:Type}(a b:Option α):Option α:=if a=b then a else none
omit [Dfr] in
theorem zav {α:Type}(a:Option α):xP a a=a:=by unfold xP;rw [if_pos rfl]
omit [Dfr] in
theorem Wf {α:Type}{a b:Option α}{r:α}(h:xP a b=some r):a=some r∧b=some r:=by
 unfold xP at h
 split at h
 ·rename_i e;exact ⟨h,e ▸ h⟩
 ·cases h
def ZO (stp:ZT C) (tc:Oper→St C→Option Tch) (P:Program) (n:Nat) (ops:Array Oper) (okB:Bool) (cl taken:List Nat) (m:Nat) (K:XE C→St C→Option ρ) (i:Nat) (early:Bool) (o:Oper) (run:Bool) (S:St C) (next:St C→List Nat→Option ρ):Option ρ:=
  bif early then chk (Xd ops n cl taken i o) (bif run then (match o.dst with
      |some d=>chk (rdQ o.op) (zjl P S o.type o.op fun A=>next (S.put d A) (i::taken))
      |none=>none)
    else (match o.dst with
      |some d=>next (S.put d (.tup [])) (i::taken)
      |none=>next S (i::taken)))
  else chk okB (bif run then (match tc o S with
      |none=>none
      |some (l,p)=>chk (taken.all fun r=>Nat.testBit m r || zbE ops S l p o.dst r) (stp o S _ fun out=>match out with
        | .go S'=>next S' taken
        | .pan v S'=>K (.pan v) (Vd S' (zl8 ops))))
    else chk (taken.all fun r=>Nat.testBit m r || zbE ops S [] (fun _=>false) o.dst r) (match o.dst with
      |some d=>chk (Nat.blt d n) (next (S.put d (.tup [])) taken)
      |none=>next S taken))
def Yh (stp:ZT C) (tc:Oper→St C→Option Tch) (P:Program) (n:Nat) (ops:Array Oper) (okB:Bool) (i:Nat) (early:Bool) (cl taken:List Nat) (al:List (Nat×Nat)) (S:St C) (K:XE C→St C→Option ρ) (next:List Nat→List Nat→List (Nat×Nat)→St C→Option ρ):Option ρ:=match ops[i]? with
    |none=>none
    |some o=>chk (!zw i cl && vb (zy o) cl) (match o.guard with
      |none=>ZO stp tc P n ops okB cl taken (Z3 al (zy o)) K i early o true S fun S tk=>next (i::cl) tk ((i,Z3 al (zy o))::al) S
      |some (j,want)=>chk (zw j (zy o)) (match (ops[j]?).bind (·.dst) with
        |none=>none
        |some dg=>match S.env dg with
          | .bool q=>if q=true then ZO stp tc P n ops okB cl taken (Z3 al (zy o)) K i early o want (S.put dg (.bool true)) (fun S tk=>next (i::cl) tk ((i,Z3 al (zy o))::al) S)
              else ZO stp tc P n ops okB cl taken (Z3 al (zy o)) K i early o (!want) (S.put dg (.bool false)) (fun S tk=>next (i::cl) tk ((i,Z3 al (zy o))::al) S)
          | .tup []=>ZO stp tc P n ops okB cl taken (Z3 al (zy o)) K i early o false S fun S tk=>next (i::cl) tk ((i,Z3 al (zy o))::al) S
          |_=>none))
def xb (ops:Array Oper) (cl:List Nat) (i:Nat):Bool:=match ops[i]? with
 |some o=> !zw i cl && vb (zy o) cl
 |none=>false
noncomputable def Ze (stp:ZT C) (tc:Oper→St C→Option Tch) (P:Program) (n:Nat) (ops:Array Oper):List (Nat×Bool)→List Nat→List Nat→List (Nat×Nat)→St C→(XE C→St C→Option ρ)→Option ρ
  |[],cl,taken,al,S,K=>chk (vb (List.range ops.size) cl) (K .normal S)
  |(i,early)::ord,cl,taken,al,S,K=>bif Nat.blt i 4096 then
      (bif xb ops cl i then Yh stp tc P n ops (zgS ops (Xe C P ops n) cl i) i early cl taken al S K fun cl tk al S=>Ze stp tc P n ops ord cl tk al S K
      else Ze stp tc P n ops ord cl taken al S K)
    else bif xb ops cl ((i - 4096) / 64) && xb ops cl ((i - 4096) % 64) then chk (zik ops (Xe C P ops n) cl ((i - 4096) / 64) ((i - 4096) % 64)) (xP
      (Yh stp tc P n ops true ((i - 4096) / 64) false cl taken al S K fun cl tk al S=>Ze stp tc P n ops ord cl tk al S K)
      (Yh stp tc P n ops true ((i - 4096) % 64) false cl taken al S K fun cl tk al S=>Ze stp tc P n ops ord cl tk al S K))
    else Ze stp tc P n ops ord cl taken al S K
end
end Go.Px
namespace Go.Px
set_option linter.unusedSectionVars false
variable [Dfr]
set_option linter.unusedVariables false
section
variable {κ:Kp}{C:Cod}{S S1:St C}{n:Nat}{w0:Start}{σ0:FS}{P:Program}{ρ:Type}{ops:Array Oper}{D:Nat→Prop}{Γ:List (Spec C)}{qo:Opts}
def YG (ops:Array Oper) (S:St C) (q:Oper) (run:Bool):Prop:=match q.guard with
 |none=>run=true
 |some (j,want)=>∃ dg,(ops[j]?).bind (·.dst)=some dg∧((∃ b,S.env dg = .bool b∧run=(b == want))∨(S.env dg = .tup []∧run=false))
def QV (P:Program) (ops:Array Oper) (S:St C) (q:Oper):Prop:=∃ run,YG ops S q run∧match run with
 |true=>rdQ q.op=true∧∃ d,q.dst=some d∧evQ P S q.type q.op=some (S.env d)
 |false=>∀ d,q.dst=some d→S.env d = .tup []
omit [Dfr] in
theorem YG.congr {q:Oper}{run:Bool}(h:YG ops S q run) (he:∀ t∈xf ops q,S1.env t=S.env t):YG ops S1 q run:=by
 unfold YG xf at *
 cases hg:q.guard with
 |none=>rw [hg] at h;exact h
 |some jw=>
  obtain ⟨j,want⟩:=jw
  rw [hg] at h he
  simp only at h he ⊢
  obtain ⟨dg,e,h⟩:=h
  rw [e] at he
  refine ⟨dg,e,?_⟩
  rw [he dg (by simp)]
  exact h
omit [Dfr] in
theorem Xr {q:Oper}{t:Nat}(h:t∈xf ops q):t∈yF ops q:=List.mem_append_right _ h
omit [Dfr] in
theorem Ve {q:Oper}{ty:TypeId}(he:∀ t∈yF ops q,S1.env t=S.env t) (hh:∀ id∈zcm S q.op,S1.heap id=S.heap id):evQ P S1 ty q.op=evQ P S ty q.op:=by
 have hop:∀ x∈q.op.operands.toList,S.op x=S1.op x:=fun x hx=>by
  cases x with
  |tmp t=>exact (he t (List.mem_append_left _ (va hx))).symm
  |const v=>rfl
  |global g=>rfl
  |func f=>rfl
 unfold evQ
 split
 ·rename_i t m parts e
  rw [e] at hop
  have:∀ e,yj S1 e (parts.toList.map (·.2))=yj S e (parts.toList.map (·.2)):=fun e=>zbw (S:=S1) (T:=S) fun x hx=>(hop x (by simpa [Op.operands] using hx)).symm
  unfold v7
  simp only [this]
 ·exact (zfI (S:=S) (T:=S1) hop fun id hid=>(hh id hid).symm).symm
omit [Dfr] in
theorem QV.congr {q:Oper}(h:QV P ops S q) (he:∀ t∈yF ops q,S1.env t=S.env t) (hd:∀ d,q.dst=some d→S1.env d=S.env d) (hh:∀ id∈zcm S q.op,S1.heap id=S.heap id):QV P ops S1 q:=by
 obtain ⟨run,hg,h⟩:=h
 refine ⟨run,hg.congr fun t ht=>he t (Xr ht),?_⟩
 cases run with
 |true=>
  obtain ⟨h1,d,h2,h3⟩:=h
  exact ⟨h1,d,h2,by rw [Ve he hh,h3,hd d h2]⟩
 |false=>exact fun d e=>by rw [hd d e];exact h d e
omit [Dfr] in
theorem Vf {l:List Nat}{p:Nat→Bool}{dst:Option Nat}{t:Nat}(hk:Keeps S S1 dst l p) (h:zbD S l dst t=true):S1.env t=S.env t:=by
 simp only [zbD,Bool.and_eq_true] at h
 obtain ⟨h1,h2,h3⟩:=h
 refine hk.env t (by rwa [Nat.blt_eq] at h2) (fun e=>?_) h1
 rw [e] at h3;simp at h3
omit [Dfr] in
theorem QV.keep {l:List Nat}{p:Nat→Bool}{dst:Option Nat}{r:Nat}{q:Oper}(h:QV P ops S q) (hk:Keeps S S1 dst l p) (hq:ops[r]?=some q) (hr:zbE ops S l p dst r=true):QV P ops S1 q:=by
 unfold zbE at hr
 rw [hq] at hr
 simp only [Bool.and_eq_true] at hr
 obtain ⟨h1,h2,h3⟩:=hr
 refine h.congr (fun t ht=>Vf hk (List.all_eq_true.1 h1 t ht)) (fun d e=>?_) fun id hid=>?_
 ·rw [e] at h2;exact Vf hk h2
 ·have:=List.all_eq_true.1 h3 id hid
  simp only [Bool.and_eq_true,Bool.not_eq_true'] at this
  exact hk.heap id this.1 this.2
theorem YG.wanted {a:Act}{w:World}{q:Oper}{run:Bool}(h:YG ops S q run) (hA:At n w0 σ0 κ S a w):Region.wanted q (yielded ops a.tmps)=run:=by
 unfold YG at h
 unfold Region.wanted
 cases hg:q.guard with
 |none=>rw [hg] at h;exact h.symm
 |some jw=>
  obtain ⟨j,want⟩:=jw
  rw [hg] at h
  simp only at h ⊢
  obtain ⟨dg,e,h⟩:=h
  have hy:=hA.yield e
  rcases h with ⟨b,h1,h2⟩ | ⟨h1,h2⟩
  ·rw [hy.1 b h1,h2];simp
  ·rw [hy.2 h1,h2];simp
theorem At.eqx {a:Act}{w:World}(h:At n w0 σ0 κ S a w) (e:EqX (fun _=>False) S S1):At n w0 σ0 κ S1 a w:=by
 have:S=S1:=by
  obtain ⟨e1,h1⟩:=S
  obtain ⟨e2,h2⟩:=S1
  have a1:h1=h2:=e.heap
  have a2:e1=e2:=funext fun t=>e.env t fun h=>h
  rw [a1,a2]
 rw [← this];exact h
theorem zjt (hgl:C.gl w0.w σ0) (hΓ:∀ s∈Γ,s.OK P) {r:Nat}{q:Oper}{a:Act}{w:World}{So:St C}(hq:ops[r]?=some q) (hA:At n w0 σ0 κ So a w) (hX:EqX D So S) (hv:QV P ops S q) (hl:∀ t∈yF ops q,¬ D t) (hn:∀ d,q.dst=some d→Nat.blt d n=true) {Q:Exit→Act→World→Prop}{K:Act→World→Prop}
    (hK:∀ S1 a' w',At n w0 σ0 κ S1 a' w'→EqX (fun t=>D t∧q.dst≠some t) S1 S→K a' w'):wpOp P ops Q r K a w:=by
  obtain ⟨run,hg,hv⟩:=hv
  have hg':YG ops So q run:=hg.congr fun t ht=>hX.env t (hl t (Xr ht))
  have hput:∀ d A,q.dst=some d→S.env d=A→EqX (fun t=>D t∧q.dst≠some t) (So.put d A) S:=fun d A e eA=>⟨hX.heap,fun t ht=>by
    show upd So.env d A t=S.env t
    by_cases h:t=d
    · subst h;rw [zn,eA]
    · rw [zp h]
      exact hX.env t fun hd=>ht ⟨hd,fun e'=>h (by rw [e] at e';exact (Option.some.inj e').symm)⟩⟩
  unfold wpOp
  rw [hq]
  simp only [hg'.wanted hA]
  cases run with
  |true=>
    simp only [if_true]
    left
    obtain ⟨hr,d,hd,he⟩:=hv
    obtain ⟨L,b,σ,PV,hAb,hi,hf⟩:=hA
    have hev:evQ P So q.type q.op=some (S.env d):=by
      rw [← he]
      exact Ve (ops:=ops) (fun t ht=>hX.env t (hl t ht)) fun id _=>by rw [hX.heap]
    obtain ⟨ν,vs,ids,hAb⟩:=hAb
    have hok:=zl1 (P:=P) (n:=n) (w0:=w0) (σ0:=σ0) (q:=⟨false⟩) (Γ:=Γ) (ps:=q.pos) (af:=q.after) (g:=q.guard) hAb (hn d hd) hr hev
    have hqe:q=⟨some d,q.op,q.type,q.pos,q.after,q.guard⟩:=by
      cases q;simp only at hd;subst hd;rfl
    rw [← hqe] at hok
    refine hok _ rfl a w hi hf K Q ?_ ?_
    · intro S' e L' σ' PV' a' w' hi' hf' hA'
      cases e
      exact hK _ _ _ ⟨L',b,σ',PV',hA',hi',hf'⟩ (hput d _ hd rfl)
    · intro v S' e;cases e
  |false=>
    simp only [Bool.false_eq_true,if_false]
    cases hd:q.dst with
    |none=>
      refine hK So _ _ hA ⟨hX.heap,fun t ht=>hX.env t fun h=>ht ⟨h,by rw [hd];simp⟩⟩
    |some d=>exact hK _ _ _ (hA.skip (hn d hd)) (hput d _ hd (hv d hd))
def WfL (ops:Array Oper):List Nat→Prop
 |[]=>True
 |i::cl=>(∀ o,ops[i]?=some o→∀ j∈zy o,j∈cl)∧WfL ops cl
def zbF (ops:Array Oper) (al:List (Nat×Nat)):Prop:=∀ i m,(i,m)∈al→∀ o,ops[i]?=some o→∀ X:Nat→Prop,(∀ k q,ops[k]?=some q→X k→∀ j∈zy q,X j)→(∀ j,X j→j < ops.size)→X i→∀ a,Nat.testBit m a=true→X a
omit [Dfr] in
theorem zc1:∀ {al:List (Nat×Nat)}{j a:Nat},Nat.testBit (VN al j) a=true→∃ m,(j,m)∈al∧Nat.testBit m a=true
 |[],j,a,h=>by simp [VN] at h
 |(i,m)::r,j,a,h=>by
  unfold VN at h
  cases e:Nat.beq i j with
  |true=>rw [e] at h;have:=Nat.eq_of_beq_eq_true e;subst this;exact ⟨m,by simp,h⟩
  |false=>
   rw [e] at h
   obtain ⟨m',h1,h2⟩:=zc1 h
   exact ⟨m',List.mem_cons_of_mem _ h1,h2⟩
omit [Dfr] in
theorem zen {j a:Nat}(h:Nat.testBit (Nat.shiftLeft 1 j) a=true):a=j:=by
 have h:Nat.testBit (1 <<< j) a=true:=h
 rw [Nat.one_shiftLeft,Nat.testBit_two_pow] at h
 exact (of_decide_eq_true h).symm
omit [Dfr] in
theorem VO {al:List (Nat×Nat)}(hal:zbF ops al) (X:Nat→Prop) (hX:∀ k q,ops[k]?=some q→X k→∀ j∈zy q,X j) (hin:∀ j,X j→j < ops.size):∀ {ds:List Nat},(∀ j∈ds,X j)→∀ a,Nat.testBit (Z3 al ds) a=true→X a
 |[],_,a,h=>by simp [Z3] at h
 |j::ds,hd,a,h=>by
  have h:Nat.testBit (((Nat.shiftLeft 1 j) ||| (VN al j)) ||| (Z3 al ds)) a=true:=h
  rw [Nat.testBit_or,Nat.testBit_or,Bool.or_eq_true,Bool.or_eq_true] at h
  rcases h with (h | h) | h
  ·rw [zen h];exact hd j (by simp)
  ·obtain ⟨m,h1,h2⟩:=zc1 h
   have hj:=hd j (by simp)
   obtain ⟨o,ho⟩:∃ o,ops[j]?=some o:=⟨ops[j]'(hin j hj),Array.getElem?_eq_getElem _⟩
   exact hal j m h1 o ho X hX hin hj a h2
  ·exact VO hal X hX hin (fun k hk=>hd k (List.mem_cons_of_mem _ hk)) a h
end
end Go.Px
namespace Go.Px
set_option linter.unusedSectionVars false
variable [Dfr]
set_option linter.unusedVariables false
abbrev onX (X:Array Bool) (k:Nat):Bool:=X.getD k false
omit [Dfr] in
theorem zaT {X:Array Bool}{i:Nat}(h:i < X.size):onX (X.setIfInBounds i true) i=true:=by
 unfold onX;rw [Array.getD_eq_getD_getElem?];simp [h]
omit [Dfr] in
theorem xQ {X:Array Bool}{i k:Nat}(h:i≠k):onX (X.setIfInBounds i true) k=onX X k:=by
 unfold onX;rw [Array.getD_eq_getD_getElem?,Array.getElem?_setIfInBounds_ne h,← Array.getD_eq_getD_getElem?]
omit [Dfr] in
theorem yQ {X:Array Bool}{i k:Nat}(h:onX X k=true):onX (X.setIfInBounds i true) k=true:=by
 by_cases e:i=k
 ·subst e
  rcases Nat.lt_or_ge i X.size with z | z
  ·exact zaT z
  ·unfold onX at h;rw [Array.getD_eq_getD_getElem?,Array.getElem?_eq_none z] at h;cases h
 ·rw [xQ e];exact h
omit [Dfr] in
theorem yz {X:Array Bool}{i k:Nat}(h:onX (X.setIfInBounds i true) k=false):onX X k=false:=by
 cases e:onX X k with
 |false=>rfl
 |true=>rw [yQ e] at h;cases h
omit [Dfr] in
theorem zil {X:Array Bool}{k:Nat}(h:onX X k=true):k < X.size:=by
 rcases Nat.lt_or_ge k X.size with z | z
 ·exact z
 ·unfold onX at h;rw [Array.getD_eq_getD_getElem?,Array.getElem?_eq_none z] at h;cases h
omit [Dfr] in
theorem zeo {X:Array Bool}{k:Nat}(h:k < X.size):X.getD k true=onX X k:=by
 unfold onX;rw [Array.getD_eq_getD_getElem?,Array.getD_eq_getD_getElem?];simp [h]
omit [Dfr] in
theorem zcr {X:Array Bool}{i:Nat}(hi:i < X.size) (h:onX X i=false) {fuel:Nat}(hc:X.toList.count false≤fuel+1):(X.setIfInBounds i true).toList.count false≤fuel:=by
 rw [Array.toList_setIfInBounds,List.count_set (by simpa using hi)]
 have h0:X.toList[i]'(by simpa using hi)=false:=by
  unfold onX at h;rw [Array.getD_eq_getD_getElem?] at h;simp [hi] at h;simpa using h
 rw [h0]
 show X.toList.count false - 1+0≤fuel
 omega
omit [Dfr] in
theorem zfP {X:Array Bool}{i:Nat}(hi:i < X.size) (h:onX X i=false):0 < X.toList.count false:=by
 rw [List.count_pos_iff]
 have h0:X.toList[i]'(by simpa using hi)=false:=by
  unfold onX at h;rw [Array.getD_eq_getD_getElem?] at h;simp [hi] at h;simpa using h
 rw [← h0];exact List.getElem_mem _
section
variable {Fx:List Nat}{κ:Kp}{C:Cod}{S S':St C}{n:Nat}{w0:Start}{σ0:FS}{P:Program}{ρ:Type}{ops:Array Oper}{Γ:List (Spec C)}{qo:Opts}{cl taken:List Nat}{al:List (Nat×Nat)}{X:Array Bool}
structure Cfg (P:Program) (ops:Array Oper) (n:Nat) (cl taken:List Nat) (al:List (Nat×Nat)) (S:St C) (X:Array Bool) (Fx:List Nat):Prop where
 size:X.size=ops.size
 sub:∀ i,onX X i=true→i∈cl∨i∈Fx
 fon:∀ i∈Fx,onX X i=true∧i ∉ cl
 wf:WfL ops cl
 tk:∀ i∈cl,onX X i=false→i∈taken
 inc:∀ i∈cl,i < ops.size
 tcl:∀ i∈taken,i∈cl
 closed:∀ k q,ops[k]?=some q→onX X k=true→∀ j∈zy q,onX X j=true
 qv:∀ r q,r∈taken→onX X r=false→ops[r]?=some q→QV P ops S q
 ds:∀ r q d,r∈taken→onX X r=false→ops[r]?=some q→q.dst=some d→Nat.blt d n=true∧d < vB∧d ∉ yF ops q∧∀ j o,ops[j]?=some o→j≠r→(onX X j=false→d∈yF ops o→r∈zy o)∧o.dst≠some d
 anc:zbF ops al
def zgT (ops:Array Oper) (taken:List Nat) (X:Array Bool) (t:Nat):Prop:=∃ r q,r∈taken∧onX X r=false∧ops[r]?=some q∧q.dst=some t
omit [Dfr] in
theorem Cfg.hit (h:Cfg P ops n cl taken al S X Fx) {i:Nat}(hi:i∈cl) (hd:∀ q,ops[i]?=some q→∀ j∈zy q,onX X j=true):Cfg P ops n cl taken al S (X.setIfInBounds i true) Fx where
 size:=by simp [h.size]
 sub k hk:=by
  by_cases e:i=k
  ·subst e;exact .inl hi
  ·rw [xQ e] at hk;exact h.sub k hk
 fon k hk:=⟨yQ (h.fon k hk).1,(h.fon k hk).2⟩
 wf:=h.wf
 tk k hk ho:=h.tk k hk (yz ho)
 inc:=h.inc
 tcl:=h.tcl
 closed k q hq hk j hj:=by
  by_cases e:i=k
  ·subst e;exact yQ (hd q hq j hj)
  ·rw [xQ e] at hk;exact yQ (h.closed k q hq hk j hj)
 qv r q hr ho hq:=h.qv r q hr (yz ho) hq
 ds r q d hr ho hq he:=by
  obtain ⟨h1,h2,h3,h4⟩:=h.ds r q d hr (yz ho) hq he
  exact ⟨h1,h2,h3,fun j o hj hne=>⟨fun k=>(h4 j o hj hne).1 (yz k),(h4 j o hj hne).2⟩⟩
 anc:=h.anc
omit [Dfr] in
theorem zbF.add (h:zbF ops al) {i:Nat}{o:Oper}(ho:ops[i]?=some o):zbF ops ((i,Z3 al (zy o))::al):=by
 intro j m hm q hq Y hY hin hj a ha
 rcases List.mem_cons.1 hm with e | e
 ·cases e
  rw [ho] at hq;cases hq
  exact VO h Y hY hin (hY i o ho hj) a ha
 ·exact h j m e q hq Y hY hin hj a ha
omit [Dfr] in
theorem Cfg.sync (h:Cfg P ops n cl taken al S X Fx) {i:Nat}{o:Oper}(ho:ops[i]?=some o) (hi:i ∉ cl) (hiF:i ∉ Fx) (hd:∀ j∈zy o,j∈cl) (hx:∀ j∈zy o,onX X j=true) (hq:∀ r q,r∈taken→onX X r=false→ops[r]?=some q→QV P ops S' q):Cfg P ops n (i::cl) taken ((i,Z3 al (zy o))::al) S' (X.setIfInBounds i true) Fx where
 size:=by simp [h.size]
 sub k hk:=by
  by_cases e:i=k
  ·subst e;simp
  ·rw [xQ e] at hk;exact (h.sub k hk).imp_left (List.mem_cons_of_mem _)
 fon k hk:=⟨yQ (h.fon k hk).1,fun hm=>by
  rcases List.mem_cons.1 hm with e | e
  ·exact hiF (e ▸ hk)
  ·exact (h.fon k hk).2 e⟩
 wf:=⟨fun o' ho' j hj=>by rw [ho] at ho';cases ho';exact hd j hj,h.wf⟩
 tk k hk hoff:=by
  rcases List.mem_cons.1 hk with e | e
  ·subst e;rw [zaT (by rw [h.size];exact (Array.getElem?_eq_some_iff.1 ho).1)] at hoff;cases hoff
  ·exact h.tk k e (yz hoff)
 inc k hk:=by
  rcases List.mem_cons.1 hk with e | e
  ·subst e;exact (Array.getElem?_eq_some_iff.1 ho).1
  ·exact h.inc k e
 tcl k hk:=List.mem_cons_of_mem _ (h.tcl k hk)
 closed k q hq hk j hj:=by
  by_cases e:i=k
  ·subst e;rw [ho] at hq;cases hq;exact yQ (hx j hj)
  ·rw [xQ e] at hk;exact yQ (h.closed k q hq hk j hj)
 qv r q hr hoff hq':=hq r q hr (yz hoff) hq'
 ds r q d hr hoff hq he:=by
  obtain ⟨h1,h2,h3,h4⟩:=h.ds r q d hr (yz hoff) hq he
  exact ⟨h1,h2,h3,fun j o hj hne=>⟨fun k=>(h4 j o hj hne).1 (yz k),(h4 j o hj hne).2⟩⟩
 anc:=h.anc.add ho
omit [Dfr] in
theorem Cfg.early (h:Cfg P ops n cl taken al S X Fx) {i:Nat}{o:Oper}(ho:ops[i]?=some o) (hi:i ∉ cl) (hiF:i ∉ Fx) (hd:∀ j∈zy o,j∈cl) (he:Xd ops n cl taken i o=true) (hv:QV P ops S' o) (hS:∀ t,o.dst≠some t→S'.env t=S.env t) (hh:S'.heap=S.heap) :
    Cfg P ops n (i::cl) (i::taken) ((i,Z3 al (zy o))::al) S' X Fx:=by
  have he2:∀ d,o.dst=some d→Nat.blt d n=true∧d < vB∧d ∉ yF ops o∧∀ j q,ops[j]?=some q→j≠i→(j∈cl→j∈taken→d ∉ yF ops q)∧(j ∉ cl→d∈yF ops q→i∈zy q)∧q.dst≠some d:=fun d e=>by
    unfold Xd at he
    rw [e] at he
    simp only [Bool.and_eq_true,Bool.not_eq_true'] at he
    obtain ⟨h1,h2,h3,h4⟩:=he
    refine ⟨h1,by rwa [Nat.blt_eq] at h2,fun hm=>(by rw [zF.2 hm] at h3;cases h3),fun j q hj hne=>?_⟩
    have:=List.all_eq_true.1 h4 j (List.mem_range.2 (Array.getElem?_eq_some_iff.1 hj).1)
    rw [hj] at this
    simp only [Bool.or_eq_true,Bool.and_eq_true] at this
    rcases this with z | ⟨z1,z2⟩
    · exact absurd (Nat.eq_of_beq_eq_true z) hne
    · refine ⟨fun hc ht hm=>?_,fun hc hm=>?_,fun e'=>?_⟩
      · rw [zF.2 hc,cond_true,zF.2 ht,zF.2 hm] at z1;cases z1
      · have:zw j cl=false:=by
          cases e:zw j cl with
          |false=>rfl
          |true=>exact absurd (zF.1 e) hc
        rw [this,cond_false,zF.2 hm] at z1
        exact zF.1 (by simpa using z1)
      · rw [e'] at z2;simp at z2
  refine ⟨h.size,fun k hk=>(h.sub k hk).imp_left (List.mem_cons_of_mem _),fun k hk=>⟨(h.fon k hk).1,fun hm=>(by
    rcases List.mem_cons.1 hm with e | e
    · exact hiF (e ▸ hk)
    · exact (h.fon k hk).2 e)⟩,⟨fun o' ho' j hj=>by rw [ho] at ho';cases ho';exact hd j hj,h.wf⟩,fun k hk hoff=>?_,fun k hk=>?_,fun k hk=>?_,h.closed,fun r q hr hoff hq=>?_,fun r q d hr hoff hq e=>?_,h.anc.add ho⟩
  · rcases List.mem_cons.1 hk with e | e
    · subst e;simp
    · exact List.mem_cons_of_mem _ (h.tk k e hoff)
  · rcases List.mem_cons.1 hk with e | e
    · subst e;exact (Array.getElem?_eq_some_iff.1 ho).1
    · exact h.inc k e
  · rcases List.mem_cons.1 hk with e | e
    · subst e;simp
    · exact List.mem_cons_of_mem _ (h.tcl k e)
  · rcases List.mem_cons.1 hr with e | e
    · subst e;rw [ho] at hq;cases hq;exact hv
    · have hne:r≠i:=fun e'=>hi (e' ▸ h.tcl r e)
      refine (h.qv r q e hoff hq).congr (fun t ht=>?_) (fun d ed=>?_) fun id _=>by rw [hh]
      · exact hS t fun e'=>((he2 t e').2.2.2 r q hq hne).1 (h.tcl r e) e ht
      · exact hS d fun e'=>((he2 d e').2.2.2 r q hq hne).2.2 ed
  · rcases List.mem_cons.1 hr with e' | e'
    · subst e'
      rw [ho] at hq;cases hq
      obtain ⟨h1,h2,h3,h4⟩:=he2 d e
      refine ⟨h1,h2,h3,fun j o' hj hne=>⟨fun hoff' hm=>?_,(h4 j o' hj hne).2.2⟩⟩
      by_cases hc:j∈cl
      · exact absurd hm ((h4 j o' hj hne).1 hc (h.tk j hc hoff'))
      · exact (h4 j o' hj hne).2.1 hc hm
    · exact h.ds r q d e' hoff hq e
omit [Dfr] in
theorem zju:∀ {cl:List Nat},WfL ops cl→(∀ i∈cl,i < ops.size)→(∃ i∈cl,onX X i=false)→∃ i q,i∈cl∧onX X i=false∧ops[i]?=some q∧∀ j∈zy q,onX X j=true
 |[],_,_,⟨i,h,_⟩=>by cases h
 |i::cl,⟨h1,h2⟩,hin,hex=>by
  by_cases hx:∃ i∈cl,onX X i=false
  ·obtain ⟨j,q,k1,k2,k3,k4⟩:=zju h2 (fun j hj=>hin j (List.mem_cons_of_mem _ hj)) hx
   exact ⟨j,q,List.mem_cons_of_mem _ k1,k2,k3,k4⟩
  ·have hall:∀ j∈cl,onX X j=true:=fun j hj=>by
    cases e:onX X j with
    |true=>rfl
    |false=>exact absurd ⟨j,hj,e⟩ hx
   obtain ⟨j,hj,hoff⟩:=hex
   rcases List.mem_cons.1 hj with e | e
   ·subst e
    have hlt:=hin j (by simp)
    exact ⟨j,ops[j],by simp,hoff,Array.getElem?_eq_getElem hlt,fun k hk=>hall k (h1 _ (Array.getElem?_eq_getElem hlt) k hk)⟩
   ·exact absurd ⟨j,e,hoff⟩ hx
omit [Dfr] in
theorem yG (hs:X.size=ops.size) {i:Nat}:i∈Region.ready .any ops X↔onX X i=false∧∃ o,ops[i]?=some o∧∀ j∈zy o,onX X j=true:=by
 rw [mem_ready]
 constructor
 ·rintro ⟨h1,o,h2,h3⟩
  have hlt:i < X.size:=by rw [hs];exact (Array.getElem?_eq_some_iff.1 h2).1
  refine ⟨by rw [← zeo hlt];exact h1,o,h2,fun j hj=>?_⟩
  obtain ⟨e,he,rfl⟩:=List.mem_map.1 hj
  obtain ⟨h4,h5⟩:=List.mem_filter.1 he
  exact h3 e (by simpa using h4) h5
 ·rintro ⟨h1,o,h2,h3⟩
  have hlt:i < X.size:=by rw [hs];exact (Array.getElem?_eq_some_iff.1 h2).1
  exact ⟨by rw [zeo hlt];exact h1,o,h2,fun e he hb=>h3 e.on (zgR he hb)⟩
omit [Dfr] in
theorem zc2 (hall:∀ i∈taken,onX X i=true):∀ t,¬ zgT ops taken X t:=fun t ⟨r,q,h1,h2,_⟩=>by rw [hall r h1] at h2;cases h2
omit [Dfr] in
theorem EqX.weaken {D D':Nat→Prop}{So:St C}(h:EqX D So S) (hD:∀ t,D t→D' t):EqX D' So S:=⟨h.heap,fun t ht=>h.env t fun hd=>ht (hD t hd)⟩
omit [Dfr] in
theorem AbsL.mask {L:List (Nat×Value)}{b:Nat→Value}{σ:FS}{PV:List Priv}{ν:Val}{vs:Nat→List Value}{ids:List Nat}{So:St C}{l:List Nat}(h:AbsL κ So ν vs ids L b σ PV) (e:EqX (fun t=>t∈l) So S):AbsL κ (Vd S l) ν vs ids L b σ PV:=by
 have hh:(Vd S l).heap=So.heap:=e.heap.symm
 have henv:∀ t,(Vd S l).env t = .und∨(Vd S l).env t=So.env t:=fun t=>by
  show (bif zw t l then AV.und else S.env t)=_∨(bif zw t l then AV.und else S.env t)=_
  cases hm:zw t l with
  |true=>exact .inl rfl
  |false=>
   refine .inr (e.env t fun hd=>?_).symm
   rw [zF.2 hd] at hm;cases hm
 refine ⟨⟨h.nd,fun id=>by rw [hh];exact h.dom id,by rw [h.pv,hh],fun id cs hc=>h.cell id cs (by rw [← hh];exact hc),fun t=>?_,h.one⟩,fun t=>?_,fun id cs hc=>?_,fun k hk hs=>have q:=h.keep k hk (by rw [← hh];exact hs);⟨q.1,q.2.1,fun hf=>q.2.2 (by rw [← hh];exact hf)⟩⟩
 ·rcases henv t with z | z
  ·rw [z];trivial
  ·rw [z];exact h.env t
 ·rcases henv t with z | z
  ·rw [z];trivial
  ·rw [z,hh];exact h.live t
 ·rw [hh] at hc ⊢;exact h.livec id cs hc
omit [Dfr] in
theorem zfQ {d:Nat}{A:AV C.D}(h:S.env d=A):S.put d A=S:=by
 unfold St.put
 have:upd S.env d A=S.env:=by
  funext t
  by_cases e:t=d
  ·subst e;rw [zn,h]
  ·rw [zp e]
 rw [this]
omit [Dfr] in
theorem zI.inv {D:Nat→Prop}{x:Option (Out C)}{out:Out C}(h:zI D x (some out)):∃ out',x=some out'∧match out',out with
    | .go S,.go T=>EqX D S T
    | .pan u S,.pan v T=>u=v∧EqX D S T
    |_,_=>False:=by
  match x,out,h with
  |some (.go S),.go T,h=>exact ⟨_,rfl,h⟩
  |some (.pan u S),.pan v T,h=>exact ⟨_,rfl,h⟩
  |some (.go S),.pan v T,h=>exact h.elim
  |some (.pan u S),.go T,h=>exact h.elim
omit [Dfr] in
theorem yR {okB:Bool}{i:Nat}{early:Bool}{next:List Nat→List Nat→List (Nat×Nat)→St C→Option ρ}{K:XE C→St C→Option ρ}{r:ρ}{stp:ZT C}{tc:Oper→St C→Option Tch}(h:Yh stp tc P n ops okB i early cl taken al S K next=some r) :
    ∃ o run,ops[i]?=some o∧i ∉ cl∧(∀ j∈zy o,j∈cl)∧(∀ t∈xf ops o,∃ j,j∈zy o∧(ops[j]?).bind (·.dst)=some t)∧YG ops S o run∧ZO stp tc P n ops okB cl taken (Z3 al (zy o)) K i early o run S (fun S tk=>next (i::cl) tk ((i,Z3 al (zy o))::al) S)=some r:=by
  unfold Yh at h
  split at h
  · cases h
  · rename_i o ho
    obtain ⟨hc,h⟩:=za h
    simp only [Bool.and_eq_true,Bool.not_eq_true'] at hc
    have h1:i ∉ cl:=fun hm=>by rw [zF.2 hm] at hc;cases hc.1
    have h2:∀ j∈zy o,j∈cl:=fun j hj=>zF.1 (List.all_eq_true.1 hc.2 j hj)
    split at h
    · rename_i hg
      exact ⟨o,true,ho,h1,h2,fun t ht=>(by unfold xf at ht;rw [hg] at ht;cases ht),(by unfold YG;rw [hg]),h⟩
    · rename_i j want hg
      obtain ⟨hj,h⟩:=za h
      have hj:=zF.1 hj
      split at h
      · cases h
      · rename_i dg hdg
        have hgt:∀ t∈xf ops o,∃ j,j∈zy o∧(ops[j]?).bind (·.dst)=some t:=fun t ht=>by
          unfold xf at ht
          rw [hg] at ht
          simp only [hdg] at ht
          have:=List.mem_singleton.1 ht
          subst this
          exact ⟨j,hj,hdg⟩
        have hgr:∀ {run:Bool},((∃ b,S.env dg = .bool b∧run=(b == want))∨(S.env dg = .tup []∧run=false))→YG ops S o run:=fun {run} k=>by
          unfold YG;rw [hg];exact ⟨dg,hdg,k⟩
        split at h
        · rename_i q e
          cases q with
          |true=>
            rw [if_pos rfl,zfQ e] at h
            exact ⟨o,want,ho,h1,h2,hgt,hgr (.inl ⟨true,e,by simp⟩),h⟩
          |false=>
            rw [if_neg (by simp),zfQ e] at h
            exact ⟨o, !want,ho,h1,h2,hgt,hgr (.inl ⟨false,e,by cases want <;> rfl⟩),h⟩
        · rename_i e
          exact ⟨o,false,ho,h1,h2,hgt,hgr (.inr ⟨e,rfl⟩),h⟩
        · cases h
omit [Dfr] in
theorem Vg {i:Nat}{early:Bool}{ord:List (Nat×Bool)}{K:XE C→St C→Option ρ}{stp:ZT C}{tc:Oper→St C→Option Tch}(hi:Nat.blt i 4096=true) (hr:xb ops cl i=true):Ze stp tc P n ops ((i,early)::ord) cl taken al S K=Yh stp tc P n ops (zgS ops (Xe C P ops n) cl i) i early cl taken al S K fun cl tk al S=>Ze stp tc P n ops ord cl tk al S K:=by
 show (bif Nat.blt i 4096 then (bif xb ops cl i then _ else _) else _)=_
 rw [hi,hr,cond_true,cond_true]
omit [Dfr] in
theorem vD {i:Nat}{early:Bool}{ord:List (Nat×Bool)}{K:XE C→St C→Option ρ}{stp:ZT C}{tc:Oper→St C→Option Tch}(hi:Nat.blt i 4096=true) (hr:xb ops cl i=false):Ze stp tc P n ops ((i,early)::ord) cl taken al S K=Ze stp tc P n ops ord cl taken al S K:=by
 show (bif Nat.blt i 4096 then (bif xb ops cl i then _ else _) else _)=_
 rw [hi,hr,cond_true,cond_false]
omit [Dfr] in
theorem Vh {i:Nat}{early:Bool}{ord:List (Nat×Bool)}{K:XE C→St C→Option ρ}{stp:ZT C}{tc:Oper→St C→Option Tch}(hi:Nat.blt i 4096=false):Ze stp tc P n ops ((i,early)::ord) cl taken al S K=(bif xb ops cl ((i - 4096) / 64) && xb ops cl ((i - 4096) % 64) then chk (zik ops (Xe C P ops n) cl ((i - 4096) / 64) ((i - 4096) % 64)) (xP
      (Yh stp tc P n ops true ((i - 4096) / 64) false cl taken al S K fun cl tk al S=>Ze stp tc P n ops ord cl tk al S K)
      (Yh stp tc P n ops true ((i - 4096) % 64) false cl taken al S K fun cl tk al S=>Ze stp tc P n ops ord cl tk al S K))
    else Ze stp tc P n ops ord cl taken al S K):=by
  show (bif Nat.blt i 4096 then (bif xb ops cl i then _ else _) else _)=_
  rw [hi,cond_false]
omit [Dfr] in
theorem zgU {i:Nat}{o:Oper}{run:Bool}{K:XE C→St C→Option ρ}{r:ρ}{stp:ZT C}{tc:Oper→St C→Option Tch}{m:Nat}{next:St C→List Nat→Option ρ}(hg:YG ops S o run) (hgl:∀ t∈xf ops o,o.dst≠some t)
    {okB:Bool} (h:ZO stp tc P n ops okB cl taken m K i true o run S next=some r):Xd ops n cl taken i o=true∧∃ S',next S' (i::taken)=some r∧QV P ops S' o∧(∀ t,o.dst≠some t→S'.env t=S.env t)∧S'.heap=S.heap:=by
  unfold ZO at h
  rw [cond_true] at h
  obtain ⟨he,h⟩:=za h
  refine ⟨he,?_⟩
  have hlook:∀ d,o.dst=some d→d ∉ yF ops o:=fun d e hm=>by
    unfold Xd at he
    rw [e] at he
    simp only [Bool.and_eq_true,Bool.not_eq_true'] at he
    rw [zF.2 hm] at he;cases he.2.2.1
  have hput:∀ d A t,o.dst=some d→o.dst≠some t→(S.put d A).env t=S.env t:=fun d A t e k=>zp fun e'=>k (by rw [e,e'])
  cases run with
  |true=>
    rw [cond_true] at h
    split at h
    · rename_i d hd
      obtain ⟨hr,h⟩:=za h
      rw [zlm] at h
      obtain ⟨A,hA,h⟩:=Option.bind_eq_some_iff.1 h
      refine ⟨_,h,⟨true,hg.congr fun t ht=>hput d A t hd (hgl t ht),hr,d,hd,?_⟩,fun t k=>hput d A t hd k,rfl⟩
      rw [Ve (ops:=ops) (S:=S) (fun t ht=>hput d A t hd fun e=>?_) fun id _=>rfl,hA]
      · show some A=some (upd S.env d A d);rw [zn]
      · rw [hd] at e;cases e;exact hlook d hd ht
    · cases h
  |false=>
    rw [cond_false] at h
    split at h
    · rename_i d hd
      refine ⟨_,h,⟨false,hg.congr fun t ht=>hput d _ t hd (hgl t ht),fun d' e=>?_⟩,fun t k=>hput d _ t hd k,rfl⟩
      rw [hd] at e;cases e
      exact zn
    · rename_i hd
      exact ⟨_,h,⟨false,hg,fun d' e=>by rw [hd] at e;cases e⟩,fun t _=>rfl,rfl⟩
omit [Dfr] in
theorem Sep.perm {σ:FS}{A B:List Priv}(p:A.Perm B):∀ {h:zb},Sep σ A h→Sep σ B h:=by
 induction p with
 |nil=>exact fun h=>h
 |cons x _ ih=>
  intro h k
  obtain ⟨h1,h2,k1,k2,l1,l2,d⟩:=k.uncons
  exact .cons k1 (ih k2) l1 l2 d
 |swap x y l=>
  intro h k
  obtain ⟨h1,h2,k1,k2,l1,l2,d⟩:=k.uncons
  obtain ⟨g1,g2,m1,m2,n1,n2,e⟩:=k2.uncons
  have d1:h1.disj g2:=d.mono (.refl _) n2
  exact .cons (h2:=h1.or g2) m1 (.cons k1 m2 (zb.le_or _ _) (zb.le_or_right d1) d1) (n1.trans l2) (zb.or_le l1 (n2.trans l2)) ((zb.or_disj (d.mono (.refl _) n1) e.symm).symm)
 |trans _ _ i1 i2=>exact fun h=>i2 (i1 h)
omit [Dfr] in
structure Home (C:Cod) (w0:Start) (σ0:FS) (st:Start) (σs:FS) (FR:List Priv):Prop where
 home:∀ {σ PV w},Inv st σs σ PV w→Inv w0 σ0 σ (PV++FR) w
 gl:C.gl st.w σs
omit [Dfr] in
theorem Home.make (hgl:C.gl w0.w σ0) {A B:List Priv}{σ:FS}{w:World}(hi:Inv w0 σ0 σ (A++B) w):∃ st,Home C w0 σ0 st σ B∧Inv st σ σ A w:=by
 obtain ⟨gg,hs,hg⟩:=hi.own
 obtain ⟨f1,f2,s1,s2,l1,l2,dd⟩:=hs.split
 exact ⟨⟨w,f1⟩,⟨fun {τ PV w'} k=>hi.call hg s2 l1 l2 dd k,C.glm hi.le hi.ext hgl⟩,.start hi.sub s1 (hg.sub.mono l1) (hg.mono l1).apart⟩
structure Fl where
 i:Nat
 d:Nat
 ad:Addr
 zs:List Value
def frF (F:List Fl):List Priv:=F.map fun f =>.cell f.ad f.zs
def zl9 (C:Cod) (P:Program) (ops:Array Oper) (n i d:Nat) (zs:List Value):Prop:=
 ∃ o t ti zv,ops[i]?=some o∧o.dst=some d∧o.op = .alloc t∧o.guard=none∧P.info? t=some ti∧ti.zero=some zv∧zv.cells.toList=zs∧C.oal t zs=none∧Nat.blt d n=true∧d < vB∧∀ j q,ops[j]?=some q→j≠i→(d∈yF ops q→i∈zy q)∧q.dst≠some d
omit [Dfr] in
theorem zma {i:Nat}(h:i∈Xe C P ops n):∃ d zs,zl9 C P ops n i d zs:=by
 have h:=(List.mem_filter.1 h).2
 unfold flB at h
 split at h
 ·cases h
 ·rename_i o ho
  split at h
  ·rename_i d t e1 e2 e3
   split at h
   ·rename_i ti hti
    split at h
    ·rename_i zv hz
     split at h
     ·rename_i hoal
      simp only [Bool.and_eq_true] at h
      obtain ⟨h1,h2,h3⟩:=h
      refine ⟨d,_,o,t,ti,zv,ho,e1,e2,e3,hti,hz,rfl,hoal,h1,by rwa [Nat.blt_eq] at h2,fun j q hq hne=>?_⟩
      have:=List.all_eq_true.1 h3 j (List.mem_range.2 (Array.getElem?_eq_some_iff.1 hq).1)
      rw [hq] at this
      simp only [Bool.or_eq_true,Bool.and_eq_true,Bool.not_eq_true'] at this
      rcases this with z | ⟨z1,z2⟩
      ·exact absurd (Nat.eq_of_beq_eq_true z) hne
      ·refine ⟨fun hm=>?_,fun e=>?_⟩
       ·rcases z1 with z | z
        ·rw [zF.2 hm] at z;cases z
        ·exact zF.1 z
       ·rw [e] at z2;simp at z2
     ·cases h
    ·cases h
   ·cases h
  ·cases h
structure FOK (C:Cod) (P:Program) (ops:Array Oper) (n:Nat) (a:Act) (F:List Fl):Prop where
 op:∀ f∈F,zl9 C P ops n f.i f.d f.zs
 fl:∀ f∈F,f.i∈Xe C P ops n
 val:∀ f∈F,a.tmps.getD f.d undef = .pointer (some f.ad)
 nd:(F.map Fl.i).Nodup
def flD (ops:Array Oper) (taken:List Nat) (X:Array Bool) (F:List Fl) (t:Nat):Prop:=zgT ops taken X t∨∃ f∈F,f.d=t
structure Rl (P:Program) (ops:Array Oper) (n:Nat) (w0:Start) (σ0:FS) (κ:Kp) (taken:List Nat) (X:Array Bool) (F:List Fl) (So S:St C) (a:Act) (w:World):Prop where
 at_:∃ st σs,Home C w0 σ0 st σs (frF F)∧At n st σs κ So a w
 eqx:EqX (flD ops taken X F) So S
 fok:FOK C P ops n a F
def VP (ops:Array Oper) (j:Nat) (a a':Act):Prop:=∀ t,(∀ o,ops[j]?=some o→o.dst≠some t)→a'.tmps.getD t undef=a.tmps.getD t undef
omit [Dfr] in
theorem wr {a:Act}{dst:Option Nat}{v:Value}{t:Nat}(h:dst≠some t):(a.put dst v).tmps.getD t undef=a.tmps.getD t undef:=by
 cases dst with
 |none=>rfl
 |some d=>
  show (a.tmps.setIfInBounds d v).getD t undef=_
  rw [Array.getD_eq_getD_getElem?,Array.getElem?_setIfInBounds_ne (fun e=>h (by rw [e])),← Array.getD_eq_getD_getElem?]
omit [Dfr] in
theorem zfR {o:Oper}{a:Act}{w:World}{K:Act→World→Prop}{Q:Exit→Act→World→Prop}(h:o.wp P a w K Q):o.wp P a w (fun a' w'=>K a' w'∧∀ t,o.dst≠some t→a'.tmps.getD t undef=a.tmps.getD t undef) Q:=by
 unfold Oper.wp at *
 generalize (execOp a.eval o).run P w=r at *
 cases r with
 |ok n w'=>
  cases n <;> simp only [Oper.upon] at h ⊢ <;>
   first
    |exact ⟨h,fun t ht=>wr ht⟩
    |exact Calls.mono h (fun e w'' he=>by cases e <;> first | exact ⟨he,fun t ht=>wr ht⟩ | exact he)
    |exact Rows.mono h (fun _ _ he=>⟨he,fun t ht=>wr ht⟩)
    |exact h
 |halt x w'=>cases x <;> simp only [Oper.upon] at h ⊢ <;> exact h
omit [Dfr] in
theorem zc3 {j:Nat}{a:Act}{w:World}{K:Act→World→Prop}{Q:Exit→Act→World→Prop}(h:wpOp P ops Q j K a w):wpOp P ops Q j (fun a' w'=>K a' w'∧VP ops j a a') a w:=by
 unfold wpOp VP at *
 cases ho:ops[j]? with
 |none=>rw [ho] at h;exact ⟨h,fun t _=>rfl⟩
 |some o=>
  rw [ho] at h
  simp only at h ⊢
  split
  ·rename_i hw
   rw [if_pos hw] at h
   refine h.imp (fun h=>Oper.wp_mono (fun a' w' hk=>⟨hk.1,fun t ht=>hk.2 t (ht o rfl)⟩) (zfR h)) id
  ·rename_i hw
   rw [if_neg hw] at h
   exact ⟨h,fun t ht=>wr (ht o rfl)⟩
omit [Dfr] in
theorem FOK.next {a a':Act}{F:List Fl}{j:Nat}(h:FOK C P ops n a F) (ht:VP ops j a a') (hj:∀ f∈F,f.i≠j):FOK C P ops n a' F:=
 ⟨h.op,h.fl,fun f hf=>by
  obtain ⟨o,t,ti,zv,_,_,_,_,_,_,_,_,_,_,p⟩:=h.op f hf
  rw [ht f.d fun q hq=>(p j q hq (hj f hf).symm).2];exact h.val f hf,h.nd⟩
omit [Dfr] in
theorem WfL.deps {j:Nat}{q:Oper}(hq:ops[j]?=some q) {k:Nat}(hk:k∈zy q):∀ {cl:List Nat},WfL ops cl→j∈cl→k∈cl:=by
 intro cl
 induction cl with
 |nil=>intro _ hj;cases hj
 |cons i cl ih=>
  intro h hj
  obtain ⟨h1,h2⟩:=(show (∀ o,ops[i]?=some o→∀ j∈zy o,j∈cl)∧WfL ops cl from h)
  rcases List.mem_cons.1 hj with e | e
  ·subst e;exact List.mem_cons_of_mem _ (h1 q hq k hk)
  ·exact List.mem_cons_of_mem _ (ih h2 e)
omit [Dfr] in
theorem Cfg.flt (h:Cfg P ops n cl taken al S X Fx) {i:Nat}{o:Oper}(ho:ops[i]?=some o) (hi:i ∉ cl) (hx:∀ j∈zy o,onX X j=true):Cfg P ops n cl taken al S (X.setIfInBounds i true) (i::Fx) where
 size:=by simp [h.size]
 sub k hk:=by
  by_cases e:i=k
  ·subst e;exact .inr (by simp)
  ·rw [xQ e] at hk;exact (h.sub k hk).imp_right (List.mem_cons_of_mem _)
 fon k hk:=by
  rcases List.mem_cons.1 hk with e | e
  ·subst e;exact ⟨zaT (by rw [h.size];exact (Array.getElem?_eq_some_iff.1 ho).1),hi⟩
  ·exact ⟨yQ (h.fon k e).1,(h.fon k e).2⟩
 wf:=h.wf
 tk k hk hoff:=h.tk k hk (yz hoff)
 inc:=h.inc
 tcl:=h.tcl
 closed k q hq hk j hj:=by
  by_cases e:i=k
  ·subst e;rw [ho] at hq;cases hq;exact yQ (hx j hj)
  ·rw [xQ e] at hk;exact yQ (h.closed k q hq hk j hj)
 qv r q hr ho hq:=h.qv r q hr (yz ho) hq
 ds r q d hr ho hq he:=by
  obtain ⟨h1,h2,h3,h4⟩:=h.ds r q d hr (yz ho) hq he
  exact ⟨h1,h2,h3,fun j o hj hne=>⟨fun k=>(h4 j o hj hne).1 (yz k),(h4 j o hj hne).2⟩⟩
 anc:=h.anc
omit [Dfr] in
theorem Cfg.absorb (h:Cfg P ops n cl taken al S X Fx) {Fy:List Nat}{i:Nat}{o:Oper}(ho:ops[i]?=some o) (hi:i∈Fx) (hd:∀ j∈zy o,j∈cl) (hF:∀ k,k∈Fy↔k∈Fx∧k≠i) (hq:∀ r q,r∈taken→onX X r=false→ops[r]?=some q→QV P ops S' q):Cfg P ops n (i::cl) taken ((i,Z3 al (zy o))::al) S' X Fy where
 size:=h.size
 sub k hk:=by
  rcases h.sub k hk with z | z
  ·exact .inl (List.mem_cons_of_mem _ z)
  ·by_cases e:k=i
   ·subst e;exact .inl (by simp)
   ·exact .inr ((hF k).2 ⟨z,e⟩)
 fon k hk:=by
  obtain ⟨h1,h2⟩:=(hF k).1 hk
  refine ⟨(h.fon k h1).1,fun hm=>?_⟩
  rcases List.mem_cons.1 hm with e | e
  ·exact h2 e
  ·exact (h.fon k h1).2 e
 wf:=⟨fun o' ho' j hj=>by rw [ho] at ho';cases ho';exact hd j hj,h.wf⟩
 tk k hk hoff:=by
  rcases List.mem_cons.1 hk with e | e
  ·subst e;rw [(h.fon k hi).1] at hoff;cases hoff
  ·exact h.tk k e hoff
 inc k hk:=by
  rcases List.mem_cons.1 hk with e | e
  ·subst e;exact (Array.getElem?_eq_some_iff.1 ho).1
  ·exact h.inc k e
 tcl k hk:=List.mem_cons_of_mem _ (h.tcl k hk)
 closed:=h.closed
 qv:=hq
 ds:=h.ds
 anc:=h.anc.add ho
omit [Dfr] in
theorem zfg {d:Nat}{t:TypeId}:yV P S (some d) (.alloc t)=none:=by unfold yV;rfl
omit [Dfr] in
theorem zgV {d:Nat}{t ty:TypeId}:yO qo Γ P d ty S (.alloc t)=YA P S d t:=by unfold yO;rfl
omit [Dfr] in
theorem zgW {d:Nat}{t ty:TypeId}{ps:String}{af:Array Edge}{g:Option (Nat×Bool)}:stp qo Γ P n ⟨some d,.alloc t,ty,ps,af,g⟩ S=chk (Nat.blt d n) (YA P S d t):=by
 unfold stp
 simp only [zfg]
 unfold wm
 simp only [zgV]
omit [Dfr] in
theorem zim {o:Oper}{d:Nat}{t:TypeId}{ti:TypeInfo}{zv:Value}{zs:List Value}{out:Out C}(p2:o.dst=some d) (p3:o.op = .alloc t) (p5:P.info? t=some ti) (p6:ti.zero=some zv) (p7:zv.cells.toList=zs) (p8:C.oal t zs=none) (hs:stp qo Γ P n o S=some out) :
    S.heap (nid d 0)=none∧out = .go {env:=upd S.env d (.pc (nid d 0) 0),heap:=upd S.heap (nid d 0) (some (.cell (zs.map Zg)))}:=by
  obtain ⟨dst,op,ty,ps,af,g⟩:=o
  simp only at p2 p3
  subst p2 p3 p7
  rw [zgW] at hs
  obtain ⟨_,hs⟩:=za hs
  unfold YA at hs
  rw [p5] at hs
  simp only [p6,p8] at hs
  obtain ⟨h0,hs⟩:=za hs
  cases hs
  exact ⟨zT h0,rfl⟩
theorem absorb (hgl:C.gl w0.w σ0) {okB:Bool}{i:Nat}{next:List Nat→List Nat→List (Nat×Nat)→St C→Option ρ}{K:XE C→St C→Option ρ}{r:ρ}(hdr:Yh (yP qo Γ P n) (tch Γ P) P n ops okB i false cl taken al S K next=some r) {F:List Fl}(hi:i∈F.map Fl.i) {a:Act}{w:World}{So:St C}
    (hc:Cfg P ops n cl taken al S X (F.map Fl.i)) (hR:Rl P ops n w0 σ0 κ taken X F So S a w):∃ S' So' F' al',next (i::cl) taken al' S'=some r∧Cfg P ops n (i::cl) taken al' S' X (F'.map Fl.i)∧Rl P ops n w0 σ0 κ taken X F' So' S' a w:=by
  obtain ⟨o,run,ho,hicl,hd,hgt,hg,h⟩:=yR hdr
  obtain ⟨f,hf,rfl⟩:=List.mem_map.1 hi
  obtain ⟨F1,F2,rfl⟩:=List.append_of_mem hf
  obtain ⟨o',t,ti,zv,p1,p2,p3,p4,p5,p6,p7,p8,p9,p10,p11⟩:=hR.fok.op f hf
  rw [ho] at p1;cases p1
  have hrun:run=true:=by unfold YG at hg;rw [p4] at hg;exact hg
  subst hrun
  unfold ZO at h
  rw [cond_false] at h
  obtain ⟨_,h⟩:=za h
  rw [cond_true] at h
  have hdeps:∀ k∈zy o,onX X k=true:=hc.closed f.i o ho (hc.fon f.i hi).1
  have hanc:∀ r',onX X r'=false→Nat.testBit (Z3 al (zy o)) r'=false:=fun r' hr'=>by
    cases e:Nat.testBit (Z3 al (zy o)) r' with
    |false=>rfl
    |true=>
      have this:onX X r'=true:=VO hc.anc (fun k=>onX X k=true) (fun k q hk hon=>hc.closed k q hk hon) (fun k hk=>by rw [← hc.size];exact zil hk) hdeps r' e
      rw [this] at hr';cases hr'
  split at h
  · cases h
  · rename_i l p htc
    obtain ⟨hall,h⟩:=za h
    rw [X6] at h
    obtain ⟨out,hs,h⟩:=Option.bind_eq_some_iff.1 h
    obtain ⟨h0,rfl⟩:=zim p2 p3 p5 p6 p7 p8 hs
    have hkeep:=zij hs htc
    have hnd:=hR.fok.nd
    rw [List.map_append,List.map_cons] at hnd
    obtain ⟨hnd1,hnd2⟩:=List.nodup_cons.1 ((List.Perm.nodup_iff List.perm_middle).1 hnd)
    refine ⟨_,{env:=upd So.env f.d (.pc (nid f.d 0) 0),heap:=upd So.heap (nid f.d 0) (some (.cell (f.zs.map Zg)))},F1++F2,_,h,hc.absorb ho hi hd (fun k=>?_) (fun r' q' h1 h2 h3=>?_),?_,?_,?_⟩
    · simp only [List.map_append,List.map_cons,List.mem_append,List.mem_cons] at hnd1 ⊢
      constructor
      · intro hk
        refine ⟨hk.imp_right .inr,fun e=>?_⟩
        subst e;exact hnd1 hk
      · rintro ⟨hk | hk | hk,hne⟩
        · exact .inl hk
        · exact absurd hk hne
        · exact .inr hk
    · have:=List.all_eq_true.1 hall r' h1
      rw [hanc r' h2,Bool.false_or] at this
      exact (hc.qv r' q' h1 h2 h3).keep hkeep h3 this
    · obtain ⟨st,σs,hh,L,b,σ,PV,⟨ν,vs,ids,hA⟩,hinv,hfi⟩:=hR.at_
      have hi2:Inv w0 σ0 σ ((.cell f.ad f.zs::PV)++frF (F1++F2)) w:=(hh.home hinv).sub_own fun g k=>Sep.perm (by
        simp only [frF,List.map_append,List.map_cons,List.cons_append]
        rw [← List.append_assoc,← List.append_assoc]
        exact List.perm_middle) k
      obtain ⟨st',hh',hinv'⟩:=Home.make hgl hi2
      refine ⟨st',σ,hh',L,b,σ,_,?_,hinv',hfi⟩
      have hv:look L b f.d = .pointer (some (f.ad.add 0)):=by rw [← hfi.get,hR.fok.val f hf];simp [Addr.add]
      refine zA.unput (hA.new (d:=f.d) (by rw [hR.eqx.heap];exact h0) (ZD κ f.d 0) (e :=.cell _) (v :=.slice none 0 0) (a:=⟨f.ad,fun _ =>.slice none 0 0⟩) (us:=f.zs) (A :=.pc (nid f.d 0) 0) (u :=.pointer (some (f.ad.add 0))) (fun ν' h1 h2=>⟨?_,by show nid f.d 0=nid f.d 0;rfl⟩) rfl rfl (fun cs hcs=>?_) (by simp [Ent.at,Addr.add])) hv
      · show Value.pointer (some f.ad) = .pointer (some ((ν'.adr _).a.add 0));rw [h2];simp [Addr.add]
      · cases hcs;exact ⟨yc _,yC _⟩
    · refine ⟨?_,fun t' ht'=>?_⟩
      · show upd So.heap _ _=upd S.heap _ _
        rw [hR.eqx.heap]
      · show upd So.env _ _ t'=upd S.env _ _ t'
        by_cases e:t'=f.d
        · subst e;rw [zn,zn]
        · rw [zp e,zp e]
          refine hR.eqx.env t' fun hD=>ht' ?_
          rcases hD with z | ⟨g,hg1,hg2⟩
          · exact .inl z
          · refine .inr ⟨g,?_,hg2⟩
            rcases List.mem_append.1 hg1 with z | z
            · exact List.mem_append_left _ z
            · rcases List.mem_cons.1 z with z | z
              · subst z;exact absurd hg2.symm e
              · exact List.mem_append_right _ z
    · have hsub:∀ g,g∈F1++F2→g∈F1++f::F2:=fun g hg=>by
        rcases List.mem_append.1 hg with z | z
        · exact List.mem_append_left _ z
        · exact List.mem_append_right _ (List.mem_cons_of_mem _ z)
      exact ⟨fun g hg=>hR.fok.op g (hsub g hg),fun g hg=>hR.fok.fl g (hsub g hg),fun g hg=>hR.fok.val g (hsub g hg),by rw [List.map_append];exact hnd2⟩
omit [Dfr] in
theorem zaw {okB:Bool}{i:Nat}{next:List Nat→List Nat→List (Nat×Nat)→St C→Option ρ}{K:XE C→St C→Option ρ}{r:ρ}(hdr:Yh (yP qo Γ P n) (tch Γ P) P n ops okB i true cl taken al S K next=some r) {F:List Fl}(hi:i∈F.map Fl.i) {a:Act}(hF:FOK C P ops n a F):False:=by
 obtain ⟨o,run,ho,hicl,hd,hgt,hg,h⟩:=yR hdr
 obtain ⟨f,hf,rfl⟩:=List.mem_map.1 hi
 obtain ⟨o',t,ti,zv,p1,p2,p3,p4,_⟩:=hF.op f hf
 rw [ho] at p1;cases p1
 have hrun:run=true:=by unfold YG at hg;rw [p4] at hg;exact hg
 subst hrun
 unfold ZO at h
 rw [cond_true] at h
 obtain ⟨_,h⟩:=za h
 rw [cond_true,p2] at h
 obtain ⟨h,_⟩:=za h
 rw [p3] at h;cases h
theorem Rl.done {F:List Fl}{a:Act}{w:World}{So:St C}(hR:Rl P ops n w0 σ0 κ taken X F So S a w) (hF:F=[]) (hp:∀ t,¬ zgT ops taken X t):At n w0 σ0 κ S a w:=by
 subst hF
 obtain ⟨st,σs,hh,L,b,σ,PV,hA,hinv,hfi⟩:=hR.at_
 have:At n w0 σ0 κ So a w:=⟨L,b,σ,PV,hA,by have:=hh.home hinv;simpa [frF] using this,hfi⟩
 exact this.eqx (hR.eqx.weaken fun t ht=>by
  rcases ht with z | ⟨f,hf,_⟩
  ·exact hp t z
  ·cases hf)
omit [Dfr] in
theorem zjv {k i:Nat}(h:k≠i):(!Nat.beq k i)=true:=by
 cases e:Nat.beq k i with
 |true=>exact absurd (Nat.eq_of_beq_eq_true e) h
 |false=>rfl
theorem zlv (hgl:C.gl w0.w σ0) (hΓ:∀ s∈Γ,s.OK P):∀ (fuel:Nat) (ord:List (Nat×Bool)) {cl taken:List Nat}{al:List (Nat×Nat)}{S:St C}{K:XE C→St C→Option ρ}{r:ρ},Ze (yP qo Γ P n) (tch Γ P) P n ops ord cl taken al S K=some r→
    ∀ {X:Array Bool} {a:Act} {w:World} {So:St C} {F:List Fl},Cfg P ops n cl taken al S X (F.map Fl.i)→X.toList.count false≤fuel→Rl P ops n w0 σ0 κ taken X F So S a w→wpAny P .any ops (zU n w0 σ0 κ K r) fuel X a w:=by
  intro fuel
  have noF:∀ {cl:List Nat} {F:List Fl} {taken al} {S:St C} {X:Array Bool} {a:Act},Cfg P ops n cl taken al S X (F.map Fl.i)→FOK C P ops n a F→(∀ i,i < ops.size→i∈cl)→F=[]:=by
    intro cl F taken al S X a hc hF hall
    cases F with
    |nil=>rfl
    |cons f F=>
      obtain ⟨o,_,_,_,p1,_⟩:=hF.op f (by simp)
      exact absurd (hall f.i (Array.getElem?_eq_some_iff.1 p1).1) (hc.fon f.i (by simp)).2
  induction fuel with
  |zero=>
    intro ord
    induction ord with
    |nil=>
      intro cl taken al S K r h X a w So F hc hn hR
      obtain ⟨hall,h⟩:=za h
      have hcl:∀ i,i < ops.size→i∈cl:=fun i hi=>zF.1 (List.all_eq_true.1 hall i (List.mem_range.2 hi))
      have hon:∀ i,i < ops.size→onX X i=true:=fun i hi=>by
        cases e:onX X i with
        |true=>rfl
        |false=>have:=zfP (by rw [hc.size];exact hi) e;omega
      refine ⟨?_,S,h,hR.done (noF hc hR.fok hcl) fun t ht=>zc2 (fun i hi=>hon i (hc.inc i (hc.tcl i hi))) t ht⟩
      refine List.eq_nil_iff_forall_not_mem.2 fun i hi=>?_
      obtain ⟨h1,o,h2,_⟩:=(yG hc.size).1 hi
      rw [hon i (Array.getElem?_eq_some_iff.1 h2).1] at h1;cases h1
    |cons io ord ih=>
      intro cl taken al S K r h X a w So F hc hn hR
      obtain ⟨i,early⟩:=io
      have zero:∀ {okB:Bool} {i:Nat} {early:Bool} {next},Yh (yP qo Γ P n) (tch Γ P) P n ops okB i early cl taken al S K next=some r→i∈F.map Fl.i:=by
        intro okB i early next h
        obtain ⟨o,run,ho,hi,hd,hgt,hg,h⟩:=yR h
        by_cases hm:i∈F.map Fl.i
        · exact hm
        exfalso
        have hoff:onX X i=false:=by
          cases e:onX X i with
          |false=>rfl
          |true=>exact ((hc.sub i e).elim hi hm).elim
        have:=zfP (by rw [hc.size];exact (Array.getElem?_eq_some_iff.1 ho).1) hoff
        omega
      cases hb:Nat.blt i 4096 with
      |true=>
        cases hrd:xb ops cl i with
        |true=>
          rw [Vg hb hrd] at h
          cases early with
          |true=>exact (zaw h (zero h) hR.fok).elim
          |false=>
            obtain ⟨S',So',F',al',h',hc',hR'⟩:=absorb hgl h (zero h) hc hR
            exact ih h' hc' hn hR'
        |false=>rw [vD hb hrd] at h;exact ih h hc hn hR
      |false=>
        rw [Vh hb] at h
        cases hrd:xb ops cl ((i - 4096) / 64) && xb ops cl ((i - 4096) % 64) with
        |true=>
          rw [hrd,cond_true] at h
          have h:=(Wf (za h).2).1
          obtain ⟨S',So',F',al',h',hc',hR'⟩:=absorb hgl h (zero h) hc hR
          exact ih h' hc' hn hR'
        |false=>rw [hrd,cond_false] at h;exact ih h hc hn hR
  |succ fuel ihf=>
    intro ord
    have setX:∀ {taken:List Nat} {X:Array Bool} {F:List Fl} {j:Nat} {t:Nat},j ∉ taken→flD ops taken X F t→flD ops taken (X.setIfInBounds j true) F t:=by
      intro taken X F j t hj ht
      rcases ht with ⟨r',q',h1,h2,h3,h4⟩ | z
      · refine .inl ⟨r',q',h1,?_,h3,h4⟩
        rw [xQ (by intro e;subst e;exact hj h1)];exact h2
      · exact .inr z
    have quiet:∀ (ord:List (Nat×Bool)) {cl taken:List Nat} {al:List (Nat×Nat)} {S:St C} {K:XE C→St C→Option ρ} {r:ρ},Ze (yP qo Γ P n) (tch Γ P) P n ops ord cl taken al S K=some r→
        ∀ {X:Array Bool} {a:Act} {w:World} {So:St C} {F:List Fl},Cfg P ops n cl taken al S X (F.map Fl.i)→X.toList.count false≤fuel+1→Rl P ops n w0 σ0 κ taken X F So S a w→∀ {j:Nat},j∈Region.ready .any ops X→j∈cl→
          wpOp P ops (zU n w0 σ0 κ K r) j (wpAny P .any ops (zU n w0 σ0 κ K r) fuel (X.setIfInBounds j true)) a w:=by
      intro ord cl taken al S K r h X a w So F hc hn hR j hj hjc
      obtain ⟨hoff,q,hq,hdeps⟩:=(yG hc.size).1 hj
      have hjt:=hc.tk j hjc hoff
      have hlt:j < X.size:=by rw [hc.size];exact (Array.getElem?_eq_some_iff.1 hq).1
      obtain ⟨st,σs,hh,hA⟩:=hR.at_
      have hjF:∀ f∈F,f.i≠j:=fun f hf e=>(hc.fon f.i (List.mem_map.2 ⟨f,hf,rfl⟩)).2 (e ▸ hjc)
      have base:=zjt (w0:=st) (σ0:=σs) (Q:=zU n w0 σ0 κ K r) (K:=fun a' w'=>∃ S1,At n st σs κ S1 a' w'∧EqX (fun t=>flD ops taken X F t∧q.dst≠some t) S1 S) hh.gl hΓ hq hA hR.eqx (hc.qv j q hjt hoff hq) (fun t ht hp=>?_) (fun d e=>(hc.ds j q d hjt hoff hq e).1) fun S1 a' w' hA' hX'=>⟨S1,hA',hX'⟩
      · refine wpOp_mono ?_ (zc3 base)
        rintro a' w' ⟨⟨S1,hA',hX'⟩,ht⟩
        refine ihf ord h (hc.hit hjc fun q' hq' k hk=>?_) (zcr hlt hoff hn) ⟨⟨st,σs,hh,hA'⟩,hX'.weaken fun t ht=>?_,hR.fok.next ht hjF⟩
        · rw [hq] at hq';cases hq';exact hdeps k hk
        · obtain ⟨ht,hne⟩:=ht
          rcases ht with ⟨r',q',h1,h2,h3,h4⟩ | z
          · refine .inl ⟨r',q',h1,?_,h3,h4⟩
            rw [xQ]
            · exact h2
            · intro e;subst e
              rw [hq] at h3;cases h3
              exact hne h4
          · exact .inr z
      · rcases hp with ⟨r',q',h1,h2,h3,h4⟩ | ⟨f,hf,rfl⟩
        · obtain ⟨_,_,k3,k4⟩:=hc.ds r' q' t h1 h2 h3 h4
          by_cases e:j=r'
          · subst e
            rw [hq] at h3;cases h3
            exact k3 ht
          · have:=hdeps r' ((k4 j q hq e).1 hoff ht)
            rw [this] at h2;cases h2
        · obtain ⟨o,_,_,_,_,_,_,_,_,_,_,_,_,_,p⟩:=hR.fok.op f hf
          exact (hc.fon f.i (List.mem_map.2 ⟨f,hf,rfl⟩)).2 (WfL.deps hq ((p j q hq (hjF f hf).symm).1 ht) hc.wf hjc)
    have float:∀ (ord:List (Nat×Bool)) {cl taken:List Nat} {al:List (Nat×Nat)} {S:St C} {K:XE C→St C→Option ρ} {r:ρ},Ze (yP qo Γ P n) (tch Γ P) P n ops ord cl taken al S K=some r→
        ∀ {X:Array Bool} {a:Act} {w:World} {So:St C} {F:List Fl},Cfg P ops n cl taken al S X (F.map Fl.i)→X.toList.count false≤fuel+1→Rl P ops n w0 σ0 κ taken X F So S a w→∀ {j:Nat},j∈Region.ready .any ops X→j ∉ cl→j∈Xe C P ops n→
          wpOp P ops (zU n w0 σ0 κ K r) j (wpAny P .any ops (zU n w0 σ0 κ K r) fuel (X.setIfInBounds j true)) a w:=by
      intro ord cl taken al S K r h X a w So F hc hn hR j hj hjc hjf
      obtain ⟨hoff,q,hq,hdeps⟩:=(yG hc.size).1 hj
      have hlt:j < X.size:=by rw [hc.size];exact (Array.getElem?_eq_some_iff.1 hq).1
      obtain ⟨d,zs,hfo⟩:=zma hjf
      obtain ⟨o,t,ti,zv,p1,p2,p3,p4,p5,p6,p7,p8,p9,p10,p11⟩:=id hfo
      rw [hq] at p1;cases p1
      have hjF:∀ f∈F,f.i≠j:=fun f hf e=>by
        have:=(hc.fon f.i (List.mem_map.2 ⟨f,hf,rfl⟩)).1
        rw [e,hoff] at this;cases this
      have hjt:j ∉ taken:=fun hm=>hjc (hc.tcl j hm)
      obtain ⟨st,σs,hh,L,b,σ,PV,⟨ν,vs,ids,hA⟩,hinv,hfi⟩:=hR.at_
      have base:wpOp P ops (zU n w0 σ0 κ K r) j (fun a' w'=>∃ c:Addr,Inv st σs σ (.cell c zs::PV) w'∧Fits n ((d,.pointer (some (c.add 0)))::L) b a') a w:=by
        unfold wpOp
        rw [hq]
        have hw:Region.wanted q (yielded ops a.tmps)=true:=by unfold Region.wanted;rw [p4]
        simp only [hw,if_true]
        left
        obtain ⟨dst,op,ty,ps,af,g⟩:=q
        simp only at p2 p3 p4
        subst p2 p3 p4
        refine zdS (w0:=st) (σ0:=σs) (σ:=σ) (PV:=PV) (L:=L) (b:=b) (p:=some ()) (H:=fun _ L' σ' PV'=>∃ c:Addr,L'=(d,.pointer (some (c.add 0)))::L∧σ'=σ∧PV' = .cell c zs::PV) p9 p5 p6 p7 (fun c=>⟨c,rfl,rfl,rfl⟩) () rfl a w hinv hfi _ _ ?_
        rintro p' L' σ' PV' a' w' _ hi' hf' ⟨c,rfl,rfl,rfl⟩
        exact ⟨c,hi',hf'⟩
      refine wpOp_mono ?_ (zc3 base)
      rintro a' w' ⟨⟨c,hi',hf'⟩,ht⟩
      have hi2:Inv w0 σ0 σ (PV++frF (⟨j,d,c,zs⟩::F)) w':=(hh.home hi').sub_own fun g k=>Sep.perm (by
        show (Priv.cell c zs::(PV++frF F)).Perm (PV++(Priv.cell c zs::frF F))
        exact List.perm_middle.symm) k
      obtain ⟨st',hh',hinv'⟩:=Home.make hgl hi2
      refine ihf ord h (F:=⟨j,d,c,zs⟩::F) (So:=So.put d .und) (hc.flt hq hjc hdeps) (zcr hlt hoff hn) ⟨⟨st',σ,hh',_,b,σ,PV,⟨ν,vs,ids,hA.put (v :=.pointer (some (c.add 0))) trivial trivial⟩,hinv',hf'⟩,⟨hR.eqx.heap,fun t' ht'=>?_⟩,?_⟩
      · show upd So.env d _ t'=S.env t'
        by_cases e:t'=d
        · exact absurd (.inr ⟨_,List.mem_cons_self ..,e.symm⟩) ht'
        · rw [zp e]
          refine hR.eqx.env t' fun hD=>ht' ?_
          rcases setX hjt hD with z | ⟨f,hf,hz⟩
          · exact .inl z
          · exact .inr ⟨f,List.mem_cons_of_mem _ hf,hz⟩
      · have hn:=hR.fok.next ht hjF
        refine ⟨fun f hf=>?_,fun f hf=>?_,fun f hf=>?_,?_⟩
        · rcases List.mem_cons.1 hf with z | z
          · subst z;exact hfo
          · exact hn.op f z
        · rcases List.mem_cons.1 hf with z | z
          · subst z;exact hjf
          · exact hn.fl f z
        · rcases List.mem_cons.1 hf with z | z
          · subst z
            show a'.tmps.getD d undef=_
            rw [hf'.get]
            show (bif Nat.beq d d then _ else _)=_
            simp [Addr.add]
          · exact hn.val f z
        · rw [List.map_cons]
          exact List.nodup_cons.2 ⟨fun hm=>by obtain ⟨f,hf,e⟩:=List.mem_map.1 hm;exact hjF f hf e,hn.nd⟩
    have real:∀ {cl taken:List Nat} {al:List (Nat×Nat)} {S:St C} {K:XE C→St C→Option ρ} {r:ρ} {okB:Bool} {j:Nat} {o:Oper} {run:Bool} {next:St C→List Nat→Option ρ},ops[j]?=some o→j ∉ cl→(∀ k∈zy o,k∈cl)→YG ops S o run→ZO (yP qo Γ P n) (tch Γ P) P n ops okB cl taken (Z3 al (zy o)) K j false o run S next=some r→
        ∀ {X:Array Bool} {a:Act} {w:World} {So:St C} {F:List Fl},Cfg P ops n cl taken al S X (F.map Fl.i)→X.toList.count false≤fuel+1→Rl P ops n w0 σ0 κ taken X F So S a w→onX X j=false→(∀ k∈zy o,onX X k=true)→
        (∀ S',next S' taken=some r→∀ {X':Array Bool} {a':Act} {w':World} {So':St C} {F':List Fl},Cfg P ops n (j::cl) taken ((j,Z3 al (zy o))::al) S' X' (F'.map Fl.i)→X'.toList.count false≤fuel→Rl P ops n w0 σ0 κ taken X' F' So' S' a' w'→wpAny P .any ops (zU n w0 σ0 κ K r) fuel X' a' w')→
          wpOp P ops (zU n w0 σ0 κ K r) j (wpAny P .any ops (zU n w0 σ0 κ K r) fuel (X.setIfInBounds j true)) a w:=by
      intro cl taken al S K r okB j o run next ho hjc hd hg h X a w So F hc hn hR hoff hdeps hnext
      have hlt:j < X.size:=by rw [hc.size];exact (Array.getElem?_eq_some_iff.1 ho).1
      have hjFm:j ∉ F.map Fl.i:=fun hm=>by have:=(hc.fon j hm).1;rw [hoff] at this;cases this
      have hjF:∀ f∈F,f.i≠j:=fun f hf e=>hjFm (List.mem_map.2 ⟨f,hf,e⟩)
      have hjt:j ∉ taken:=fun hm=>hjc (hc.tcl j hm)
      obtain ⟨st,σs,hh,hA⟩:=hR.at_
      have hX:=hR.eqx
      unfold ZO at h
      rw [cond_false] at h
      obtain ⟨_,h⟩:=za h
      have hanc:∀ r',onX X r'=false→Nat.testBit (Z3 al (zy o)) r'=false:=fun r' hr'=>by
        cases e:Nat.testBit (Z3 al (zy o)) r' with
        |false=>rfl
        |true=>
          have:=VO hc.anc (fun k=>onX X k=true) (fun k q hk hon=>hc.closed k q hk hon) (fun k hk=>by rw [← hc.size];exact zil hk) hdeps r' e
          have this:onX X r'=true:=this
          rw [this] at hr';cases hr'
      have hfree:∀ t∈yF ops o,¬ flD ops taken X F t:=fun t ht hD=>by
        rcases hD with ⟨r',q',h1,h2,h3,h4⟩ | ⟨f,hf,rfl⟩
        · obtain ⟨_,_,k3,k4⟩:=hc.ds r' q' t h1 h2 h3 h4
          have hne:j≠r':=fun e=>hjc (e ▸ hc.tcl r' h1)
          have:=hdeps r' ((k4 j o ho hne).1 hoff ht)
          rw [this] at h2;cases h2
        · obtain ⟨_,_,_,_,_,_,_,_,_,_,_,_,_,_,p⟩:=hR.fok.op f hf
          exact (hc.fon f.i (List.mem_map.2 ⟨f,hf,rfl⟩)).2 (hd _ ((p j o ho (hjF f hf).symm).1 ht))
      have hvB:∀ t,flD ops taken X F t→t < vB:=fun t hD=>by
        rcases hD with ⟨r',q',h1,h2,h3,h4⟩ | ⟨f,hf,rfl⟩
        · exact (hc.ds r' q' t h1 h2 h3 h4).2.1
        · obtain ⟨_,_,_,_,_,_,_,_,_,_,_,_,_,p,_⟩:=hR.fok.op f hf
          exact p
      have hgo:YG ops So o run:=hg.congr fun t ht=>hX.env t (hfree t (Xr ht))
      have keep:∀ {l p S'},Keeps S S' o.dst l p→(taken.all fun r=>Nat.testBit (Z3 al (zy o)) r || zbE ops S l p o.dst r)=true→∀ r' q',r'∈taken→onX X r'=false→ops[r']?=some q'→QV P ops S' q':=fun hk hall r' q' h1 h2 h3=>by
        have:=List.all_eq_true.1 hall r' h1
        rw [hanc r' h2,Bool.false_or] at this
        exact (hc.qv r' q' h1 h2 h3).keep hk h3 this
      have fin:∀ {S' S1 a' w'},next S' taken=some r→(∀ r' q',r'∈taken→onX X r'=false→ops[r']?=some q'→QV P ops S' q')→At n st σs κ S1 a' w'→EqX (flD ops taken X F) S1 S'→VP ops j a a'→wpAny P .any ops (zU n w0 σ0 κ K r) fuel (X.setIfInBounds j true) a' w':=fun h' hq' hA' hX' ht=>
        hnext _ h' (hc.sync ho hjc hjFm hd hdeps hq') (zcr hlt hoff hn) ⟨⟨st,σs,hh,hA'⟩,hX'.weaken fun t ht=>setX hjt ht,hR.fok.next ht hjF⟩
      have tk0:∀ {v:Value},VP ops j a (a.put o.dst v):=fun {v} t ht=>wr (ht o ho)
      unfold wpOp
      rw [ho]
      simp only [hgo.wanted hA]
      cases run with
      |false=>
        simp only [Bool.false_eq_true,if_false]
        rw [cond_false] at h
        obtain ⟨hall,h⟩:=za h
        split at h
        · rename_i d hdst
          obtain ⟨hdn,h⟩:=za h
          have tk1:VP ops j a (a.put (some d) undef):=by rw [← hdst];exact tk0
          rw [hdst]
          refine fin h (keep (l:=[]) (p:=fun _=>false) ?_ hall) (hA.skip hdn) ⟨hX.heap,fun t ht=>?_⟩ tk1
          · rw [hdst];exact .put
          · show upd So.env d _ t=upd S.env d _ t
            by_cases e:t=d
            · subst e;rw [zn,zn]
            · rw [zp e,zp e];exact hX.env t ht
        · rename_i hdst
          rw [hdst]
          exact fin h (keep (l:=[]) (p:=fun _=>false) (.refl S) hall) hA hX fun _ _=>rfl
      |true=>
        simp only [if_true]
        left
        rw [cond_true] at h
        split at h
        · cases h
        · rename_i l p htc
          obtain ⟨hall,h⟩:=za h
          rw [X6] at h
          obtain ⟨out,hs,h⟩:=Option.bind_eq_some_iff.1 h
          have hsx:=znp (q:=qo) (Γ:=Γ) (P:=P) (n:=n) (o:=o) hX hvB (fun t ht=>hfree t (List.mem_append_left _ (va ht)))
          rw [hs] at hsx
          obtain ⟨out',hs',hrel⟩:=hsx.inv
          obtain ⟨L,b,σ,PV,hAb,hinv,hf⟩:=hA
          have base:o.wp P a w (fun a' w'=>∃ S' S1,out = .go S'∧EqX (flD ops taken X F) S1 S'∧At n st σs κ S1 a' w') (zU n w0 σ0 κ K r):=by
            refine zeg hΓ n κ st σs hh.gl o So L b σ PV hAb _ hs' a w hinv hf _ _ ?_ ?_
            · intro S1 e L' σ' PV' a' w' hi' hf' hA'
              subst e
              cases out with
              |pan v T=>exact hrel.elim
              |go S'=>exact ⟨S',S1,rfl,hrel,L',b,σ',PV',hA',hi',hf'⟩
            · intro v S1 e u σ' PV' w' hi' hA' hp
              subst e
              cases out with
              |go S'=>exact hrel.elim
              |pan v' S'=>
                obtain ⟨rfl,hrel⟩:=hrel
                obtain ⟨ν,vs,ids,hA'⟩:=hA'
                have hi3:Inv w0 σ0 σ' PV' w':=(hh.home hi').sub_own fun g k=>by
                  obtain ⟨f1,f2,s1,s2,l1,l2,dd⟩:=k.split
                  exact s1.mono (.refl _) l1
                refine ⟨v,_,h,u,L,b,σ',PV',rfl,hp,⟨ν,vs,ids,hA'.mask (hrel.weaken fun t hD=>?_)⟩,hi3,hf⟩
                rcases hD with ⟨r',q',h1,h2,h3,h4⟩ | ⟨f,hf,rfl⟩
                · exact List.mem_filterMap.2 ⟨q',List.mem_of_getElem? (by rw [Array.getElem?_toList];exact h3),h4⟩
                · obtain ⟨q',_,_,_,p1,p2,_⟩:=hR.fok.op f hf
                  exact List.mem_filterMap.2 ⟨q',List.mem_of_getElem? (by rw [Array.getElem?_toList];exact p1),p2⟩
          refine Oper.wp_mono ?_ (zfR base)
          rintro a' w' ⟨⟨S',S1,rfl,hrel',hA'⟩,ht⟩
          exact fin h (keep (zij hs htc) hall) hA' hrel' fun t ht'=>ht t (ht' o ho)
    induction ord with
    |nil=>
      intro cl taken al S K r h X a w So F hc hn hR
      have h0:=h
      obtain ⟨hall,h⟩:=za h
      have hcl:∀ i,i < ops.size→i∈cl:=fun i hi=>zF.1 (List.all_eq_true.1 hall i (List.mem_range.2 hi))
      refine ⟨fun hr=>?_,fun j hj=>quiet [] h0 hc hn hR hj (hcl j ?_)⟩
      · have hon:∀ i∈taken,onX X i=true:=fun i hi=>by
          cases e:onX X i with
          |true=>rfl
          |false=>
            obtain ⟨k,q,k1,k2,k3,k4⟩:=zju hc.wf hc.inc ⟨i,hc.tcl i hi,e⟩
            have:k∈Region.ready .any ops X:=(yG hc.size).2 ⟨k2,q,k3,k4⟩
            rw [hr] at this;cases this
        exact ⟨S,h,hR.done (noF hc hR.fok hcl) fun t ht=>zc2 hon t ht⟩
      · obtain ⟨_,q,hq,_⟩:=(yG hc.size).1 hj
        exact (Array.getElem?_eq_some_iff.1 hq).1
    |cons io ord ih=>
      intro cl taken al S K r h X a w So F hc hn hR
      obtain ⟨i,early⟩:=io
      have h0:=h
      have some_ready:∀ {i:Nat} {o:Oper},ops[i]?=some o→i ∉ cl→i ∉ F.map Fl.i→(∀ k∈zy o,k∈cl)→Region.ready .any ops X=[]→False:=by
        intro i o ho hi hiF hd hr
        have hoff:onX X i=false:=by
          cases e:onX X i with
          |false=>rfl
          |true=>exact ((hc.sub i e).elim hi hiF).elim
        by_cases hx:∃ k∈cl,onX X k=false
        · obtain ⟨k,q,k1,k2,k3,k4⟩:=zju hc.wf hc.inc hx
          have:k∈Region.ready .any ops X:=(yG hc.size).2 ⟨k2,q,k3,k4⟩
          rw [hr] at this;cases this
        · have:i∈Region.ready .any ops X:=(yG hc.size).2 ⟨hoff,o,ho,fun k hk=>by
            cases e:onX X k with
            |true=>rfl
            |false=>exact absurd ⟨k,hd k hk,e⟩ hx⟩
          rw [hr] at this;cases this
      have dn:∀ {i k:Nat},i ∉ F.map Fl.i→onX X k=true→k∈cl∨(k∈Xe C P ops n∧k≠i):=fun {i k} hiF hk=>by
        rcases hc.sub k hk with z | z
        · exact .inl z
        · obtain ⟨f,hf,e⟩:=List.mem_map.1 z
          exact .inr ⟨e ▸ hR.fok.fl f hf,fun e'=>hiF (e' ▸ z)⟩
      cases hb:Nat.blt i 4096 with
      |false=>
        rw [Vh hb] at h
        cases hrd:xb ops cl ((i - 4096) / 64) && xb ops cl ((i - 4096) % 64) with
        |false=>rw [hrd,cond_false] at h;exact ih h hc hn hR
        |true=>
        rw [hrd,cond_true] at h
        obtain ⟨hchk,h⟩:=za h
        generalize (i - 4096) / 64=i1 at h hchk
        generalize (i - 4096) % 64=i2 at h hchk
        obtain ⟨g1,g2⟩:=Wf h
        by_cases hF1:i1∈F.map Fl.i
        · obtain ⟨S',So',F',al',h',hc',hR'⟩:=absorb hgl g1 hF1 hc hR
          exact ih h' hc' hn hR'
        by_cases hF2:i2∈F.map Fl.i
        · obtain ⟨S',So',F',al',h',hc',hR'⟩:=absorb hgl g2 hF2 hc hR
          exact ih h' hc' hn hR'
        obtain ⟨o1,run1,ho1,hi1,hd1,_,hg1,s1⟩:=yR g1
        obtain ⟨o2,run2,ho2,hi2,hd2,_,hg2,s2⟩:=yR g2
        refine ⟨fun hr=>(some_ready ho1 hi1 hF1 hd1 hr).elim,fun j hj=>?_⟩
        by_cases hjc:j∈cl
        · exact quiet ((i,early)::ord) h0 hc hn hR hj hjc
        · obtain ⟨hjoff,q,hq,hdeps⟩:=(yG hc.size).1 hj
          have hji:(j=i1∨j=i2)∨j∈Xe C P ops n:=by
            have:=List.all_eq_true.1 hchk j (List.mem_range.2 (Array.getElem?_eq_some_iff.1 hq).1)
            rw [hq] at this
            simp only [Bool.or_eq_true,Bool.not_eq_true'] at this
            rcases this with (z | z) | z | z | z
            · exact .inl (.inl (Nat.eq_of_beq_eq_true z))
            · exact .inl (.inr (Nat.eq_of_beq_eq_true z))
            · exact .inr (zF.1 z)
            · exact absurd (zF.1 z) hjc
            · exfalso
              have:vb (zy q) (rmL i1 (rmL i2 (Xe C P ops n))++cl)=true:=List.all_eq_true.2 fun k hk=>zF.2 (by
                rcases dn hF1 (hdeps k hk) with z | ⟨z1,z2⟩
                · exact List.mem_append_right _ z
                · rcases dn hF2 (hdeps k hk) with z | ⟨z3,z4⟩
                  · exact List.mem_append_right _ z
                  · exact List.mem_append_left _ (List.mem_filter.2 ⟨List.mem_filter.2 ⟨z1,zjv z4⟩,zjv z2⟩))
              rw [this] at z;cases z
          rcases hji with (e | e) | e
          · subst e
            rw [ho1] at hq;cases hq
            exact real ho1 hjc hd1 hg1 s1 hc hn hR hjoff hdeps fun S' h'=>ihf ord h'
          · subst e
            rw [ho2] at hq;cases hq
            exact real ho2 hjc hd2 hg2 s2 hc hn hR hjoff hdeps fun S' h'=>ihf ord h'
          · exact float ((i,early)::ord) h0 hc hn hR hj hjc e
      |true=>
      cases hrd:xb ops cl i with
      |false=>rw [vD hb hrd] at h;exact ih h hc hn hR
      |true=>
      rw [Vg hb hrd] at h
      cases early with
      |true=>
        have hiF:i ∉ F.map Fl.i:=fun hm=>zaw h hm hR.fok
        obtain ⟨o,run,ho,hi,hd,hgt,hg,h⟩:=yR h
        have hoff:onX X i=false:=by
          cases e:onX X i with
          |false=>rfl
          |true=>exact ((hc.sub i e).elim hi hiF).elim
        have hearly:Xd ops n cl taken i o=true:=by
          unfold ZO at h
          rw [cond_true] at h
          exact (za h).1
        have hgl:∀ t∈xf ops o,o.dst≠some t:=fun t ht e=>by
          unfold Xd at hearly
          rw [e] at hearly
          simp only [Bool.and_eq_true,Bool.not_eq_true'] at hearly
          rw [zF.2 (Xr ht)] at hearly;cases hearly.2.2.1
        obtain ⟨he,S',h,hv,hS,hh⟩:=zgU hg hgl h
        refine ih h (hc.early ho hi hiF hd he hv hS hh) hn ⟨hR.at_,⟨hR.eqx.heap.trans hh.symm,fun t ht=>?_⟩,hR.fok⟩
        have hne:o.dst≠some t:=fun e=>ht (.inl ⟨i,o,by simp,hoff,ho,e⟩)
        rw [hS t hne]
        refine hR.eqx.env t fun hD=>ht ?_
        rcases hD with ⟨r',q',h1,h2⟩ | z
        · exact .inl ⟨r',q',List.mem_cons_of_mem _ h1,h2⟩
        · exact .inr z
      |false=>
        by_cases hiF:i∈F.map Fl.i
        · obtain ⟨S',So',F',al',h',hc',hR'⟩:=absorb hgl h hiF hc hR
          exact ih h' hc' hn hR'
        obtain ⟨o,run,ho,hi,hd,hgt,hg,h⟩:=yR h
        have honly:zgS ops (Xe C P ops n) cl i=true:=by
          unfold ZO at h
          rw [cond_false] at h
          exact (za h).1
        refine ⟨fun hr=>(some_ready ho hi hiF hd hr).elim,fun j hj=>?_⟩
        by_cases hjc:j∈cl
        · exact quiet ((i,false)::ord) h0 hc hn hR hj hjc
        · obtain ⟨hjoff,q,hq,hdeps⟩:=(yG hc.size).1 hj
          have hji:j=i∨j∈Xe C P ops n:=by
            have:=List.all_eq_true.1 honly j (List.mem_range.2 (Array.getElem?_eq_some_iff.1 hq).1)
            rw [hq] at this
            simp only [Bool.or_eq_true,Bool.not_eq_true'] at this
            rcases this with z | z | z | z
            · exact .inl (Nat.eq_of_beq_eq_true z)
            · exact .inr (zF.1 z)
            · exact absurd (zF.1 z) hjc
            · exfalso
              have:vb (zy q) (rmL i (Xe C P ops n)++cl)=true:=List.all_eq_true.2 fun k hk=>zF.2 (by
                rcases dn hiF (hdeps k hk) with z | ⟨z1,z2⟩
                · exact List.mem_append_right _ z
                · exact List.mem_append_left _ (List.mem_filter.2 ⟨z1,zjv z2⟩))
              rw [this] at z;cases z
          rcases hji with e | e
          · subst e
            rw [ho] at hq;cases hq
            exact real ho hjc hd hg h hc hn hR hjoff hdeps fun S' h'=>ihf ord h'
          · exact float ((i,false)::ord) h0 hc hn hR hj hjc e
theorem zfh (hgl:C.gl w0.w σ0) (hΓ:∀ s∈Γ,s.OK P) {ord:List (Nat×Bool)}{K:XE C→St C→Option ρ}{r:ρ}(h:Ze (yP qo Γ P n) (tch Γ P) P n ops ord [] [] [] S K=some r) (hm:P.follows .mixedOrders=true) {id:Nat}{a:Act}{w:World}(hA:At n w0 σ0 κ S a w):(Code.region id ops true).wp P (zU n w0 σ0 κ K r) a w:=by
 refine wp_region_any hm ?_
 obtain ⟨L,b,σ,PV,hAb,hi,hf⟩:=hA
 have h0:∀ i,onX (Array.replicate ops.size false) i=false:=fun i=>by
  unfold onX;rw [Array.getD_eq_getD_getElem?]
  cases e:(Array.replicate ops.size false)[i]? with
  |none=>rfl
  |some v=>have:=Array.getElem?_eq_some_iff.1 e;obtain ⟨h1,h2⟩:=this;simp at h2;simp [← h2]
 refine zlv hgl hΓ _ _ h (X:=Array.replicate ops.size false) (F:=[]) ⟨by simp,fun i hi=>(by rw [h0] at hi;cases hi),fun i hi=>(by cases hi),trivial,fun i hi=>(by cases hi),fun i hi=>(by cases hi),fun i hi=>(by cases hi),fun k q _ hk=>(by rw [h0] at hk;cases hk),fun r q hr=>(by cases hr),fun r q d hr=>(by cases hr),fun i m hm=>(by cases hm)⟩ ?_ ⟨⟨w0,σ0,⟨fun k=>by simpa [frF] using k,hgl⟩,L,b,σ,PV,hAb,hi.drew,hf⟩,⟨rfl,fun _ _=>rfl⟩,⟨fun f hf=>(by cases hf),fun f hf=>(by cases hf),fun f hf=>(by cases hf),List.nodup_nil⟩⟩
 have:=List.count_le_length (a:=false) (l:=(Array.replicate ops.size false).toList)
 simp
end
end Go.Px
