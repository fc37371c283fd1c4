/- Part A5: PxM21 PxMK2 PxMQ PxM22 PxM23 PxM24 PxM25 PxM2 -/
import Derived.Test.YtghhopjjddppbaaGreatDoorA4
import Derived.Test.YtghhopjjddppbaaGreatDoorA3
namespace Go.Px
set_option linter.unusedSectionVars false
variable [Dfr]
set_option linter.unusedVariables false
section
variable {κ:Kp}{C:Cod}{S:St C}{ν:Val}{vs:Nat→List Value}{ids:List Nat}{L:List (Nat×Value)}{b:Nat→Value}{σ:FS}{PV:List Priv}{P:Program}
variable {n:Nat}{w0:Start}{σ0:FS}
def zqE:Op→Option (Operand×List Operand)
 | .call ⟨.value c,args,_⟩=>some (c,args.toList)
 |_=>none
def xf (S:St C) (x:Operand):Option (Out C):=match S.op x with
 | .ifc t A=>chk (A.base || A.flat) (some (.pan (.ifc t A) S))
 |_=>none
structure Opts where
 fs:Bool
def YF (q:Opts) (P:Program) (S:St C) (d:Nat) (ty t:TypeId) (x:Operand) (lo hi mx:Option Operand):Option (Out C):=match lo,mx with
 |none,none=>bif q.fs then yB P S d ty t x none hi else YQ P S d t x hi none
 |none,mx=>YQ P S d t x hi mx
 |some lo,none=>yB P S d ty t x (some lo) hi
 |_,_=>none
def xg {D:Nat→Type}(args:List (AV D)):List (AV D)→List (AV D)
 |[.tup ws]=>ws++args
 |caps=>args++caps
def XC (args:List Value):List Value→List Value
 |[.tuple a]=>a.toList++args
 |vs=>args++vs
omit [Dfr] in
theorem zh6 {σ:FS}{ν:Val}{p:Nat→Prop}{f:Nat}(hone:∀ i,(ν.hdr i).oneCell'=true) {args vals:List Value}{As caps:List (AV C.D)}(hc:zac caps=true) (ha:VRs C σ ν args As) (hr:VRs C σ ν vals caps) (hoa:AV.oks p As) (hoc:AV.oks p caps) :
    VRs C σ ν (XC args vals) (xg As caps)∧AV.oks p (xg As caps)∧∃ fi ca:Array Value,vd f vals = .func (.func f) fi ca∧(fi++args.toArray)++ca=(XC args vals).toArray:=by
  have plain:(∀ v∈vals,v.oneCell'=true)∨vals.length≠1→xg As caps=As++caps→VRs C σ ν (XC args vals) (xg As caps)∧AV.oks p (xg As caps)∧∃ fi ca:Array Value,vd f vals = .func (.func f) fi ca∧(fi++args.toArray)++ca=(XC args vals).toArray:=by
    intro h1 h2
    have e1:XC args vals=args++vals:=by
      unfold XC
      split
      · rename_i a
        rcases h1 with h1 | h1
        · have:=h1 (.tuple a) (by simp);cases this
        · exact absurd rfl h1
      · rfl
    have e2:vd f vals = .func (.func f) #[] vals.toArray:=by
      unfold vd
      split
      · rename_i a
        rcases h1 with h1 | h1
        · have:=h1 (.tuple a) (by simp);cases this
        · exact absurd rfl h1
      · rfl
    rw [e1,h2]
    exact ⟨ha.append hr,AV.oks_append hoa hoc, #[],vals.toArray,e2,by simp⟩
  match vals,caps,hr with
  |[],[],hr=>exact plain (.inl fun v hv=>by cases hv) rfl
  |[v],[A],hr=>
    by_cases ht:∃ ws,A = .tup ws
    · obtain ⟨ws,rfl⟩:=ht
      obtain ⟨us,e,h2⟩:=hr.1
      subst e
      exact ⟨h2.append ha,AV.oks_append hoc.1 hoa,us.toArray, #[],rfl,by simp [XC]⟩
    · have hl:A.leaf=true:=by
        unfold zac at hc
        split at hc
        · rename_i e;cases e;exact absurd ⟨_,rfl⟩ ht
        · rename_i e;cases e;exact hc
        · rename_i h1;exact absurd rfl (h1 A)
      refine plain (.inl fun u hu=>by rw [List.mem_singleton.1 hu];exact hr.1.one hl hone) ?_
      unfold xg
      split
      · rename_i e;cases e;exact absurd ⟨_,rfl⟩ ht
      · rfl
  |u::v::l,A::B::cs,hr=>exact plain (.inr (by simp)) (by cases A <;> rfl)
  |[v],A::B::cs,hr=>exact hr.2.elim
  |u::v::l,[A],hr=>exact hr.2.elim
def xU (q:Opts) (Γ:List (Spec C)) (P:Program) (d:Nat) (ty:TypeId) (S:St C):Op→Option (Out C)
 | .alloc t=>wb P S d t
 | .box t x=>chk (x8 (S.op x)) (v8 S d (Zk (S.op x)))
 | .makeSlice t x y=>XT P S d t x y
 | .buildSlice t m parts=>YD P S d t m parts.toList
 | .slice t x lo hi mx=>match yD P S ty (.slice t x lo hi mx) with
  |some A=>some (.go (S.put d A))
  |none=>YF q P S d ty t x lo hi mx
 | .convert t t' x=>match yD P S ty (.convert t t' x) with
  |some A=>some (.go (S.put d A))
  |none=>match yA P S d t t' x with
   |some o=>some o
   |none=>Xk P S d t t' x
 | .call ⟨.value c,args,_⟩=>match S.op c with
  | .clo f caps=>chk (zac caps) (YU Γ S d f (xg (args.toList.map S.op) caps))
  |_=>none
 | .call ⟨.builtin .append,args,ts⟩=>match args.toList,ts.toList with
  |[x,y],[t,t']=>chk (Nat.beq t t') (Y1 P S d t x y)
  |_,_=>none
 | .panic x=>xf S x
 |op=>(yD P S ty op).map fun A =>.go (S.put d A)
def stp (q:Opts) (Γ:List (Spec C)) (P:Program) (n:Nat) (o:Oper) (S:St C):Option (Out C):=match o.dst with
 |some d=>chk (Nat.blt d n) (xU q Γ P d o.type S o.op)
 |none=>match o.op with
  | .store t x y=>yt P S t x y
  | .panic x=>xf S x
  |_=>none
theorem zfd (h:AbsL κ S ν vs ids L b σ PV) {x:Operand}{dst:Option Nat}{ty:TypeId}{ps:String}{af:Array Edge}{g:Option (Nat×Bool)} :
    OpA κ P n w0 σ0 ⟨dst,.panic x,ty,ps,af,g⟩ (xf S x) L b σ PV:=by
  intro out hX a w hi hf K Q hK hP
  have hx:=h.op x
  unfold xf at hX
  split at hX
  · rename_i t A e
    obtain ⟨hb,hX⟩:=zc hX
    cases hX
    rw [e] at hx
    have hk:∀ p:Nat→Prop,(AV.ifc t A).ok p:=fun p=>by
      rcases (Bool.or_eq_true _ _).mp hb with hb | hb
      · exact zdk (A :=.ifc t A) hb
      · exact Wf (A :=.ifc t A) hb
    obtain ⟨u,e2,e3⟩:=hx
    have hrun:(execOp a.eval ⟨dst,.panic x,ty,ps,af,g⟩).run P w = .halt (.panic (.iface t u)) w:=by
      rw [hf.eval]
      show (execOp (opv L b) ⟨dst,.panic x,ty,ps,af,g⟩).run P w=_
      simp only [execOp,e2]
      rfl
    unfold Oper.wp
    rw [hrun]
    refine hP _ _ rfl (.iface t u) σ PV w hi ⟨ν,vs,ids,h⟩ ⟨hk _,fun ν' _=>VR.congr (ν:=ν) (p:=fun _=>False) (fun _ h=>h.elim) (hk _) ⟨u,rfl,e3⟩⟩
  · cases hX
theorem zmY (hgl:C.gl w0.w σ0) {Γ:List (Spec C)}(hΓ:∀ s∈Γ,s.OK P) (h:AbsL κ S ν vs ids L b σ PV) {c:Operand}{args:Array Operand}{ts:Array TypeId}{d:Nat}(hn:Nat.blt d n=true) {ty:TypeId}{ps:String}{af:Array Edge}{g:Option (Nat×Bool)}{f:FuncId}{caps:List (AV C.D)}(hc:S.op c = .clo f caps) :
    OpA κ P n w0 σ0 ⟨some d,.call ⟨.value c,args,ts⟩,ty,ps,af,g⟩ (chk (zac caps) (YU Γ S d f (xg (args.toList.map S.op) caps))) L b σ PV:=by
  intro out hX a w hi hf K Q hK hP
  obtain ⟨hcaps,hX⟩:=zc hX
  have hcv:=h.op c
  have hco:=h.oks_op c
  rw [hc] at hcv hco
  obtain ⟨cvs,e1,e2⟩:=hcv
  have hla:AV.oks (fun id=>(S.heap id).isSome=true) (args.toList.map S.op):=AV.oks_iff.2 fun A hA=>by
    obtain ⟨x,_,rfl⟩:=List.mem_map.1 hA
    exact h.oks_op x
  obtain ⟨hr,hl,fi,ca,e3,e4⟩:=zh6 (f:=f) h.one hcaps (za8 h.toAbs args.toList) e2 hla hco
  obtain ⟨fn,hfn,hnm,hb,hcalls⟩:=zaj hgl h hr hl hi hΓ hX
  have hrun:(execOp a.eval ⟨some d,.call ⟨.value c,args,ts⟩,ty,ps,af,g⟩).run P w = .ok (.enter f (XC (args.toList.map (opv L b)) cvs).toArray) w:=by
    have ha':args.map (opv L b)=(args.toList.map (opv L b)).toArray:=by apply Array.toList_inj.1;simp
    rw [hf.eval,← e4]
    simp only [execOp,resolve,e1,e3,ha',Deferred.ofValue,Sem.run_bind,Sem.run_pure,Result.andThen_ok,invoke]
    unfold callFunc
    simp only [Sem.run_bind,run_program,Result.andThen_ok,hfn,hnm,hb,Bool.false_eq_true,if_false,Sem.run_pure,Array.empty_append]
  unfold Oper.wp
  rw [hrun,Oper.upon_enter]
  refine Calls.mono hcalls ?_
  intro e w' hq
  cases e with
  |returned v=>
    obtain ⟨S',σ',PV',rfl,hi',hA⟩:=hq
    exact hK _ rfl _ σ' PV' _ w' hi' (hf.put (by simpa [Nat.blt_eq] using hn) v) hA
  |panicked chain=>
    obtain ⟨A,S',u,σ',PV',rfl,rfl,hi',hp,hA⟩:=hq
    exact hP _ _ rfl _ σ' PV' w' hi' hA hp
  |outgrown=>exact hq.elim
theorem zgV (h:AbsL κ S ν vs ids L b σ PV) {op:Op}{d:Nat}(hn:Nat.blt d n=true) {ty:TypeId}{ps:String}{af:Array Edge}{g:Option (Nat×Bool)} :
    OpA κ P n w0 σ0 ⟨some d,op,ty,ps,af,g⟩ ((yD P S ty op).map fun A =>.go (S.put d A)) L b σ PV:=by
  intro out hX
  obtain ⟨A,he,rfl⟩:=Option.map_eq_some_iff.1 hX
  exact WR h hn he (WS h he) _ rfl
theorem zfe {q:Opts}{Γ:List (Spec C)}(hΓ:∀ s∈Γ,s.OK P) (n:Nat) (κ:Kp):zjF P n κ (stp q Γ P n):=by
 intro w0 σ0 hgl o S L b σ PV hA out hX
 obtain ⟨ν,vs,ids,h⟩:=hA
 obtain ⟨dst,op,ty,ps,af,g⟩:=o
 cases dst with
 |none=>
  unfold stp at hX
  simp only at hX
  split at hX
  ·exact zhY h _ hX
  ·exact zfd h _ hX
  ·cases hX
 |some d=>
  obtain ⟨hn,hX⟩:=zc hX
  have hX:xU q Γ P d ty S op=some out:=hX
  unfold xU at hX
  split at hX
  ·exact zhX h hn _ hX
  ·obtain ⟨hs,hX⟩:=zc hX;exact zju h hn hs _ hX
  ·exact zjz h hn _ hX
  ·exact zgu h hn _ hX
  ·split at hX
   ·rename_i A he
    exact WR h hn he (WS h he) _ hX
   ·unfold YF at hX
    split at hX
    ·cases hq:q.fs with
     |true=>rw [hq] at hX;exact zbA h hn _ hX
     |false=>rw [hq] at hX;exact zcr h hn _ hX
    ·exact zcr h hn _ hX
    ·exact zbA h hn _ hX
    ·cases hX
  ·split at hX
   ·rename_i A he
    exact WR h hn he (WS h he) _ hX
   ·split at hX
    ·rename_i o e;cases hX;exact zh0 h hn _ e
    ·exact zk4 h hn _ hX
  ·split at hX
   ·rename_i f caps hc;exact zmY hgl hΓ h hn hc _ hX
   ·cases hX
  ·split at hX
   ·rename_i args ts x y t t' e1 e2
    obtain ⟨ht,hX2⟩:=zc hX
    have:=Nat.eq_of_beq_eq_true ht
    subst this
    rw [zhW e1,zhW e2]
    exact zgv h hn _ hX2
   ·cases hX
  ·exact zfd h _ hX
  ·exact zgV h hn _ hX
end
omit [Dfr] in
theorem YR.loopO:YR (fun {s β} f x=>loopO f x):=fun f x y h=>wG.1 h
omit [Dfr] in
theorem YR.iter (k:Nat):YR (fun {s β} f x=>ye f k x):=fun f x y h=>⟨k,h⟩
end Go.Px
namespace Go.Px
set_option linter.unusedSectionVars false
variable [Dfr]
set_option linter.unusedVariables false
section
variable {C:Cod}{S:St C}{P:Program}{ρ:Type}{Γ:List (Spec C)}
omit [Dfr] in
theorem zcC {f:XE C→St C→Option (Out C)}{K:Out C→Option ρ}{k:XK}{g:Sig}{y:XK.ty C k g}:(Yw k g y f).bind K=Yw k g y fun e Sr=>(f e Sr).bind K:=by
 cases k <;> rfl
omit [Dfr] in
theorem Wu {f:XE C→St C→Option (Out C)}{K:Out C→Option ρ}:∀ {outs:List (XK×Sig)}{r:ze C outs},(z6 outs r f).bind K=z6 outs r fun e Sr=>(f e Sr).bind K
 |[],r=>r.elim
 |[o],r=>zcC
 |o::o2::l,r=>by
  cases r with
  |inl a=>exact zcC (k:=o.1) (g:=o.2) (y:=a)
  |inr y=>exact Wu (outs:=o2::l) (r:=y)
def zff (s:Spec C) (d:Nat) (S:St C) (x:s.ins.ty C) (K:Out C→Option ρ):Option ρ:=
 chk s.ins.es.isEmpty ((s.F x).bind fun r=>z6 s.outs r fun e Sr=>(zai S d s.nr e Sr).bind K)
def zbW {α:Type}:(outs:List (XK×Sig))→ze C outs→(XE C→St C→List ESh→α)→α
 |[],y,_=>y.elim
 |[o],y,K=>Yw o.1 o.2 y fun e S=>K e S o.2.es
 |o::o2::r,y,K=>match (y:XK.ty C o.1 o.2⊕ze C (o2::r)) with
  | .inl a=>Yw o.1 o.2 a fun e S=>K e S o.2.es
  | .inr y=>zbW (o2::r) y K
omit [Dfr] in
theorem zbC {α:Type}{K:XE C→St C→List ESh→α}:∀ {outs:List (XK×Sig)}{r:ze C outs},zbW outs r K=z6 outs r fun e S=>K e S (xH outs r)
 |[],r=>r.elim
 |[o],r=>rfl
 |o::o2::l,r=>by
  cases r with
  |inl a=>rfl
  |inr y=>exact zbC (outs:=o2::l) (r:=y)
omit [Dfr] in
theorem zcD {α:Type}{k:XK}{g:Sig}{y:XK.ty C k g}:Yw k g y (fun _ _=>(none:Option α))=none:=by cases k <;> rfl
omit [Dfr] in
theorem zak {α:Type}:∀ {outs:List (XK×Sig)}{r:ze C outs},z6 outs r (fun _ _=>(none:Option α))=none
 |[],r=>r.elim
 |[o],r=>zcD (k:=o.1) (g:=o.2) (y:=r)
 |o::o2::l,r=>by
  cases r with
  |inl a=>exact zcD (k:=o.1) (g:=o.2) (y:=a)
  |inr y=>exact zak (outs:=o2::l) (r:=y)
def Vi (s:Spec C) (d:Nat) (S2:St C) (bl:Bl) (x:s.ins.ty C) (K:Out C→Option ρ):Option ρ:=
 (s.F x).bind fun r=>zbW s.outs r fun e Sr es=>chk (Nat.ble s.ins.es.length es.length) ((zcB S2 d s.nr bl es e Sr).bind K)
omit [Dfr] in
theorem zbD {s:Spec C}{d:Nat}{S2:St C}{bl:Bl}{x:s.ins.ty C}{K:Out C→Option ρ}:Vi s d S2 bl x K=(YT s d S2 bl x).bind K:=by
 unfold Vi YT
 rw [Option.bind_assoc]
 congr 1
 funext r
 rw [zbC,Zt,Wu]
 cases Nat.ble s.ins.es.length (xH s.outs r).length with
 |true=>rfl
 |false=>exact zak
def vC (Γ:List (Spec C)) (S:St C) (d f:Nat) (As:List (AV C.D)) (K:Out C→Option ρ):Option ρ:=match Γ with
 |[]=>none
 |s::Γ=>bif Nat.beq s.f f then (match yV s.ins S As with
  |some (S2,bl,x)=>bif s.view then zff s d S x K else Vi s d S2 bl x K
  |none=>vC Γ S d f As K) else vC Γ S d f As K
omit [Dfr] in
theorem Vj {d f:Nat}{As:List (AV C.D)}{K:Out C→Option ρ}:∀ {Γ:List (Spec C)},vC Γ S d f As K=(YU Γ S d f As).bind K
 |[]=>rfl
 |s::Γ=>by
  unfold vC YU
  cases Nat.beq s.f f with
  |false=>exact Vj
  |true=>
   simp only [cond_true]
   cases yV s.ins S As with
   |none=>exact Vj
   |some q=>
    obtain ⟨S2,bl,x⟩:=q
    simp only
    cases s.view with
    |true=>
     simp only [cond_true,zff,XB,Zt,Option.bind_assoc,Wu]
    |false=>
     simp only [cond_false,zbD]
def eff:Op→Bool
 | .slice _ _ _ _ _=>true
 | .convert _ _ _=>true
 |op=> !rdE op
where
 rdE:Op→Bool
  | .alloc _=>false
  | .box _ _=>false
  | .makeSlice _ _ _=>false
  | .buildSlice _ _ _=>false
  | .call ⟨.value _,_,_⟩=>false
  | .call ⟨.builtin .append,_,_⟩=>false
  | .panic _=>false
  |_=>true
def zal (P:Program) (S:St C) (d:Nat) (t:TypeId) (x y:Operand) (K:Out C→Option ρ):Option ρ:=
  match P.underlying t with
  |some (.slice e)=>(match P.info? e with
    |some ti=>(match ti.zero with
      |some zv=>chk (Nat.beq ti.size (C.size e) && (Nat.blt 0 (C.size e) && (Nat.beq zv.cells.size (C.size e) && isNone (S.heap (nid d 0)))))
          (match S.op x with
          | .row id=>(match S.heap id with
            |some (.row T s)=>chk (Nat.beq T e) ((wT S T (S.op y)).bind fun ts=>(ZM ti.bytes s ts).bind fun s'=>
                K (.go {env:=upd (S.sub id .und).env d (.row (nid d 0)),heap:=upd (S.sub id .und).heap (nid d 0) (some (.row T s'))}))
            |_=>none)
          | .nils=>(wT S e (S.op y)).bind fun ts=>(ZM ti.bytes ⟨[],false⟩ ts).bind fun s'=>
                K (.go {env:=upd S.env d (.row (nid d 0)),heap:=upd S.heap (nid d 0) (some (.row e s'))})
          |_=>none)
      |none=>none)
    |none=>none)
  |_=>none
omit [Dfr] in
theorem zfg {d:Nat}{t:TypeId}{x y:Operand}{K:Out C→Option ρ}:zal P S d t x y K=(Y1 P S d t x y).bind K:=by
 unfold zal Y1
 cases P.underlying t with
 |none=>rfl
 |some td=>
  cases td <;> first | rfl | skip
  rename_i e
  simp only
  cases P.info? e with
  |none=>rfl
  |some ti=>
   simp only
   cases ti.zero with
   |none=>rfl
   |some zv=>
    simp only [Zt]
    congr 1
    cases S.op x <;> first | rfl | skip
    ·rename_i id
     simp only
     cases S.heap id with
     |none=>rfl
     |some en=>
      cases en with
      |cell cs=>rfl
      |row T s=>simp only [Zt,Option.bind_assoc,Option.bind_some]
      |obj q T b s=>rfl
    ·simp only [Option.bind_assoc,Option.bind_some]
def zeM {D:Nat→Type}:AV D→Bool
 | .str _=>true
 | .sl _ _ _=>true
 |_=>false
omit [Dfr] in
theorem zeE {q:Opts}{d:Nat}{ty t:TypeId}{x:Operand}{lo hi:Option Operand}(h:zeM (S.op x)=true):YF q P S d ty t x lo hi none=none:=by
 have h1:∀ lo,yB P S d ty t x lo hi=none:=by
  intro lo
  unfold yB
  cases hx:S.op x <;> rw [hx] at h <;> first | (cases h;done) | rfl
 have h2:YQ P S d t x hi none=none:=by
  unfold YQ
  cases P.underlying t with
  |none=>rfl
  |some td=>
   cases td <;> first | rfl | skip
   rename_i e
   simp only
   cases P.info? e with
   |none=>rfl
   |some ti=>
    simp only
    cases hx:S.op x <;> rw [hx] at h <;> first | (cases h;done) | rfl | skip
    rename_i T s c
    show chk (Nat.beq ti.size (C.size T) && isNone (S.heap (nid d 0))) _=none
    cases hi <;> cases (Nat.beq ti.size (C.size T) && isNone (S.heap (nid d 0))) <;> rfl
 unfold YF
 cases lo with
 |none=>simp only;cases q.fs <;> simp [h1,h2]
 |some lo=>exact h1 _
omit [Dfr] in
theorem u8K {α β:Type}{o:Option TypeDesc}{a:Option α}{b:Option β}{K:β→Option α}(h:a=b.bind K) :
    (match o with | some (.int .u8)=>a | _=>none)=Option.bind (match o with | some (.int .u8)=>b | _=>none) K:=by
  cases o with
  |none=>rfl
  |some td=>
    cases td <;> first | rfl | skip
    rename_i k
    cases k <;> first | rfl | exact h
def zbX (P:Program) (S:St C) (d:Nat) (t t':TypeId) (s:ByteArray) (K:Out C→Option ρ):Option ρ:=match P.underlying t,P.underlying t' with
 |some _,some (.slice e)=>(match P.underlying e with
  |some (.int .u8)=>chk (Nat.beq (C.size e) 1 && decide (s.size≤140737488355328)) ((zhZ C e s.data.toList).bind fun l=>K (.go (S.put d (.sl e ⟨l,true⟩ false))))
  |_=>none)
 |_,_=>none
def zfh (P:Program) (S:St C) (d:Nat) (t t':TypeId) (A:AV C.D) (K:Out C→Option ρ):Option ρ:=match P.underlying t,P.underlying t' with
 |some (.slice e),some .string=>(match P.underlying e with
  |some (.int .u8)=>chk (Nat.beq (C.size e) 1) ((wT S e A).bind fun ts=>(zcs C e ts).bind fun l=>K (.go (S.put d (.str (XU l)))))
  |_=>none)
 |_,_=>none
def zdo (P:Program) (S:St C) (d:Nat) (t t':TypeId) (A:AV C.D) (K:Out C→Option ρ):Option ρ:=match A with
 | .str s=>zbX P S d t t' s K
 |A=>zfh P S d t t' A K
omit [Dfr] in
theorem zh7 {d:Nat}{t t':TypeId}{x:Operand}{K:Out C→Option ρ}:zdo P S d t t' (S.op x) K=(match yA P S d t t' x with | some o=>some o | none=>Xk P S d t t' x).bind K:=by
 have hstr:zfh P S d t t' (S.op x) K=(Xk P S d t t' x).bind K:=by
  unfold zfh Xk
  cases P.underlying t with
  |none=>rfl
  |some td=>
   cases td <;> first | rfl | skip
   cases P.underlying t' with
   |none=>rfl
   |some td'=>
    cases td' <;> first | rfl | skip
    simp only
    exact u8K (by simp only [Zt,Option.bind_assoc,Option.bind_some])
 unfold zdo
 split
 ·rename_i s e
  have h0:Xk P S d t t' x=none:=by
   unfold Xk
   rw [e]
   split
   ·split
    ·simp only [wT,Option.bind_none];cases Nat.beq _ 1 <;> rfl
    ·rfl
   ·rfl
  have h1:zbX P S d t t' s K=(yA P S d t t' x).bind K:=by
   unfold zbX yA
   rw [e]
   cases P.underlying t with
   |none=>rfl
   |some td=>
    cases P.underlying t' with
    |none=>rfl
    |some td'=>
     cases td' <;> first | rfl | skip
     simp only
     exact u8K (by simp only [Zt,Option.bind_assoc,Option.bind_some])
  rw [h1,h0]
  cases yA P S d t t' x <;> rfl
 ·rename_i hne
  rw [hstr]
  have:yA P S d t t' x=none:=by
   unfold yA
   split
   ·rename_i e;exact absurd e (hne _)
   ·rfl
  rw [this]
def zh8 (q:Opts) {α:Type}:Option α→Bool
 |none=>q.fs
 |some _=>true
def zam (P:Program) (S:St C) (d:Nat) (ty t:TypeId) (A:AV C.D) (x:Operand) (lo hi:Option Operand) (K:Out C→Option ρ):Option ρ:=match A with
 | .row id=>zbd P (S.frz1 id) ty (.slice t x lo hi none) fun A=>K (.go ((S.frz1 id).put d A))
 |_=>none
omit [Dfr] in
theorem zfi {q:Opts}{d:Nat}{ty t:TypeId}{x:Operand}{lo hi:Option Operand}{K:Out C→Option ρ}(hl:zh8 q lo=true) (hf:zeM (S.op x)=false) :
    zam P S d ty t (S.op x) x lo hi K=(xU q Γ P d ty S (.slice t x lo hi none)).bind K:=by
  have he:yD P S ty (.slice t x lo hi none)=none:=by
    show YO P S t (S.op x) lo hi=none
    revert hf
    unfold YO
    cases S.op x <;> intro hf <;> first | (cases hf;done) | skip
    all_goals (split <;> first | rfl | simp_all)
  have ho:YF q P S d ty t x lo hi none=yB P S d ty t x lo hi:=by
    unfold YF
    cases lo with
    |none=>simp only;rw [show q.fs=true from hl];rfl
    |some lo=>rfl
  unfold xU
  simp only
  rw [he]
  simp only
  rw [ho]
  unfold zam yB
  cases S.op x <;> first | rfl | skip
  simp only
  rw [Vc,Option.bind_assoc]
  rfl
def Wv (P:Program) (S:St C) (t:TypeId) (x y:Operand) (K:Out C→Option ρ):Option ρ:=match P.info? t,S.op x with
 |some ti,.pr _ _ _ _=>go ti (S.frz (AV.rows (S.op y)))
 |_,_=>(yt P S t x y).bind K
where
  go (ti:TypeInfo) (S:St C):Option ρ:=match S.op x with
    | .pr id T i off=>(match S.heap id with
      |some (.row T' s)=>chk (Nat.beq T T' && (x8 (S.op y) && (Nat.beq ti.size (Zk (S.op y)).length && (Nat.ble (off+(Zk (S.op y)).length) (C.size T') && Nat.blt 0 (Zk (S.op y)).length))))
          ((zt s i).bind fun q=>(C.imp T' ((C.emb T' q).take off++Zk (S.op y)++(C.emb T' q).drop (off+(Zk (S.op y)).length))).bind fun q'=>
            K (.go {S with heap:=upd S.heap id (some (.row T' (s.set i q')))}))
      |_=>none)
    |_=>none
omit [Dfr] in
theorem zgz {x y:Operand}{ti:TypeInfo}{K:Out C→Option ρ}:Wv.go x y K ti S=(yt.go x y ti S).bind K:=by
 unfold Wv.go yt.go
 cases S.op x <;> first | rfl | skip
 rename_i id T i off
 simp only
 cases S.heap id with
 |none=>rfl
 |some e=>
  cases e with
  |cell cs=>rfl
  |row T' s=>simp only [Zt,Option.bind_assoc,Option.bind_some]
  |obj q T b s=>rfl
omit [Dfr] in
theorem zgA {t:TypeId}{x y:Operand}{K:Out C→Option ρ}:Wv P S t x y K=(yt P S t x y).bind K:=by
 unfold Wv
 split
 ·rename_i ti id T i off h1 h2
  rw [zgz]
  unfold yt
  rw [h1,h2]
 ·rfl
def zdp (P:Program) (S:St C) (d:Nat) (t:TypeId) (x y:Operand) (K:Out C→Option ρ):Option ρ:=
  match P.underlying t with
  |some (.slice e)=>(match P.info? e with
    |some ti=>(match ti.zero,S.op x with
      |some zv,.int _ i=>chk (zco x y && (Nat.beq ti.size (C.size e) && (Nat.blt 0 (C.size e) && isNone (S.heap (nid d 0)))))
          ((C.imp e (zv.cells.toList.map yo)).bind fun q=>(WM ti.bytes i q).bind fun s=>K (.go {env:=upd S.env d (.row (nid d 0)),heap:=upd S.heap (nid d 0) (some (.row e s))}))
      |_,_=>none)
    |none=>none)
  |_=>none
omit [Dfr] in
theorem zh9 {d:Nat}{t:TypeId}{x y:Operand}{K:Out C→Option ρ}:zdp P S d t x y K=(XT P S d t x y).bind K:=by
 unfold zdp XT
 cases P.underlying t with
 |none=>rfl
 |some td=>
  cases td <;> first | rfl | skip
  rename_i e
  simp only
  cases P.info? e with
  |none=>rfl
  |some ti=>
   simp only
   cases ti.zero with
   |none=>rfl
   |some zv=>
    cases S.op x <;> first | rfl | (simp only [Zt,Option.bind_assoc,Option.bind_some])
def xx (q:Opts) (Γ:List (Spec C)) (P:Program) (n:Nat):yP C:=fun o S _ K=>match o.dst with
 |some d=>chk (Nat.blt d n) (match o.op with
  | .call ⟨.value c,args,_⟩=>(match S.op c with
   | .clo f caps=>chk (zac caps) (vC Γ S d f (xg (args.toList.map S.op) caps) K)
   |_=>none)
  | .call ⟨.builtin .append,args,ts⟩=>(match args.toList,ts.toList with
   |[x,y],[t,t']=>chk (Nat.beq t t') (zal P S d t x y K)
   |_,_=>none)
  | .makeSlice t x y=>zdp P S d t x y K
  | .slice t x lo hi none=>bif zeM (S.op x) then zbd P S o.type (.slice t x lo hi none) fun A=>K (.go (S.put d A)) else bif zh8 q lo then zam P S d o.type t (S.op x) x lo hi K else (xU q Γ P d o.type S (.slice t x lo hi none)).bind K
  | .convert t t' x=>(match yD P S o.type (.convert t t' x) with
   |some A=>K (.go (S.put d A))
   |none=>zdo P S d t t' (S.op x) K)
  |op=>bif eff op then (xU q Γ P d o.type S op).bind K else zbd P S o.type op fun A=>K (.go (S.put d A)))
 |none=>(match o.op with
  | .store t x y=>Wv P S t x y K
  |_=>(stp q Γ P n o S).bind K)
omit [Dfr] in
theorem zmZ {q:Opts}{d:Nat}{ty:TypeId}{op:Op}(h:eff op=false):xU q Γ P d ty S op=(yD P S ty op).map fun A =>.go (S.put d A):=by
 unfold xU
 split <;> first | (cases h;done) | rfl
omit [Dfr] in
theorem vD {q:Opts}{n:Nat}{o:Oper}{K:Out C→Option ρ}:xx q Γ P n o S ρ K=(stp q Γ P n o S).bind K:=by
 obtain ⟨dst,op,ty,ps,af,g⟩:=o
 cases dst with
 |none=>cases op <;> first | rfl | exact zgA
 |some d=>
  show chk (Nat.blt d n) _=(chk (Nat.blt d n) (xU q Γ P d ty S op)).bind K
  rw [Zt]
  congr 1
  simp only
  split
  ·rename_i c args ts
   unfold xU
   simp only
   cases S.op c <;> first | rfl | (simp only [Zt];rw [Vj])
  ·rename_i args ts
   unfold xU
   simp only
   generalize args.toList=l
   generalize ts.toList=m
   match l,m with
   |[],_=>rfl
   |[_],_=>rfl
   |[x,y],[]=>rfl
   |[x,y],[_]=>rfl
   |[x,y],[t,t']=>simp only [Zt,zfg]
   |[x,y],_::_::_::_=>rfl
   |_::_::_::_,_=>rfl
  ·rename_i t x y
   exact zh9
  ·rename_i t x lo hi
   cases hf:zeM (S.op x) with
   |false=>
    rw [cond_false]
    cases hl:zh8 q lo with
    |false=>rfl
    |true=>rw [cond_true];exact zfi hl hf
   |true=>
    rw [cond_true,Vc]
    unfold xU
    simp only
    rw [zeE hf]
    cases yD P S ty (.slice t x lo hi none) <;> rfl
  ·rename_i t t' x
   unfold xU
   simp only
   cases yD P S ty (.convert t t' x) with
   |some A=>rfl
   |none=>exact zh7
  ·cases he:eff op with
   |true=>rfl
   |false=>
    rw [cond_false,Vc,zmZ he]
    cases yD P S ty op <;> rfl
omit [Dfr] in
theorem zfj {q:Opts}{n:Nat}{o:Oper}{K:Out C→Option ρ}:xx q Γ P n o S ρ K=(xx q Γ P n o S _ some).bind K:=by
 rw [vD,vD,Option.bind_assoc]
 rfl
end
end Go.Px
namespace Go.Px
set_option linter.unusedSectionVars false
variable [Dfr]
set_option linter.unusedVariables false
section
variable {κ:Kp}{C:Cod}{S T:St C}{ν:Val}{vs:Nat→List Value}{ids:List Nat}{L:List (Nat×Value)}{b:Nat→Value}{σ:FS}{PV:List Priv}{P:Program}{ρ:Type}
variable {t t' ty:TypeId}{x y z:Operand}{d:Nat}{ps:String}{af:Array Edge}{g:Option (Nat×Bool)}{A:AV C.D}{n:Nat}{w0:Start}{σ0:FS}{o:Oper}{D:Nat→Prop}
def zan (P:Program) (S:St C) (t:TypeId) (m:Nat) (parts:List (Nat×Operand)):Option (AV C.D):=match P.underlying t with
  |some (.slice e)=>(match P.info? e with
    |some ti=>(match ti.zero with
      |some zv=>chk (Nat.beq ti.size (C.size e) && (Nat.blt 0 (C.size e) && (Nat.ble (m * C.size e) 16777216 && (Nat.beq parts.length m && zbb parts 0))))
          ((Ye S e (parts.map (·.2))).bind fun xs=>some (.sl e ⟨xs,true⟩ false))
      |none=>none)
    |none=>none)
  |_=>none
theorem zjH (h:AbsL κ S ν vs ids L b σ PV) (hn:Nat.blt d n=true) {m:Nat}{parts:Array (Nat×Operand)}(hX:zan P S t m parts.toList=some A):OpA κ P n w0 σ0 ⟨some d,.buildSlice t m parts,ty,ps,af,g⟩ (some (.go (S.put d A))) L b σ PV:=by
 unfold zan at hX
 split at hX
 ·rename_i e hu
  split at hX
  ·rename_i ti hi
   split at hX
   ·rename_i zv hz
    obtain ⟨hc,hX2⟩:=zc hX
    simp only [Bool.and_eq_true] at hc
    obtain ⟨c1,c2,c3,c4,c5⟩:=hc
    obtain ⟨xs,hxs,hX3⟩:=Option.bind_eq_some_iff.1 hX2
    cases hX3
    obtain ⟨r1,r2,r3⟩:=zad h hxs
    have hlen:((parts.toList.map (·.2)).map (opv L b)).length=m:=by
     have:=Nat.eq_of_beq_eq_true c4;simpa using this
    intro out ho a w hinv hf K Q hK hP
    cases ho
    refine VQ (ρ:=Unit) (p:=some ()) (H:=fun p' L' σ' PV'=>∃ v,L'=(d,v)::L∧σ'=σ∧PV'=Priv.row (Zp C e).o e v ⟨xs,true⟩::PV) (T:=(Zp C e).o) (vs:=(parts.toList.map (·.2)).map (opv L b)) (xs:=xs) [] PV hn hu hi hz (Nat.eq_of_beq_eq_true c1) c3 c2 (Vb c5) hlen (fun hh _=>⟨za.none,za.none_le _,Ty.rels_o.2 r1,by rw [List.length_map];exact r2,r3⟩) (fun v=>⟨v,rfl,rfl,rfl⟩) () rfl a w hinv hf K Q ?_
    rintro p' L' σ' PV' a' w' hp' hi' hf' ⟨v,rfl,rfl,rfl⟩
    obtain ⟨h1,hh,hsub,hle,hi2⟩:=hi'.freeze (m:=0) rfl
    have hh:zK (Zp C e).o e v ⟨xs,true⟩ σ' h1:=hh
    refine hK _ rfl _ _ _ _ _ hi2 hf' ⟨ν,vs,ids,(h.le hle).put (A :=.sl e ⟨xs,true⟩ false) (Rv.of_vrel (hh.fast hle fun b o v e=>V3 b o v e)).vr trivial⟩
   ·cases hX
  ·cases hX
 ·cases hX
def rdQ:Op→Bool
 | .alloc _=>false
 | .box _ _=>false
 | .makeSlice _ _ _=>false
 | .call ⟨.value _,_,_⟩=>false
 | .call ⟨.builtin .append,_,_⟩=>false
 | .panic _=>false
 |_=>true
def evQ (P:Program) (S:St C) (ty:TypeId):Op→Option (AV C.D)
 | .buildSlice t m parts=>zan P S t m parts.toList
 |op=>yD P S ty op
def zk9 (P:Program) (S:St C) (ty:TypeId) (op:Op) (K:AV C.D→Option ρ):Option ρ:=match op with
  | .buildSlice t m parts=>(match P.underlying t with
    |some (.slice e)=>(match P.info? e with
      |some ti=>(match ti.zero with
        |some zv=>chk (Nat.beq ti.size (C.size e) && (Nat.blt 0 (C.size e) && (Nat.ble (m * C.size e) 16777216 && (Nat.beq parts.toList.length m && zbb parts.toList 0))))
            ((Ye S e (parts.toList.map (·.2))).bind fun xs=>K (.sl e ⟨xs,true⟩ false))
        |none=>none)
      |none=>none)
    |_=>none)
  |op=>zbd P S ty op K
omit [Dfr] in
theorem zm0 {op:Op}{K:AV C.D→Option ρ}:zk9 P S ty op K=(evQ P S ty op).bind K:=by
 unfold zk9 evQ
 split
 ·unfold zan
  cases P.underlying _ with
  |none=>rfl
  |some td=>
   cases td <;> first | rfl | skip
   simp only
   cases P.info? _ with
   |none=>rfl
   |some ti=>
    simp only
    cases ti.zero with
    |none=>rfl
    |some zv=>simp only [Zt,Option.bind_assoc,Option.bind_some]
 ·exact Vc
theorem zoa {q:Opts}{Γ:List (Spec C)}(h:AbsL κ S ν vs ids L b σ PV) (hn:Nat.blt d n=true) {op:Op}(hr:rdQ op=true) (he:evQ P S ty op=some A):OpA κ P n w0 σ0 ⟨some d,op,ty,ps,af,g⟩ (some (.go (S.put d A))) L b σ PV:=by
 unfold evQ at he
 split at he
 ·exact zjH h hn he
 ·have:=zgV (P:=P) (n:=n) (w0:=w0) (σ0:=σ0) (ps:=ps) (af:=af) (g:=g) h (op:=op) hn (ty:=ty)
  rw [he] at this
  exact this
omit [Dfr] in
theorem zcE {e:Nat}:∀ {l:List Operand},(∀ x∈l,S.op x=T.op x)→Ye S e l=Ye T e l
 |[],_=>rfl
 |x::r,h=>by
  unfold Ye
  rw [h x (by simp),zcE fun y hy=>h y (by simp [hy])]
end
end Go.Px
namespace Go.Px
set_option linter.unusedSectionVars false
variable [Dfr]
set_option linter.unusedVariables false
section
variable {C:Cod}{S T:St C}{P:Program}
def AV.hid {D:Nat→Type}:AV D→List Nat
 | .row id=>[id]
 | .pc id _=>[id]
 | .pr id _ _ _=>[id]
 |_=>[]
def zdq (S:St C):Op→List Nat
 | .load _ x=>(S.op x).hid
 | .indexAddr _ x _=>(S.op x).hid
 | .binOp _ _ x _ _=>match S.op x with
  | .row id=>[id]
  |_=>[]
 | .call ⟨.builtin .len,args,_⟩=>match args.toList with
  |[x]=>(S.op x).hid
  |_=>[]
 |_=>[]
omit [Dfr] in
theorem zjI {t:TypeId}{A:AV C.D}(h:∀ id∈A.hid,S.heap id=T.heap id):x7 P S t A=x7 P T t A:=by
 cases A <;> first | rfl | (simp only [x7];rw [h _ (by simp [AV.hid])])
omit [Dfr] in
theorem zia {t:TypeId}{A B:AV C.D}(h:∀ id∈A.hid,S.heap id=T.heap id):xE P S t A B=xE P T t A B:=by
 unfold xE
 split
 ·split
  ·cases A <;> first | rfl | (cases B <;> first | rfl | (simp only;rw [h _ (by simp [AV.hid])]))
  ·rfl
 ·rfl
omit [Dfr] in
theorem zla {t:TypeId}{A:AV C.D}(h:∀ id∈A.hid,S.heap id=T.heap id):vY P S t A=vY P T t A:=by
 unfold vY
 cases P.underlying t with
 |none=>rfl
 |some td=>cases A <;> first | rfl | (cases td <;> first | rfl | (simp only;rw [h _ (by simp [AV.hid])]))
omit [Dfr] in
theorem Vk {dflt:Int}{o:Option Operand}(h:∀ x,o=some x→S.op x=T.op x):Z1 S dflt o=Z1 T dflt o:=by
 cases o with
 |none=>rfl
 |some x=>simp only [Z1];rw [h x rfl]
omit [Dfr] in
theorem zib {t:TypeId}{A:AV C.D}{lo hi:Option Operand}(h1:∀ x,lo=some x→S.op x=T.op x) (h2:∀ x,hi=some x→S.op x=T.op x):YO P S t A lo hi=YO P T t A lo hi:=by
 unfold YO
 have e1:=fun dflt=>Vk (S:=S) (T:=T) (dflt:=dflt) h1
 have e2:=fun dflt=>Vk (S:=S) (T:=T) (dflt:=dflt) h2
 simp only [e1,e2]
omit [Dfr] in
theorem zjJ {l:List Operand}(h:∀ x∈l,S.op x=T.op x):l.map S.op=l.map T.op:=List.map_congr_left h
omit [Dfr] in
theorem zic {t:TypeId}{parts:List (Nat×Operand)}(h:∀ q∈parts,S.op q.2=T.op q.2):wa P S t parts=wa P T t parts:=by
 unfold wa
 have:parts.map (fun q=>(q.1,S.op q.2))=parts.map fun q=>(q.1,T.op q.2):=List.map_congr_left fun q hq=>by rw [h q hq]
 rw [this]
omit [Dfr] in
theorem zgW {ty:TypeId}{op:Op}(hop:∀ x∈op.operands.toList,S.op x=T.op x) (hh:∀ id∈zdq S op,S.heap id=T.heap id):yD P S ty op=yD P T ty op:=by
 unfold yD
 cases op
 case move x=>simp only;rw [hop x (by simp [Op.operands])]
 case assign x=>simp only;rw [hop x (by simp [Op.operands])]
 case pick c a e=>simp only;rw [hop c (by simp [Op.operands]),hop a (by simp [Op.operands]),hop e (by simp [Op.operands])]
 case nilCheck x=>simp only;rw [hop x (by simp [Op.operands])]
 case binOp bo t x y t'=>
  simp only
  unfold Xa
  rw [← hop x (by simp [Op.operands]),← hop y (by simp [Op.operands])]
  cases Y9 y with
  |true=>rfl
  |false=>
  simp only [cond_false]
  unfold wI
  simp only [zdq] at hh
  split
  ·rename_i id e
   rw [e] at hh
   rw [hh id (by simp)]
  ·rfl
 case unOp u t x=>cases u <;> first | rfl | (simp only;rw [hop x (by simp [Op.operands])])
 case convert t t' x=>simp only;rw [hop x (by simp [Op.operands])]
 case makeFunc f fs caps=>
  cases f <;> first | rfl | skip
  simp only
  have hfs:=zjJ (l:=fs.toList) fun x hx=>hop x (by simp [Op.operands];exact .inl (by simpa using hx))
  unfold vx
  generalize fs.toList=fl at hfs
  rw [zjJ (l:=caps.toList) fun x hx=>hop x (by simp [Op.operands];exact .inr (by simpa using hx))]
  cases fl with
  |nil=>rfl
  |cons y l=>simp only;rw [hfs]
 case makeInterface t x=>simp only;rw [hop x (by simp [Op.operands])]
 case extract x i=>simp only;rw [hop x (by simp [Op.operands])]
 case typeAssert x xt t ok=>simp only;rw [hop x (by simp [Op.operands])]
 case build t parts=>exact zic fun q hq=>hop q.2 (by simp [Op.operands];exact ⟨q.1,by simpa using hq⟩)
 case field t x m=>simp only;rw [hop x (by simp [Op.operands])]
 case fieldAddr t x m=>simp only;rw [hop x (by simp [Op.operands])]
 case indexAddr t x y=>
  simp only;rw [← hop x (by simp [Op.operands]),← hop y (by simp [Op.operands])]
  exact zia hh
 case load t x=>
  simp only;rw [← hop x (by simp [Op.operands])]
  exact zjI hh
 case index t x y=>simp only;rw [hop x (by simp [Op.operands]),hop y (by simp [Op.operands])]
 case slice t x lo hi mx=>
  cases mx with
  |some m=>rfl
  |none=>
   simp only;rw [← hop x (by simp [Op.operands])]
   exact zib (fun y e=>hop y (by subst e;simp [Op.operands])) (fun y e=>hop y (by subst e;simp [Op.operands]))
 case call c=>
  obtain ⟨cal,args,ts⟩:=c
  cases cal
  case value c=>rfl
  case invoke r m=>rfl
  case builtin bi=>
   have ha:∀ x∈args.toList,S.op x=T.op x:=fun x hx=>hop x (by simp [Op.operands,Call.operands];simpa using hx)
   cases bi <;> first | rfl | skip
   case len=>
    simp only
    split
    ·rename_i x t e1 e2
     rw [e1] at ha
     rw [← ha x (by simp)]
     refine zla fun id hid=>hh id ?_
     simp only [zdq,e1];exact hid
    ·rfl
   case min=>
    simp only
    split
    ·rename_i x y e1
     rw [e1] at ha
     rw [ha x (by simp),ha y (by simp)]
    ·rfl
   case max=>
    simp only
    split
    ·rename_i x y e1
     rw [e1] at ha
     rw [ha x (by simp),ha y (by simp)]
    ·rfl
 all_goals rfl
structure EqX (D:Nat→Prop) (S T:St C):Prop where
 heap:S.heap=T.heap
 env:∀ t,¬ D t→S.env t=T.env t
variable {D:Nat→Prop}
def ZR (D:Nat→Prop):Option (Out C)→Option (Out C)→Prop
 |some (.go S),some (.go T)=>EqX D S T
 |some (.pan u S),some (.pan v T)=>u=v∧EqX D S T
 |none,none=>True
 |_,_=>False
omit [Dfr] in
theorem ZR.go {S' T':St C}(h:EqX D S' T'):ZR D (some (.go S')) (some (.go T')):=h
omit [Dfr] in
theorem ZR.none:ZR (C:=C) D none none:=trivial
omit [Dfr] in
theorem ZR.chk {c:Bool}{x y:Option (Out C)}(h:ZR D x y):ZR D (chk c x) (chk c y):=by
 cases c with
 |true=>exact h
 |false=>trivial
omit [Dfr] in
theorem ZR.bind {α:Type}{x:Option α}{f g:α→Option (Out C)}(h:∀ a,ZR D (f a) (g a)):ZR D (x.bind f) (x.bind g):=by
 cases x with
 |none=>trivial
 |some a=>exact h a
omit [Dfr] in
theorem EqX.refl (S:St C):EqX D S S:=⟨rfl,fun _ _=>rfl⟩
omit [Dfr] in
theorem EqX.put (h:EqX D S T) (d:Nat) (A:AV C.D) {hp:Nat→Option (Ent C)}:EqX D {env:=upd S.env d A,heap:=hp} {env:=upd T.env d A,heap:=hp}:=⟨rfl,fun t ht=>by
 show upd S.env d A t=upd T.env d A t
 unfold upd
 cases Nat.beq t d with
 |true=>rfl
 |false=>exact h.env t ht⟩
omit [Dfr] in
theorem EqX.sub (h:EqX D S T) (id:Nat) (R:AV C.D):EqX D (S.sub id R) (T.sub id R):=by
 refine ⟨?_,fun t ht=>?_⟩
 ·unfold St.sub;simp only;rw [h.heap]
 ·show AV.sub id R (S.env t)=AV.sub id R (T.env t);rw [h.env t ht]
omit [Dfr] in
theorem EqX.frz1 (h:EqX D S T) (id:Nat):EqX D (S.frz1 id) (T.frz1 id):=by
 unfold St.frz1
 rw [h.heap]
 split
 ·exact h.sub _ _
 ·exact h
omit [Dfr] in
theorem EqX.frz:∀ (l:List Nat) {S T:St C},EqX D S T→EqX D (S.frz l) (T.frz l)
 |[],_,_,h=>h
 |id::r,_,_,h=>EqX.frz r (h.frz1 id)
omit [Dfr] in
theorem EqX.op (h:EqX D S T) {x:Operand}(hx:∀ t,x = .tmp t→¬ D t):S.op x=T.op x:=by
 cases x with
 |tmp t=>exact h.env t (hx t rfl)
 |const v=>rfl
 |global g=>rfl
 |func f=>rfl
def vE (D:Nat→Prop) (l:List Operand):Prop:=∀ t,Operand.tmp t∈l→¬ D t
omit [Dfr] in
theorem EqX.ops (h:EqX D S T) {l:List Operand}(hl:vE D l):∀ x∈l,S.op x=T.op x:=fun x hx=>h.op fun t e=>hl t (e ▸ hx)
omit [Dfr] in
theorem zgX (h:EqX D S T) {d:Nat}{cs:List (AV C.D)}:ZR D (v8 S d cs) (v8 T d cs):=by
 unfold v8
 rw [h.heap]
 exact .chk (h.put d _)
omit [Dfr] in
theorem zjK (h:EqX D S T) {d:Nat}{t:TypeId}:ZR D (wb P S d t) (wb P T d t):=by
 unfold wb
 split
 ·split
  ·split
   ·unfold zjv
    rw [h.heap]
    exact .chk (h.put d _)
   ·exact zgX h
  ·trivial
 ·trivial
omit [Dfr] in
theorem zlb (h:EqX D S T) {d:Nat}{t:TypeId}{x y:Operand}(hx:S.op x=T.op x):ZR D (XT P S d t x y) (XT P T d t x y):=by
 unfold XT
 rw [hx,h.heap]
 split
 ·split
  ·split
   ·exact .chk (.bind fun q =>.bind fun s=>h.put d _)
   ·trivial
  ·trivial
 ·trivial
omit [Dfr] in
theorem zec {e:Nat}:∀ {l:List Operand},(∀ x∈l,S.op x=T.op x)→Ye S e l=Ye T e l
 |[],_=>rfl
 |x::r,h=>by
  unfold Ye
  rw [h x (by simp),zec fun y hy=>h y (List.mem_cons_of_mem _ hy)]
omit [Dfr] in
theorem zid (h:EqX D S T) {d:Nat}{t:TypeId}{m:Nat}{parts:List (Nat×Operand)}(hp:vE D (parts.map (·.2))):ZR D (YD P S d t m parts) (YD P T d t m parts):=by
 unfold YD
 have e:parts.map (fun q=>S.op q.2)=parts.map fun q=>T.op q.2:=List.map_congr_left fun q hq=>h.ops hp _ (List.mem_map.2 ⟨q,hq,rfl⟩)
 rw [e]
 have h':=EqX.frz (AV.rowss (parts.map fun q=>T.op q.2)) h
 generalize S.frz _=S' at h' ⊢
 generalize T.frz _=T' at h' ⊢
 unfold YD.go
 have e2:=fun e=>zec (e:=e) (h'.ops hp)
 simp only [h'.heap,e2]
 split
 ·split
  ·split
   ·exact .chk (.bind fun xs=>h'.put d _)
   ·trivial
  ·trivial
 ·trivial
omit [Dfr] in
theorem EqX.heap' (h:EqX D S T) {hp:Nat→Option (Ent C)}:EqX D {S with heap:=hp} {T with heap:=hp}:=⟨rfl,h.env⟩
omit [Dfr] in
theorem zjL (h:EqX D S T) {t:TypeId}{x y:Operand}(hx:∀ t,x = .tmp t→¬ D t) (hy:∀ t,y = .tmp t→¬ D t):ZR D (yt P S t x y) (yt P T t x y):=by
 unfold yt
 have ex:=h.op hx
 have ey:=h.op hy
 rw [ex,ey,h.heap]
 split
 ·split
  ·exact .chk h.heap'
  ·trivial
 ·rename_i ti _ _ _ _ _ _
  have h':=EqX.frz (AV.rows (T.op y)) h
  have ex':=h'.op hx
  have ey':=h'.op hy
  generalize S.frz _=S' at h' ex' ey' ⊢
  generalize T.frz _=T' at h' ex' ey' ⊢
  unfold yt.go
  rw [ex',ey',h'.heap]
  split
  ·split
   ·exact .chk (.bind fun q =>.bind fun q'=>h'.heap')
   ·trivial
  ·trivial
 ·trivial
omit [Dfr] in
theorem zgY (h:S.heap=T.heap) {e:Nat}{A:AV C.D}:wT S e A=wT T e A:=by
 unfold wT;rw [h]
omit [Dfr] in
theorem EqX.subRow (h:EqX D S T) (d id T':Nat) (s':Sl (C.D T')):EqX D {env:=upd (S.sub id .und).env d (.row (nid d 0)),heap:=upd (S.sub id .und).heap (nid d 0) (some (.row T' s'))} {env:=upd (T.sub id .und).env d (.row (nid d 0)),heap:=upd (T.sub id .und).heap (nid d 0) (some (.row T' s'))}:=by
 have:=h.sub id .und
 exact ⟨by show upd _ _ _=upd _ _ _;rw [this.heap],(this.put d _ (hp:=T.heap)).env⟩
omit [Dfr] in
theorem zie (h:EqX D S T) {d:Nat}{t:TypeId}{x y:Operand}(hx:S.op x=T.op x) (hy:S.op y=T.op y):ZR D (Y1 P S d t x y) (Y1 P T d t x y):=by
 unfold Y1
 have e:=fun e A=>zgY (e:=e) (A:=A) h.heap
 simp only [hx,hy,h.heap,e]
 split
 ·split
  ·split
   ·refine .chk ?_
    split
    ·split
     ·exact .chk (.bind fun ts =>.bind fun s'=>EqX.subRow h _ _ _ _)
     ·trivial
    ·exact .bind fun ts =>.bind fun s'=>h.put d _
    ·trivial
   ·trivial
  ·trivial
 ·trivial
omit [Dfr] in
theorem zed (h:EqX D S T) {d:Nat}{t:TypeId}{x:Operand}{hi mx:Option Operand}(hx:S.op x=T.op x) (h1:∀ y,hi=some y→S.op y=T.op y) (h2:∀ y,mx=some y→S.op y=T.op y):ZR D (YQ P S d t x hi mx) (YQ P T d t x hi mx):=by
 unfold YQ
 have e1:=fun dflt=>Vk (S:=S) (T:=T) (dflt:=dflt) h1
 have hs:=fun id T' s'=>EqX.subRow h d id T' s'
 rw [hx]
 simp only [h.heap,e1]
 split
 ·split
  ·split
   ·split
    ·refine .chk ?_
     split
     ·split
      ·exact .bind fun s'=>hs _ _ _
      ·trivial
     ·rename_i hh m
      rw [h1 hh rfl,h2 m rfl]
      cases isZ hh && isZ m with
      |true=>exact h.put d _
      |false=>
       simp only [cond_false]
       split
       ·exact .chk (.bind fun s'=>hs _ _ _)
       ·trivial
     ·trivial
    ·trivial
   ·refine .chk ?_
    split
    ·exact .chk (h.put d _)
    ·trivial
   ·trivial
  ·trivial
 ·trivial
end
end Go.Px
namespace Go.Px
set_option linter.unusedSectionVars false
variable [Dfr]
set_option linter.unusedVariables false
section
variable {C:Cod}{S T:St C}{P:Program}{D:Nat→Prop}
def wK (D:Nat→Prop) (ts:List (Nat×Sh)):Prop:=∀ q∈ts,¬ D q.1
omit [Dfr] in
theorem zmv (h:EqX D S T):∀ {ts:List (Nat×Sh)},wK D ts→fzT S ts=fzT T ts
 |[],_=>rfl
 |(t,s)::ts,hf=>by
  unfold fzT
  rw [h.env t (hf (t,s) (by simp)),zmv h fun q hq=>hf q (List.mem_cons_of_mem _ hq)]
omit [Dfr] in
theorem zao {es:List ESh}:∀ (ts:List (Nat×Sh)) {S T:St C},EqX D S T→wK D ts→EqX D (nilT es ts S) (nilT es ts T)
 |[],S,T,h,_=>h
 |(t,s)::ts,S,T,h,hf=>by
  unfold nilT
  rw [h.env t (hf (t,s) (by simp)),h.heap]
  have hf':wK D ts:=fun q hq=>hf q (List.mem_cons_of_mem _ hq)
  split
  ·split
   ·cases isNone (T.heap _) with
    |true=>exact zao ts (h.put t _) hf'
    |false=>exact zao ts h hf'
   ·exact zao ts h hf'
  ·exact zao ts h hf'
omit [Dfr] in
theorem zbY (h:S.heap=T.heap) {bl:Bl}:wJ S bl=wJ T bl:=by
 funext k;unfold wJ;rw [h]
omit [Dfr] in
theorem zgZ (h:EqX D S T):∀ {ts:List (Nat×Sh)}{bl:Bl},wK D ts→zcx S ts bl=zcx T ts bl
 |[],bl,_=>rfl
 |(t,s)::ts,bl,hf=>by
  unfold zcx
  rw [h.env t (hf (t,s) (by simp)),zgZ h fun q hq=>hf q (List.mem_cons_of_mem _ hq)]
omit [Dfr] in
theorem zg0 (h:S.heap=T.heap):∀ {es:List ESh}{k:Nat}{bl:Bl},zcy S es k bl=zcy T es k bl
 |[],k,bl=>rfl
 |e::es,k,bl=>by
  unfold zcy
  rw [zbY h,zg0 h]
omit [Dfr] in
theorem zap (h:EqX D S T) {g:Sig}{m:Nat}(hf:wK D g.ts):yu g m S=yu g m T:=by
 unfold yu
 rw [zgZ h hf,zg0 h.heap]
omit [Dfr] in
theorem zmw (h:S.heap=T.heap) {bl:Bl}:∀ {es:List ESh}{k:Nat},fzE S bl es k=fzE T bl es k
 |[],k=>rfl
 |e::es,k=>by
  unfold fzE
  rw [zbY h,zmw h]
omit [Dfr] in
theorem zob (h:EqX D S T) {es:List ESh}{id p:Nat}{s:Sh}:EqX D (nil1 es id s p S) (nil1 es id s p T):=by
 unfold nil1
 rw [h.heap]
 split
 ·split
  ·cases isNone (T.heap _) with
   |true=>exact h.heap'
   |false=>exact h
  ·exact h
 ·exact h
omit [Dfr] in
theorem zjM {es:List ESh}{id:Nat}:∀ (l:List Sh) (p:Nat) {S T:St C},EqX D S T→EqX D (nilC es id l p S) (nilC es id l p T)
 |[],p,S,T,h=>h
 |s::l,p,S,T,h=>zjM l _ (zob h)
omit [Dfr] in
theorem zjN {all:List ESh}{bl:Bl}:∀ (es:List ESh) (k:Nat) {S T:St C},EqX D S T→EqX D (nilE all bl es k S) (nilE all bl es k T)
 |[],k,S,T,h=>h
 |e::es,k,S,T,h=>by
  refine zjN es _ ?_
  unfold zcz
  split
  ·exact zjM _ 0 h
  ·exact h
omit [Dfr] in
theorem zoc (h:EqX D S T) {g:Sig}{m:Nat}(hf:wK D g.ts):EqX D (g.prep m S) (g.prep m T):=by
 unfold Sig.prep
 rw [zmv h hf]
 have h':=zao (es:=g.es) g.ts (EqX.frz (fzT T g.ts) h) hf
 generalize nilT g.es g.ts (S.frz _)=S' at h' ⊢
 generalize nilT g.es g.ts (T.frz _)=T' at h' ⊢
 simp only
 rw [zap h' hf]
 have h2:=zjN (all:=g.es) (bl:=yu g m T') g.es 0 h'
 generalize nilE g.es _ g.es 0 S'=S2 at h2 ⊢
 generalize nilE g.es _ g.es 0 T'=T2 at h2 ⊢
 rw [zap h2 hf,zmw h2.heap]
 exact EqX.frz _ h2
omit [Dfr] in
theorem zlc (h:EqX D S T) {g:Sig}{m:Nat}{bl:Bl}(hf:wK D g.ts):Xb g m S bl=Xb g m T bl:=by
 unfold Xb
 rw [zbY h.heap,show g.ts.map (fun t=>S.env t.1)=g.ts.map fun t=>T.env t.1 from List.map_congr_left fun q hq=>h.env _ (hf q hq)]
omit [Dfr] in
theorem zod (h:EqX D S T) (As:List (AV C.D)):EqX D (virt S As) (virt T As):=⟨h.heap,fun t ht=>by
 show (bif Nat.blt t vB then S.env t else _)=(bif Nat.blt t vB then T.env t else _)
 rw [h.env t ht]⟩
omit [Dfr] in
theorem zld (h:EqX D S T):EqX D (unvirt S) (unvirt T):=⟨h.heap,fun t ht=>by
 show (bif Nat.blt t vB then S.env t else _)=(bif Nat.blt t vB then T.env t else _)
 rw [h.env t ht]⟩
omit [Dfr] in
theorem zm1 (h:EqX D S T):EqX (fun t=>D (vB+t)) (wr S) (wr T):=⟨h.heap,fun t ht=>h.env _ ht⟩
omit [Dfr] in
theorem zif (hD:∀ t,D t→t < vB) {g:Sig}:wK D g.shift.ts:=fun q hq=>by
 obtain ⟨p,hp,rfl⟩:=List.mem_map.1 hq
 intro hd
 have:=hD _ hd
 simp only at this;omega
def zmx (D:Nat→Prop) {ins:Sig}:Option (St C×Bl×ins.ty C)→Option (St C×Bl×ins.ty C)→Prop
 |some (S,bl,x),some (T,bl',x')=>EqX D S T∧bl=bl'∧x=x'
 |none,none=>True
 |_,_=>False
omit [Dfr] in
theorem zle (h:EqX D S T) (hD:∀ t,D t→t < vB) {ins:Sig}{As:List (AV C.D)}:zmx D (yV ins S As) (yV ins T As):=by
 unfold yV
 have hv:=zod h As
 have hf:=zif hD (g:=ins)
 have hp:=zoc hv (g:=ins.shift) (m:=0) hf
 have hb:=zap hp (g:=ins.shift) (m:=0) hf
 have hg:∀ bl,Xb ins 0 (wr (ins.shift.prep 0 (virt S As))) bl=Xb ins 0 (wr (ins.shift.prep 0 (virt T As))) bl:=fun bl=>zlc (zm1 hp) fun q hq hd=>by
  have:=hD _ hd;omega
 simp only [hb,hg]
 cases Nat.beq As.length ins.ts.length && Nat.ble ins.es.length 64 with
 |false=>trivial
 |true=>
  show zmx D (Option.map _ _) (Option.map _ _)
  cases Xb ins 0 (wr (ins.shift.prep 0 (virt T As))) (yu ins.shift 0 (ins.shift.prep 0 (virt T As))) with
  |none=>trivial
  |some x=>exact ⟨hp,rfl,rfl⟩
omit [Dfr] in
theorem zjO (h:EqX D S T) {Sr:St C}{d:Nat}{bl:Bl}{es:List ESh}:EqX D (ya S Sr d bl es) (ya T Sr d bl es):=by
 refine ⟨?_,fun t ht=>?_⟩
 ·unfold ya;simp only;rw [h.heap]
 ·show AV.kill _ (S.env t)=AV.kill _ (T.env t);rw [h.env t ht]
omit [Dfr] in
theorem zfk (h:S.heap=T.heap) {Sr:St C}{d:Nat}{bl:Bl}:∀ {k:Nat},Wt S Sr d bl k=Wt T Sr d bl k
 |0=>rfl
 |k+1=>by unfold Wt;rw [h,zfk h]
omit [Dfr] in
theorem zee {outs:List (XK×Sig)}{r:ze C outs}{f g:XE C→St C→Option (Out C)}(h:∀ e Sr,ZR D (f e Sr) (g e Sr)):ZR D (z6 outs r f) (z6 outs r g):=by
 have hf:z6 outs r (fun _ _=>True):=by
  revert r
  induction outs with
  |nil=>intro r;exact r.elim
  |cons o l ih=>
   have one:∀ y:XK.ty C o.1 o.2,Yw o.1 o.2 y (fun _ _=>True):=fun y=>by
    obtain ⟨k,g⟩:=o;cases k <;> trivial
   cases l with
   |nil=>intro r;exact one r
   |cons o2 l=>
    intro r
    cases r with
    |inl a=>exact one a
    |inr y=>exact ih (r:=y)
 revert r
 induction outs with
 |nil=>intro r;exact r.elim
 |cons o l ih=>
  have one:∀ y:XK.ty C o.1 o.2,ZR D (Yw o.1 o.2 y f) (Yw o.1 o.2 y g):=fun y=>by
   obtain ⟨k,sg⟩:=o;cases k <;> exact h _ _
  cases l with
  |nil=>intro r _;exact one r
  |cons o2 l=>
   intro r hr
   cases r with
   |inl a=>exact one a
   |inr y=>exact ih (r:=y) hr
omit [Dfr] in
theorem zjP (h:EqX D S T) {s:Spec C}{d:Nat}{bl:Bl}{x:s.ins.ty C}:ZR D (YT s d S bl x) (YT s d T bl x):=by
 unfold YT
 refine .bind fun r =>.chk (zee fun e Sr=>?_)
 unfold zcB
 rw [zfk h.heap]
 refine .chk ?_
 have hm:=zld (zjO h (Sr:=Sr) (d:=d) (bl:=bl) (es:=xH s.outs r))
 cases e with
 |ret=>exact ⟨hm.heap,(hm.put d _ (hp:=fun _=>none)).env⟩
 |pan A=>exact ⟨rfl,hm⟩
 |normal=>trivial
 |exit i=>trivial
omit [Dfr] in
theorem zjQ (h:EqX D S T) {s:Spec C}{d:Nat}{x:s.ins.ty C}:ZR D (XB s d S x) (XB s d T x):=by
 unfold XB
 refine .chk (.bind fun r=>zee fun e Sr=>?_)
 unfold zai
 cases e with
 |ret=>exact .chk ⟨h.heap,(h.put d _ (hp:=fun _=>none)).env⟩
 |pan A=>exact .chk ⟨rfl,h⟩
 |normal=>trivial
 |exit i=>trivial
omit [Dfr] in
theorem zbZ (h:EqX D S T) (hD:∀ t,D t→t < vB) {d f:Nat}{As:List (AV C.D)}:∀ {Γ:List (Spec C)},ZR D (YU Γ S d f As) (YU Γ T d f As)
 |[]=>trivial
 |s::Γ=>by
  unfold YU
  cases Nat.beq s.f f with
  |false=>exact zbZ h hD
  |true=>
   simp only [cond_true]
   have hl:=zle h hD (ins:=s.ins) (As:=As)
   generalize yV s.ins S As=a at hl
   generalize yV s.ins T As=b at hl
   match a,b,hl with
   |none,none,_=>exact zbZ h hD
   |some (S2,bl,x),some (T2,_,_),⟨h2,rfl,rfl⟩=>
    show ZR D (bif s.view then XB s d S x else YT s d S2 bl x) (bif s.view then XB s d T x else YT s d T2 bl x)
    cases s.view with
    |true=>exact zjQ h
    |false=>exact zjP h2
omit [Dfr] in
theorem zcF (h:EqX D S T) {ty:TypeId}{op:Op}(hf:vE D op.operands.toList):yD P S ty op=yD P T ty op:=zgW (h.ops hf) fun id _=>by rw [h.heap]
omit [Dfr] in
theorem ZR.map {x:Option (AV C.D)}{d:Nat}(h:EqX D S T):ZR D (x.map fun A =>.go (S.put d A)) (x.map fun A =>.go (T.put d A)):=by
 cases x with
 |none=>trivial
 |some A=>exact ⟨h.heap,(h.put d A (hp:=fun _=>Option.none)).env⟩
omit [Dfr] in
theorem zef (h:EqX D S T) {x:Operand}(hx:S.op x=T.op x):ZR D (xf S x) (xf T x):=by
 unfold xf
 rw [hx]
 split
 ·exact .chk ⟨rfl,h⟩
 ·trivial
omit [Dfr] in
theorem zcG (h:EqX D S T) {d:Nat}{ty t:TypeId}{x:Operand}{lo hi:Option Operand}(hx:S.op x=T.op x) (hf:vE D (Op.slice t x lo hi none).operands.toList):ZR D (yB P S d ty t x lo hi) (yB P T d ty t x lo hi):=by
 unfold yB
 rw [hx]
 split
 ·rename_i id e
  have h1:=EqX.frz1 h id
  rw [zcF h1 hf]
  exact .bind fun A=>⟨h1.heap,(h1.put d A (hp:=fun _=>none)).env⟩
 ·trivial
omit [Dfr] in
theorem zig (h:EqX D S T) {q:Opts}{d:Nat}{ty t:TypeId}{x:Operand}{lo hi mx:Option Operand}(hf:vE D (Op.slice t x lo hi mx).operands.toList):ZR D (YF q P S d ty t x lo hi mx) (YF q P T d ty t x lo hi mx):=by
 have hop:=h.ops hf
 have hx:S.op x=T.op x:=hop x (by simp [Op.operands])
 unfold YF
 split
 ·cases q.fs with
  |true=>exact zcG h hx hf
  |false=>
   have h1:∀ y,hi=some y→S.op y=T.op y:=fun y e=>hop y (by subst e;simp [Op.operands])
   have h2:∀ y,(none:Option Operand)=some y→S.op y=T.op y:=fun y e=>by cases e
   exact zed h hx h1 h2
 ·have h1:∀ y,hi=some y→S.op y=T.op y:=fun y e=>hop y (by subst e;simp [Op.operands])
  have h2:∀ y,mx=some y→S.op y=T.op y:=fun y e=>hop y (by subst e;simp [Op.operands])
  exact zed h hx h1 h2
 ·exact zcG h hx hf
 ·trivial
omit [Dfr] in
theorem zjR (h:EqX D S T) {d:Nat}{t t':TypeId}{x:Operand}(hx:S.op x=T.op x):ZR D (yA P S d t t' x) (yA P T d t t' x):=by
 unfold yA
 rw [hx]
 split
 ·split
  ·exact .chk (.bind fun l=>⟨h.heap,(h.put d _ (hp:=fun _=>none)).env⟩)
  ·trivial
 ·trivial
omit [Dfr] in
theorem zm2 (h:EqX D S T) {d:Nat}{t t':TypeId}{x:Operand}(hx:S.op x=T.op x):ZR D (Xk P S d t t' x) (Xk P T d t t' x):=by
 unfold Xk
 rw [hx]
 split
 ·split
  ·rw [zgY h.heap]
   exact .chk (.bind fun ts =>.bind fun l=>⟨h.heap,(h.put d _ (hp:=fun _=>none)).env⟩)
  ·trivial
 ·trivial
omit [Dfr] in
theorem zpE {q:Opts}{Γ:List (Spec C)}{n:Nat}{o:Oper}(h:EqX D S T) (hD:∀ t,D t→t < vB) (hf:vE D o.op.operands.toList):ZR D (stp q Γ P n o S) (stp q Γ P n o T):=by
 obtain ⟨dst,op,ty,ps,af,g⟩:=o
 have hop:=h.ops hf
 simp only at hf hop
 unfold stp
 cases dst with
 |none=>
  simp only
  split
  ·rename_i t x y
   exact zjL h (fun t e=>hf t (by simp [Op.operands,e])) (fun t e=>hf t (by simp [Op.operands,e]))
  ·rename_i x;exact zef h (hop x (by simp [Op.operands]))
  ·trivial
 |some d=>
  simp only
  refine .chk ?_
  have rd:∀ op',op'=op→ZR D ((yD P S ty op').map fun A =>.go (S.put d A)) ((yD P T ty op').map fun A =>.go (T.put d A)):=fun op' e=>by
   subst e;rw [zcF h hf];exact .map h
  unfold xU
  split
  ·exact zjK h
  ·rename_i t x
   rw [hop x (by simp [Op.operands])]
   exact .chk (zgX h)
  ·rename_i t x y;exact zlb h (hop x (by simp [Op.operands]))
  ·rename_i t m parts;exact zid h (by simpa [Op.operands] using hf)
  ·rename_i t x lo hi mx
   rw [zcF h hf]
   split
   ·exact ⟨h.heap,(h.put d _ (hp:=fun _=>none)).env⟩
   ·exact zig h hf
  ·rename_i t t' x
   have hx:=hop x (by simp [Op.operands])
   rw [zcF h hf]
   split
   ·exact ⟨h.heap,(h.put d _ (hp:=fun _=>none)).env⟩
   ·have h1:=zjR (P:=P) h (d:=d) (t:=t) (t':=t') hx
    have h2:=zm2 (P:=P) h (d:=d) (t:=t) (t':=t') hx
    revert h1
    cases yA P S d t t' x <;> cases yA P T d t t' x <;> intro h1
    ·exact h2
    ·exact h1.elim
    ·rename_i o;cases o <;> exact h1.elim
    ·exact h1
  ·rename_i c args ts
   have ha:args.toList.map S.op=args.toList.map T.op:=List.map_congr_left fun x hx=>hop x (by simp [Op.operands,Call.operands];exact .inr (by simpa using hx))
   rw [hop c (by simp [Op.operands,Call.operands]),ha]
   split
   ·exact ZR.chk (zbZ h hD)
   ·trivial
  ·rename_i args ts
   split
   ·rename_i x y t t' e1 e2
    have ha:∀ z∈args.toList,S.op z=T.op z:=fun z hz=>hop z (by simp [Op.operands,Call.operands];simpa using hz)
    rw [e1] at ha
    exact .chk (zie h (ha x (by simp)) (ha y (by simp)))
   ·trivial
  ·rename_i x;exact zef h (hop x (by simp [Op.operands]))
  ·exact rd _ rfl
end
end Go.Px
namespace Go.Px
set_option linter.unusedSectionVars false
variable [Dfr]
set_option linter.unusedVariables false
mutual
def AV.avoid {D:Nat→Type}(l:List Nat):AV D→Bool
 | .row id=> !Zg id l
 | .pc id _=> !Zg id l
 | .pr id _ _ _=> !Zg id l
 | .agg cs=>AV.avoids l cs
 | .tup cs=>AV.avoids l cs
 | .clo _ cs=>AV.avoids l cs
 | .ifc _ A=>AV.avoid l A
 |_=>true
def AV.avoids {D:Nat→Type}(l:List Nat):List (AV D)→Bool
 |[]=>true
 |A::As=>AV.avoid l A && AV.avoids l As
end
omit [Dfr] in
mutual
theorem zaq {D:Nat→Type}{l:List Nat}{id:Nat}{R:AV D}(hm:Zg id l=true):∀ {A:AV D},A.avoid l=true→AV.sub id R A=A
 | .row j,h=>by
  unfold AV.sub
  cases e:Nat.beq j id with
  |true=>
   have:=Nat.eq_of_beq_eq_true e;subst this
   simp only [AV.avoid,hm] at h;cases h
  |false=>rfl
 | .pc j o,h=>by
  unfold AV.sub
  cases e:Nat.beq j id with
  |true=>
   have:=Nat.eq_of_beq_eq_true e;subst this
   simp only [AV.avoid,hm] at h;cases h
  |false=>rfl
 | .pr j _ _ _,h=>by
  unfold AV.sub
  cases e:Nat.beq j id with
  |true=>
   have:=Nat.eq_of_beq_eq_true e;subst this
   simp only [AV.avoid,hm] at h;cases h
  |false=>rfl
 | .agg cs,h=>by unfold AV.sub;rw [XX hm h]
 | .tup cs,h=>by unfold AV.sub;rw [XX hm h]
 | .clo f cs,h=>by unfold AV.sub;rw [XX hm h]
 | .ifc t A,h=>by unfold AV.sub;rw [zaq hm (A:=A) h]
 | .int _ _,_=>rfl
 | .bool _,_=>rfl
 | .str _,_=>rfl
 | .sl _ _ _,_=>rfl
 | .pz _ _ _,_=>rfl
 | .pnil,_=>rfl
 | .nils,_=>rfl
 | .nilf,_=>rfl
 | .nili,_=>rfl
 | .und,_=>rfl
theorem XX {D:Nat→Type}{l:List Nat}{id:Nat}{R:AV D}(hm:Zg id l=true):∀ {A:List (AV D)},AV.avoids l A=true→AV.subs id R A=A
 |[],_=>rfl
 |A::As,h=>by
  simp only [AV.avoids,Bool.and_eq_true] at h
  unfold AV.subs;rw [zaq hm h.1,XX hm h.2]
end
omit [Dfr] in
mutual
theorem Vl {D:Nat→Type}{l:List Nat}{p:Nat→Bool}(hp:∀ i,p i=true→Zg i l=true):∀ {A:AV D},A.avoid l=true→AV.kill p A=A
 | .row j,h=>by
  unfold AV.kill
  cases e:p j with
  |true=>simp only [AV.avoid,hp j e] at h;cases h
  |false=>rfl
 | .pc j o,h=>by
  unfold AV.kill
  cases e:p j with
  |true=>simp only [AV.avoid,hp j e] at h;cases h
  |false=>rfl
 | .pr j _ _ _,h=>by
  unfold AV.kill
  cases e:p j with
  |true=>simp only [AV.avoid,hp j e] at h;cases h
  |false=>rfl
 | .agg cs,h=>by unfold AV.kill;rw [Xc hp h]
 | .tup cs,h=>by unfold AV.kill;rw [Xc hp h]
 | .clo f cs,h=>by unfold AV.kill;rw [Xc hp h]
 | .ifc t A,h=>by unfold AV.kill;rw [Vl hp (A:=A) h]
 | .int _ _,_=>rfl
 | .bool _,_=>rfl
 | .str _,_=>rfl
 | .sl _ _ _,_=>rfl
 | .pz _ _ _,_=>rfl
 | .pnil,_=>rfl
 | .nils,_=>rfl
 | .nilf,_=>rfl
 | .nili,_=>rfl
 | .und,_=>rfl
theorem Xc {D:Nat→Type}{l:List Nat}{p:Nat→Bool}(hp:∀ i,p i=true→Zg i l=true):∀ {A:List (AV D)},AV.avoids l A=true→AV.kills p A=A
 |[],_=>rfl
 |A::As,h=>by
  simp only [AV.avoids,Bool.and_eq_true] at h
  unfold AV.kills;rw [Vl hp h.1,Xc hp h.2]
end
section
variable {C:Cod}{S T:St C}{P:Program}
def Ent.avoid (l:List Nat):Ent C→Bool
 | .cell cs=>AV.avoids l cs
 | .row _ _=>true
 | .obj _ _ _ _=>true
def zfl (l:List Nat):Option (Ent C)→Bool
 |some e=>e.avoid l
 |none=>true
structure Keeps (S T:St C) (d:Option Nat) (l:List Nat) (p:Nat→Bool):Prop where
 env:∀ t,t < vB→d≠some t→(S.env t).avoid l=true→T.env t=S.env t
 heap:∀ id,p id=false→zfl l (S.heap id)=true→T.heap id=S.heap id
omit [Dfr] in
theorem Keeps.refl (S:St C) {d:Option Nat}{l:List Nat}{p:Nat→Bool}:Keeps S S d l p:=⟨fun _ _ _ _=>rfl,fun _ _ _=>rfl⟩
omit [Dfr] in
theorem Keeps.trans {U:St C}{d:Option Nat}{l:List Nat}{p:Nat→Bool}(h:Keeps S T d l p) (k:Keeps T U d l p):Keeps S U d l p:=
 ⟨fun t h1 h2 h3=>by have e:=h.env t h1 h2 h3;rw [k.env t h1 h2 (by rw [e];exact h3),e],fun id h1 h2=>by have e:=h.heap id h1 h2;rw [k.heap id h1 (by rw [e];exact h2),e]⟩
omit [Dfr] in
theorem Keeps.sub {id:Nat}{R:AV C.D}{d:Option Nat}{l:List Nat}{p:Nat→Bool}(hm:Zg id l=true) (hp:p id=true):Keeps S (S.sub id R) d l p:=by
 refine ⟨fun t _ _ h=>zaq hm h,fun j hj h=>?_⟩
 show (bif Nat.beq j id then none else (S.heap j).map (Ent.sub id R))=S.heap j
 cases e:Nat.beq j id with
 |true=>have:=Nat.eq_of_beq_eq_true e;subst this;rw [hp] at hj;cases hj
 |false=>
  simp only [cond_false]
  cases hs:S.heap j with
  |none=>rfl
  |some en=>
   rw [hs] at h
   cases en with
   |row T s=>rfl
   |obj q T b s=>rfl
   |cell cs=>show some (Ent.cell (AV.subs id R cs))=_;rw [XX hm h]
omit [Dfr] in
theorem Keeps.frz {d:Option Nat}{l:List Nat}{p:Nat→Bool}:∀ (r:List Nat) {S:St C},(∀ id∈r,Zg id l=true∧p id=true)→Keeps S (S.frz r) d l p
 |[],S,_ =>.refl S
 |id::r,S,h=>by
  have h1:=h id (by simp)
  have k:Keeps S (S.frz1 id) d l p:=by
   unfold St.frz1
   split
   ·exact .sub h1.1 h1.2
   ·exact .refl S
  exact k.trans (Keeps.frz r fun j hj=>h j (List.mem_cons_of_mem _ hj))
omit [Dfr] in
theorem Keeps.new {d id:Nat}{A:AV C.D}{e:Option (Ent C)}{l:List Nat}{p:Nat→Bool}(hp:p id=true):Keeps S {env:=upd S.env d A,heap:=upd S.heap id e} (some d) l p:=
 ⟨fun t _ h2 _=>zF fun e=>h2 (by rw [e]),fun j hj _=>zF fun e=>by subst e;rw [hp] at hj;cases hj⟩
omit [Dfr] in
theorem Keeps.ent {id:Nat}{e:Option (Ent C)}{d:Option Nat}{l:List Nat}{p:Nat→Bool}(hp:p id=true):Keeps S {S with heap:=upd S.heap id e} d l p:=
 ⟨fun t _ _ _=>rfl,fun j hj _=>zF fun e=>by subst e;rw [hp] at hj;cases hj⟩
omit [Dfr] in
theorem Keeps.put {d:Nat}{A:AV C.D}{l:List Nat}{p:Nat→Bool}:Keeps S (S.put d A) (some d) l p:=⟨fun t _ h2 _=>zF fun e=>h2 (by rw [e]),fun j _ _=>rfl⟩
omit [Dfr] in
theorem Keeps.virt {As:List (AV C.D)}{d:Option Nat}{l:List Nat}{p:Nat→Bool}:Keeps S (virt S As) d l p:=⟨fun t ht _ _=>by
 show (bif Nat.blt t vB then S.env t else _)=_
 rw [show Nat.blt t vB=true from by rw [Nat.blt_eq];exact ht];rfl,fun j _ _=>rfl⟩
omit [Dfr] in
theorem Keeps.unvirt {d:Option Nat}{l:List Nat}{p:Nat→Bool}:Keeps S (unvirt S) d l p:=⟨fun t ht _ _=>by
 show (bif Nat.blt t vB then S.env t else _)=_
 rw [show Nat.blt t vB=true from by rw [Nat.blt_eq];exact ht];rfl,fun j _ _=>rfl⟩
omit [Dfr] in
theorem Keeps.nilT {es:List ESh}{d:Option Nat}{l:List Nat}{p:Nat→Bool}(hp:∀ id,1048576≤id→p id=true):∀ (ts:List (Nat×Sh)) {S:St C},(∀ q∈ts,vB≤q.1)→Keeps S (nilT es ts S) d l p
 |[],S,_ =>.refl S
 |(t,s)::ts,S,hts=>by
  have hts':∀ q∈ts,vB≤q.1:=fun q hq=>hts q (List.mem_cons_of_mem _ hq)
  unfold Px.nilT
  split
  ·split
   ·cases isNone (S.heap _) with
    |false=>exact Keeps.nilT hp ts hts'
    |true=>
     refine Keeps.trans ?_ (Keeps.nilT hp ts hts')
     refine ⟨fun t' ht' _ _=>zF fun e=>?_,fun j hj _=>zF fun e=>?_⟩
     ·have:=hts _ (List.mem_cons_self ..);simp only at this;omega
     ·rw [hp j (by omega)] at hj;cases hj
   ·exact Keeps.nilT hp ts hts'
  ·exact Keeps.nilT hp ts hts'
omit [Dfr] in
theorem Keeps.nil1 {es:List ESh}{id q:Nat}{s:Sh}{d:Option Nat}{l:List Nat}{p:Nat→Bool}(hp:∀ id,1048576≤id→p id=true) (hid:p id=true):Keeps S (nil1 es id s q S) d l p:=by
 unfold Px.nil1
 split
 ·split
  ·cases isNone (S.heap _) with
   |true=>
    refine ⟨fun _ _ _ _=>rfl,fun j hj _=>?_⟩
    show upd (upd S.heap _ _) id _ j=S.heap j
    have e1:j≠id:=fun e=>by subst e;rw [hid] at hj;cases hj
    rw [zF e1]
    exact zF fun e=>by rw [hp j (by omega)] at hj;cases hj
   |false=>exact .refl S
  ·exact .refl S
 ·exact .refl S
omit [Dfr] in
theorem Keeps.nilC {es:List ESh}{id:Nat}{d:Option Nat}{l:List Nat}{p:Nat→Bool}(hp:∀ id,1048576≤id→p id=true) (hid:p id=true):∀ (sl:List Sh) (q:Nat) {S:St C},Keeps S (nilC es id sl q S) d l p
 |[],q,S =>.refl S
 |s::sl,q,S=>(Keeps.nil1 hp hid).trans (Keeps.nilC hp hid sl _)
omit [Dfr] in
theorem Keeps.nilE {all:List ESh}{bl:Bl}{d:Option Nat}{l:List Nat}{p:Nat→Bool}(hp:∀ id,1048576≤id→p id=true) (hb:∀ id,YE id bl=true→p id=true):∀ (es:List ESh) (k:Nat) {S:St C},Keeps S (nilE all bl es k S) d l p
 |[],k,S =>.refl S
 |e::es,k,S=>by
  refine Keeps.trans ?_ (Keeps.nilE hp hb es _)
  unfold zcz
  split
  ·rename_i id e';exact Keeps.nilC hp (hb id (xF e')) _ 0
  ·exact .refl S
def zmy (g:Sig) (m:Nat) (S:St C):Bl:=yu g m (nilT g.es g.ts (S.frz (fzT S g.ts)))
def zcH (g:Sig) (m:Nat) (S:St C):List Nat:=
 let S1:=nilT g.es g.ts (S.frz (fzT S g.ts))
 let S2:=nilE g.es (yu g m S1) g.es 0 S1
 fzT S g.ts++fzE S2 (yu g m S2) g.es 0
omit [Dfr] in
theorem Keeps.prep {g:Sig}{m:Nat}{d:Option Nat}{l:List Nat}{p:Nat→Bool}(hp:∀ id,1048576≤id→p id=true) (hts:∀ q∈g.ts,vB≤q.1) (hb:∀ id,YE id (zmy g m S)=true→p id=true) (hf:∀ id∈zcH g m S,Zg id l=true∧p id=true):Keeps S (g.prep m S) d l p:=by
 unfold Sig.prep
 simp only
 refine (Keeps.frz _ fun id hid=>hf id (by unfold zcH;simp only;exact List.mem_append_left _ hid)).trans ((Keeps.nilT hp g.ts hts).trans ((Keeps.nilE hp hb g.es 0).trans (Keeps.frz _ fun id hid=>hf id (by unfold zcH;simp only;exact List.mem_append_right _ hid))))
omit [Dfr] in
theorem zg1 (d k:Nat) (hk:k < 64):nid d k / 64=d+1:=by unfold nid;omega
omit [Dfr] in
theorem Keeps.merge {Sr:St C}{d:Nat}{bl:Bl}{es:List ESh}{l:List Nat}{p:Nat→Bool}(hg:∀ id∈YK es bl,Zg id l=true∧p id=true) (hb:∀ id,YE id bl=true→p id=true) (hn:∀ k,k < 64→p (nid d k)=true) (hes:es.length≤64):Keeps S (ya S Sr d bl es) (some d) l p:=by
 have hg':∀ i,Zg i (YK es bl)=true→Zg i l=true:=fun i hi=>(hg i (Zj.1 hi)).1
 refine ⟨fun t _ _ h=>Vl hg' h,fun j hj h=>?_⟩
 have e1:(ya S Sr d bl es).heap j=bif Zg j (YK es bl) then none else (S.heap j).map (Ent.kill fun i=>Zg i (YK es bl)):=by
  refine wW fun k e he hge=>?_
  rw [Nat.zero_add]
  intro e'
  unfold wc at e'
  split at e'
  ·rename_i id hid
   subst e'
   rw [hb _ (xF hid)] at hj;cases hj
  ·subst e'
   rw [hn k (by have:=(List.getElem?_eq_some_iff.1 he).1;omega)] at hj;cases hj
 rw [e1]
 cases hm:Zg j (YK es bl) with
 |true=>rw [(hg j (Zj.1 hm)).2] at hj;cases hj
 |false=>
  simp only [cond_false]
  cases hs:S.heap j with
  |none=>rfl
  |some en=>
   rw [hs] at h
   cases en with
   |row T s=>rfl
   |obj q T b s=>rfl
   |cell cs=>show some (Ent.cell (AV.kills _ cs))=_;rw [Xc hg' h]
abbrev Tch:=List Nat×(Nat→Bool)
def zcI (d:Nat):Option Tch:=some ([],fun i=>Nat.beq (i / 64) (d+1))
def zjS (id:Nat) (l:List Nat):Option Tch:=some (l,fun i=>Nat.beq i id || Zg i l)
def vF (Γ:List (Spec C)) (S:St C) (d f:Nat) (As:List (AV C.D)):Option Tch:=match Γ with
 |[]=>none
 |s::Γ=>bif Nat.beq s.f f then (match yV s.ins S As with
  |some (S2,bl,x)=>bif s.view then some ([],fun _=>false) else go s bl (zmy s.ins.shift 0 (virt S As)) (zcH s.ins.shift 0 (virt S As)++s.outs.flatMap fun o=>YK o.2.es bl)
  |none=>vF Γ S d f As) else vF Γ S d f As
where
 go (s:Spec C) (bl b1:Bl) (l:List Nat):Option Tch:=chk (s.outs.all fun o=>Nat.ble o.2.es.length 64) (some (l,fun i=>Zg i l || (YE i bl || (Nat.beq (i / 64) (d+1) || (Nat.ble 1048576 i || YE i b1)))))
def tch (Γ:List (Spec C)) (P:Program) (o:Oper) (S:St C):Option Tch:=match o.dst with
 |none=>match o.op with
  | .store t x y=>(match S.op x with
   | .pc id _=>zjS id []
   | .pr id _ _ _=>zjS id (AV.rows (S.op y))
   |_=>none)
  |_=>some ([],fun _=>false)
 |some d=>match o.op with
  | .alloc _=>zcI d
  | .box _ _=>zcI d
  | .makeSlice _ _ _=>zcI d
  | .buildSlice _ _ parts=>go d (AV.rowss (parts.toList.map fun q=>S.op q.2))
  | .call ⟨.value c,args,_⟩=>(match S.op c with
   | .clo f caps=>vF Γ S d f (xg (args.toList.map S.op) caps)
   |_=>none)
  | .call ⟨.builtin .append,args,_⟩=>(match args.toList with
   |[x,y]=>(match S.op x with
    | .row id=>go d [id]
    | .nils=>zcI d
    |_=>none)
   |_=>none)
  | .slice _ x _ _ _=>go d (S.op x).hid
  | .panic _=>some ([],fun _=>false)
  |_=>some ([],fun _=>false)
where
 go (d:Nat) (l:List Nat):Option Tch:=some (l,fun i=>Zg i l || Nat.beq (i / 64) (d+1))
omit [Dfr] in
theorem Yy {id:Nat}{l:List Nat}(h:id∈l):Zg id l=true:=Zj.2 h
omit [Dfr] in
theorem vf (d:Nat):Nat.beq (nid d 0 / 64) (d+1)=true:=by rw [zg1 d 0 (by omega)];simp
omit [Dfr] in
theorem zeg:∀ {outs:List (XK×Sig)}{r:ze C outs},∃ o∈outs,xH outs r=o.2.es
 |[],r=>r.elim
 |[o],r=>⟨o,by simp,rfl⟩
 |o::o2::l,r=>by
  cases r with
  |inl a=>exact ⟨o,by simp,rfl⟩
  |inr y=>
   obtain ⟨o',h1,h2⟩:=zeg (outs:=o2::l) (r:=y)
   exact ⟨o',List.mem_cons_of_mem _ h1,h2⟩
omit [Dfr] in
theorem zar {α:Type}{K:XE C→St C→Option α}{z:α}{outs:List (XK×Sig)}{r:ze C outs}(h:z6 outs r K=some z):∃ e S,K e S=some z:=by
 have hq:z6 outs r (fun _ _=>True):=by
  clear h
  revert r
  induction outs with
  |nil=>intro r;exact r.elim
  |cons o l ih=>
   have one:∀ y:XK.ty C o.1 o.2,Yw o.1 o.2 y (fun _ _=>True):=fun y=>by
    obtain ⟨k,g⟩:=o;cases k <;> trivial
   cases l with
   |nil=>intro r;exact one r
   |cons o2 l=>
    intro r
    cases r with
    |inl a=>exact one a
    |inr y=>exact ih (r:=y)
 obtain ⟨e,S,h1,_⟩:=xw h hq
 exact ⟨e,S,h1⟩
omit [Dfr] in
theorem Vm {d f:Nat}{As:List (AV C.D)}{S':St C}{l:List Nat}{p:Nat→Bool}:∀ {Γ:List (Spec C)},YU Γ S d f As=some (.go S')→vF Γ S d f As=some (l,p)→Keeps S S' (some d) l p
 |[],h,_=>by cases h
 |s::Γ,h,ht=>by
  unfold YU at h
  unfold vF at ht
  cases hf:Nat.beq s.f f with
  |false=>rw [hf] at h ht;exact Vm h ht
  |true=>
   rw [hf] at h ht
   simp only [cond_true] at h ht
   split at h
   ·rename_i S2 bl x hl
    rw [hl] at ht
    simp only at ht
    cases hv:s.view with
    |true=>
     rw [hv] at h ht
     cases ht
     simp only [cond_true] at h
     obtain ⟨_,h⟩:=zc h
     obtain ⟨r,_,h⟩:=Option.bind_eq_some_iff.1 h
     obtain ⟨e,Sr,h⟩:=zar h
     unfold zai at h
     cases e with
     |normal=>cases h
     |exit i=>cases h
     |pan A=>obtain ⟨_,h⟩:=zc h;cases h
     |ret=>obtain ⟨_,h⟩:=zc h;cases h;exact .put
    |false=>
    rw [hv] at h ht
    simp only [cond_false] at h ht
    obtain ⟨hc,ht⟩:=zc ht
    cases ht
    unfold yV at hl
    obtain ⟨_,hl⟩:=zc hl
    obtain ⟨x',hx,he⟩:=Option.map_eq_some_iff.1 hl
    cases he
    unfold YT at h
    obtain ⟨r,_,h⟩:=Option.bind_eq_some_iff.1 h
    obtain ⟨_,h⟩:=zc h
    obtain ⟨e,Sr,h⟩:=zar h
    unfold zcB at h
    obtain ⟨_,h⟩:=zc h
    cases e with
    |normal=>cases h
    |exit i=>cases h
    |pan A=>cases h
    |ret=>
     cases h
     obtain ⟨o,ho,he⟩:=zeg (outs:=s.outs) (r:=r)
     refine Keeps.trans .virt (Keeps.trans (.prep (g:=s.ins.shift) (m:=0) (fun id h=>?_) (fun q hq=>?_) (fun id hid=>?_) (fun id hid=>?_)) (Keeps.trans (.merge (fun id hid=>?_) (fun id hid=>?_) (fun k hk=>?_) ?_) (Keeps.trans .unvirt .put)))
     ·simp [Nat.ble_eq,h]
     ·obtain ⟨p,hp,rfl⟩:=List.mem_map.1 hq
      simp only;omega
     ·simp only [hid,Bool.or_true]
     ·have:=Yy (List.mem_append_left (s.outs.flatMap fun o=>YK o.2.es (yu s.ins.shift 0 (s.ins.shift.prep 0 (virt S As)))) hid)
      exact ⟨this,by simp only [this,Bool.true_or]⟩
     ·have:id∈zcH s.ins.shift 0 (virt S As)++s.outs.flatMap fun o=>YK o.2.es (yu s.ins.shift 0 (s.ins.shift.prep 0 (virt S As))):=List.mem_append_right _ (List.mem_flatMap.2 ⟨o,ho,by rw [← he];exact hid⟩)
      have:=Yy this
      exact ⟨this,by simp only [this,Bool.true_or]⟩
     ·simp only [hid,Bool.true_or,Bool.or_true]
     ·simp only [zg1 d k hk,Nat.beq_refl,Bool.true_or,Bool.or_true]
     ·rw [he];exact Nat.le_of_ble_eq_true (List.all_eq_true.1 hc o ho)
   ·rename_i hl
    rw [hl] at ht
    exact Vm h ht
omit [Dfr] in
theorem zbE {d:Nat}{cs:List (AV C.D)}{S':St C}{l:List Nat}{p:Nat→Bool}(h:v8 S d cs=some (.go S')) (hp:p (nid d 0)=true):Keeps S S' (some d) l p:=by
 obtain ⟨_,h⟩:=zc h
 cases h
 exact .new hp
omit [Dfr] in
theorem VT {d:Nat}{t:TypeId}{x:Operand}{hi mx:Option Operand}{S':St C}(h:YQ P S d t x hi mx=some (.go S')):Keeps S S' (some d) (S.op x).hid fun i=>Zg i (S.op x).hid || Nat.beq (i / 64) (d+1):=by
      unfold YQ at h
      split at h
      · split at h
        · split at h
          · rename_i id ex
            rw [ex]
            have hid:Zg id (AV.hid (.row (D:=C.D) id))=true:=Yy (by simp [AV.hid])
            have two:∀ {A e},Keeps S {env:=upd (S.sub id .und).env d A,heap:=upd (S.sub id .und).heap (nid d 0) e} (some d) (AV.hid (.row (D:=C.D) id)) fun i=>Zg i (AV.hid (.row (D:=C.D) id)) || Nat.beq (i / 64) (d+1):=fun {A e}=>
              Keeps.trans (.sub hid (by simp only [hid,Bool.true_or])) (.new (by simp only [vf,Bool.or_true]))
            split at h
            · obtain ⟨_,h⟩:=zc h
              split at h
              · split at h
                · obtain ⟨q,_,h⟩:=Option.bind_eq_some_iff.1 h
                  cases h
                  exact two
                · cases h
              · generalize (isZ _ && isZ _)=z at h
                cases z with
                |true=>
                  cases h
                  exact .new (by simp only [vf,Bool.or_true])
                |false=>
                  simp only [cond_false] at h
                  split at h
                  · obtain ⟨_,h⟩:=zc h
                    obtain ⟨q,_,h⟩:=Option.bind_eq_some_iff.1 h
                    cases h
                    exact two
                  · cases h
              · cases h
            · cases h
          · obtain ⟨_,h⟩:=zc h
            split at h
            · obtain ⟨_,h⟩:=zc h
              cases h
              exact .new (by simp only [vf,Bool.or_true])
            · cases h
          · cases h
        · cases h
      · cases h
omit [Dfr] in
theorem vG {d:Nat}{ty t:TypeId}{x:Operand}{lo hi:Option Operand}{S':St C}(h:yB P S d ty t x lo hi=some (.go S')):Keeps S S' (some d) (S.op x).hid fun i=>Zg i (S.op x).hid || Nat.beq (i / 64) (d+1):=by
 unfold yB at h
 split at h
 ·rename_i id ex
  obtain ⟨A,_,h⟩:=Option.bind_eq_some_iff.1 h
  cases h
  rw [ex]
  have hid:Zg id (AV.hid (.row (D:=C.D) id))=true:=Yy (by simp [AV.hid])
  have:=Keeps.frz (d:=some d) (l:=AV.hid (.row (D:=C.D) id)) (p:=fun i=>Zg i (AV.hid (.row (D:=C.D) id)) || Nat.beq (i / 64) (d+1)) [id] (S:=S) (fun j hj=>by
   obtain rfl:j=id:=by simpa using hj
   exact ⟨hid,by simp only [hid,Bool.true_or]⟩)
  exact Keeps.trans this .put
 ·cases h
omit [Dfr] in
theorem zoe {q:Opts}{Γ:List (Spec C)}{n:Nat}{o:Oper}{S':St C}{l:List Nat}{p:Nat→Bool}(h:stp q Γ P n o S=some (.go S')) (ht:tch Γ P o S=some (l,p)):Keeps S S' o.dst l p:=by
 obtain ⟨dst,op,ty,ps,af,g⟩:=o
 unfold stp at h
 unfold tch at ht
 cases dst with
 |none=>
  simp only at h ht ⊢
  split at h
  ·rename_i t x y
   simp only at ht
   unfold yt at h
   split at h
   ·rename_i ti id off hi ex
    rw [ex] at ht;cases ht
    split at h
    ·obtain ⟨_,h⟩:=zc h
     cases h
     exact .ent (by simp)
    ·cases h
   ·rename_i ti id T i off hi ex
    rw [ex] at ht;cases ht
    refine Keeps.trans (.frz (AV.rows (S.op y)) fun j hj=>⟨Yy hj,by rw [Yy hj];simp⟩) ?_
    have hx:(S.frz (AV.rows (S.op y))).op x = .pr id T i off∨¬ (S.frz (AV.rows (S.op y))).op x = .pr id T i off:=Classical.em _
    have key:∀ (S1:St C),(∀ id' T' i' off',S1.op x = .pr id' T' i' off'→id'=id)→yt.go x y ti S1=some (.go S')→Keeps S1 S' none (AV.rows (S.op y)) fun i=>Nat.beq i id || Zg i (AV.rows (S.op y)):=by
     intro S1 hk h
     unfold yt.go at h
     split at h
     ·rename_i id' T' i' off' ex'
      have:=hk _ _ _ _ ex'
      subst this
      split at h
      ·obtain ⟨_,h⟩:=zc h
       obtain ⟨q,_,h⟩:=Option.bind_eq_some_iff.1 h
       obtain ⟨q',_,h⟩:=Option.bind_eq_some_iff.1 h
       cases h
       exact .ent (by simp)
      ·cases h
     ·cases h
    refine key _ ?_ h
    intro id' T' i' off' e'
    cases x with
    |const v=>exact absurd ex (by cases v <;> (try (intro h;cases h;done)) <;> (simp only [St.op,vU,yo];(try split) <;> simp))
    |global g=>cases ex
    |func f=>cases ex
    |tmp tt=>
     have e1:S.env tt = .pr id T i off:=ex
     have e2:(S.frz (AV.rows (S.op y))).env tt = .pr id' T' i' off':=e'
     have frzpr:∀ (r:List Nat) (S1:St C),(∀ a b c d,S1.env tt = .pr a b c d→a=id)→(∀ R,S1.env tt=R→(∃ a b c d,R = .pr a b c d)∨R = .und)→(∀ a b c d,(S1.frz r).env tt = .pr a b c d→a=id):=by
      intro r
      induction r with
      |nil=>intro S1 h1 _;exact h1
      |cons j r ih=>
       intro S1 h1 h2
       refine ih (S1.frz1 j) ?_ ?_
       ·intro a b c d e
        unfold St.frz1 at e
        split at e
        ·have e:AV.sub j _ (S1.env tt)=_:=e
         rcases h2 _ rfl with ⟨a',b',c',d',h⟩ | h
         ·rw [h] at e
          unfold AV.sub at e
          cases hb:Nat.beq a' j with
          |true=>rw [hb] at e;cases e
          |false=>rw [hb] at e;cases e;exact h1 _ _ _ _ h
         ·rw [h] at e;cases e
        ·exact h1 a b c d e
       ·intro R e
        unfold St.frz1 at e
        split at e
        ·have e:AV.sub j _ (S1.env tt)=_:=e
         rcases h2 _ rfl with ⟨a',b',c',d',h⟩ | h
         ·rw [h] at e
          unfold AV.sub at e
          cases hb:Nat.beq a' j with
          |true=>rw [hb] at e;exact .inr e.symm
          |false=>rw [hb] at e;exact .inl ⟨_,_,_,_,e.symm⟩
         ·rw [h] at e;exact .inr e.symm
        ·exact h2 R e
     exact frzpr _ S (fun a b c d e=>by rw [e1] at e;cases e;rfl) (fun R e =>.inl ⟨_,_,_,_,e.symm.trans e1⟩) _ _ _ _ e2
   ·cases h
  ·rename_i x
   unfold xf at h
   split at h
   ·obtain ⟨_,h⟩:=zc h;cases h
   ·cases h
  ·cases h
 |some d=>
  simp only at h ht ⊢
  obtain ⟨_,h⟩:=zc h
  unfold xU at h
  have pan:∀ x,xf S x=some (.go S')→False:=fun x h=>by
   unfold xf at h
   split at h
   ·obtain ⟨_,h⟩:=zc h;cases h
   ·cases h
  split at h
  ·cases ht
   unfold wb at h
   split at h
   ·split at h
    ·split at h
     ·obtain ⟨_,h⟩:=zc h
      cases h
      exact .new (vf d)
     ·exact zbE h (vf d)
    ·cases h
   ·cases h
  ·cases ht
   obtain ⟨_,h⟩:=zc h
   exact zbE h (vf d)
  ·cases ht
   unfold XT at h
   split at h
   ·split at h
    ·split at h
     ·obtain ⟨_,h⟩:=zc h
      obtain ⟨q,_,h⟩:=Option.bind_eq_some_iff.1 h
      obtain ⟨q',_,h⟩:=Option.bind_eq_some_iff.1 h
      cases h
      exact .new (vf d)
     ·cases h
    ·cases h
   ·cases h
  ·rename_i t m parts
   cases ht
   unfold YD at h
   refine Keeps.trans (.frz _ fun j hj=>⟨Yy hj,by simp only [Yy hj,Bool.true_or]⟩) ?_
   generalize S.frz _=S1 at h ⊢
   unfold YD.go at h
   split at h
   ·split at h
    ·split at h
     ·obtain ⟨_,h⟩:=zc h
      obtain ⟨q,_,h⟩:=Option.bind_eq_some_iff.1 h
      cases h
      exact .new (by simp only [vf,Bool.or_true])
     ·cases h
    ·cases h
   ·cases h
  ·rename_i t x lo hi mx
   cases ht
   split at h
   ·cases h;exact .put
   ·unfold YF at h
    split at h
    ·cases hq:q.fs with
     |true=>rw [hq,cond_true] at h;exact vG h
     |false=>rw [hq,cond_false] at h;exact VT h
    ·exact VT h
    ·exact vG h
    ·cases h
  ·cases ht
   split at h
   ·cases h;exact .put
   ·split at h
    ·rename_i o e
     cases h
     unfold yA at e
     split at e
     ·split at e
      ·obtain ⟨_,e⟩:=zc e
       obtain ⟨l,_,e⟩:=Option.bind_eq_some_iff.1 e
       cases e;exact .put
      ·cases e
     ·cases e
    ·unfold Xk at h
     split at h
     ·split at h
      ·obtain ⟨_,h⟩:=zc h
       obtain ⟨l,_,h⟩:=Option.bind_eq_some_iff.1 h
       obtain ⟨l,_,h⟩:=Option.bind_eq_some_iff.1 h
       cases h;exact .put
      ·cases h
     ·cases h
  ·rename_i c args ts _
   simp only at ht
   split at h
   ·rename_i f caps ec
    rw [ec] at ht
    exact Vm (zc h).2 ht
   ·cases h
  ·rename_i args ts _
   simp only at ht
   split at h
   ·rename_i x y t t' e1 e2
    rw [e1] at ht
    simp only at ht
    obtain ⟨_,h⟩:=zc h
    unfold Y1 at h
    split at h
    ·split at h
     ·split at h
      ·obtain ⟨_,h⟩:=zc h
       split at h
       ·rename_i id ex
        rw [ex] at ht;cases ht
        have hid:Zg id [id]=true:=Yy (by simp)
        split at h
        ·obtain ⟨_,h⟩:=zc h
         obtain ⟨q,_,h⟩:=Option.bind_eq_some_iff.1 h
         obtain ⟨q',_,h⟩:=Option.bind_eq_some_iff.1 h
         cases h
         exact Keeps.trans (.sub hid (by simp only [hid,Bool.true_or])) (.new (by simp only [vf,Bool.or_true]))
        ·cases h
       ·rename_i ex
        rw [ex] at ht;cases ht
        obtain ⟨q,_,h⟩:=Option.bind_eq_some_iff.1 h
        obtain ⟨q',_,h⟩:=Option.bind_eq_some_iff.1 h
        cases h
        exact .new (vf d)
       ·cases h
      ·cases h
     ·cases h
    ·cases h
   ·cases h
  ·exact (pan _ h).elim
  ·obtain ⟨A,_,h⟩:=Option.map_eq_some_iff.1 h
   cases h
   exact .put
end
end Go.Px
namespace Go.Px
set_option linter.unusedSectionVars false
variable [Dfr]
set_option linter.unusedVariables false
def vH:List Operand→List Nat
 |[]=>[]
 | .tmp t::r=>t::vH r
 |_::r=>vH r
omit [Dfr] in
theorem Vn {t:Nat}:∀ {l:List Operand},Operand.tmp t∈l→t∈vH l
 |x::r,h=>by
  rcases List.mem_cons.1 h with h | h
  ·subst h;simp [vH]
  ·have:=Vn h
   cases x <;> simp [vH,this]
def Xd (ops:Array Oper) (o:Oper):List Nat:=match o.guard with
 |none=>[]
 |some (j,_)=>match (ops[j]?).bind (·.dst) with
  |some d=>[d]
  |none=>[]
def looks (ops:Array Oper) (o:Oper):List Nat:=vH o.op.operands.toList++Xd ops o
def zI (o:Oper):List Nat:=(o.after.toList.filter (Region.binds .any)).map (·.on)
omit [Dfr] in
theorem zih {o:Oper}{e:Edge}(h:e∈o.after) (hb:Region.binds .any e=true):e.on∈zI o:=List.mem_map.2 ⟨e,List.mem_filter.2 ⟨by simpa using h,hb⟩,rfl⟩
def Vo (l cl:List Nat):Bool:=l.all fun j=>Zg j cl
def zbe:List (Nat×Nat)→Nat→Nat
 |[],_=>0
 |(i,m)::r,j=>bif Nat.beq i j then m else zbe r j
def Yq (al:List (Nat×Nat)):List Nat→Nat
 |[]=>0
 |j::ds=>Nat.lor (Nat.lor (Nat.shiftLeft 1 j) (zbe al j)) (Yq al ds)
section
variable {C:Cod}{ρ:Type}
def zcJ (S:St C) (l:List Nat) (dst:Option Nat) (t:Nat):Bool:=(S.env t).avoid l && (Nat.blt t vB && (match dst with | some d=> !Nat.beq t d | none=>true))
def zcK (ops:Array Oper) (S:St C) (l:List Nat) (p:Nat→Bool) (dst:Option Nat) (r:Nat):Bool:=match ops[r]? with
 |some q=>(looks ops q).all (zcJ S l dst) && ((match q.dst with | some d=>zcJ S l dst d | none=>true) && (zdq S q.op).all fun id=> !p id && zfl l (S.heap id))
 |none=>true
def zas (S:St C) (l:List Nat):St C:={S with env:=fun t=>bif Zg t l then .und else S.env t}
def zof (ops:Array Oper):List Nat:=ops.toList.filterMap (·.dst)
def wd (ops:Array Oper) (n:Nat) (cl:List Nat) (taken:List Nat) (i:Nat) (o:Oper):Bool:=match o.dst with
  |none=>true
  |some d=>Nat.blt d n && (Nat.blt d vB && (!Zg d (looks ops o) &&
      ((List.range ops.size).all fun j=>Nat.beq j i || (match ops[j]? with
        |none=>true
        |some q=>(bif Zg j cl then (!Zg j taken || !Zg d (looks ops q)) else (!Zg d (looks ops q) || Zg i (zI q))) && (match q.dst with
            |some d'=> !Nat.beq d d'
            |none=>true)))))
def zii (ops:Array Oper) (cl:List Nat) (i:Nat):Bool:=(List.range ops.size).all fun j=>Nat.beq j i || (Zg j cl || (match ops[j]? with
 |none=>true
 |some q=> !Vo (zI q) cl))
def zjT (ops:Array Oper) (cl:List Nat) (i i2:Nat):Bool:=(List.range ops.size).all fun j=>(Nat.beq j i || Nat.beq j i2) || (Zg j cl || (match ops[j]? with
 |none=>true
 |some q=> !Vo (zI q) cl))
open Classical in
noncomputable def yc {α:Type}(a b:Option α):Option α:=if a=b then a else none
omit [Dfr] in
theorem Zb {α:Type}(a:Option α):yc a a=a:=by unfold yc;rw [if_pos rfl]
omit [Dfr] in
theorem vg {α:Type}{a b:Option α}{r:α}(h:yc a b=some r):a=some r∧b=some r:=by
 unfold yc at h
 split at h
 ·rename_i e;exact ⟨h,e ▸ h⟩
 ·cases h
def Yg (stp:yP C) (tc:Oper→St C→Option Tch) (P:Program) (n:Nat) (ops:Array Oper) (okB:Bool) (cl taken:List Nat) (m:Nat) (K:XE C→St C→Option ρ) (i:Nat) (early:Bool) (o:Oper) (run:Bool) (S:St C) (next:St C→List Nat→Option ρ):Option ρ:=
  bif early then chk (wd ops n cl taken i o) (bif run then (match o.dst with
      |some d=>chk (rdQ o.op) (zk9 P S o.type o.op fun A=>next (S.put d A) (i::taken))
      |none=>none)
    else (match o.dst with
      |some d=>next (S.put d (.tup [])) (i::taken)
      |none=>next S (i::taken)))
  else chk okB (bif run then (match tc o S with
      |none=>none
      |some (l,p)=>chk (taken.all fun r=>Nat.testBit m r || zcK ops S l p o.dst r) (stp o S _ fun out=>match out with
        | .go S'=>next S' taken
        | .pan v S'=>K (.pan v) (zas S' (zof ops))))
    else chk (taken.all fun r=>Nat.testBit m r || zcK ops S [] (fun _=>false) o.dst r) (match o.dst with
      |some d=>chk (Nat.blt d n) (next (S.put d (.tup [])) taken)
      |none=>next S taken))
def xI (stp:yP C) (tc:Oper→St C→Option Tch) (P:Program) (n:Nat) (ops:Array Oper) (okB:Bool) (i:Nat) (early:Bool) (cl taken:List Nat) (al:List (Nat×Nat)) (S:St C) (K:XE C→St C→Option ρ) (next:List Nat→List Nat→List (Nat×Nat)→St C→Option ρ):Option ρ:=match ops[i]? with
    |none=>none
    |some o=>chk (!Zg i cl && Vo (zI o) cl) (match o.guard with
      |none=>Yg stp tc P n ops okB cl taken (Yq al (zI o)) K i early o true S fun S tk=>next (i::cl) tk ((i,Yq al (zI o))::al) S
      |some (j,want)=>chk (Zg j (zI o)) (match (ops[j]?).bind (·.dst) with
        |none=>none
        |some dg=>match S.env dg with
          | .bool q=>if q=true then Yg stp tc P n ops okB cl taken (Yq al (zI o)) K i early o want (S.put dg (.bool true)) (fun S tk=>next (i::cl) tk ((i,Yq al (zI o))::al) S)
              else Yg stp tc P n ops okB cl taken (Yq al (zI o)) K i early o (!want) (S.put dg (.bool false)) (fun S tk=>next (i::cl) tk ((i,Yq al (zI o))::al) S)
          | .tup []=>Yg stp tc P n ops okB cl taken (Yq al (zI o)) K i early o false S fun S tk=>next (i::cl) tk ((i,Yq al (zI o))::al) S
          |_=>none))
def xV (ops:Array Oper) (cl:List Nat) (i:Nat):Bool:=match ops[i]? with
 |some o=> !Zg i cl && Vo (zI o) cl
 |none=>false
noncomputable def Z0 (stp:yP C) (tc:Oper→St C→Option Tch) (P:Program) (n:Nat) (ops:Array Oper):List (Nat×Bool)→List Nat→List Nat→List (Nat×Nat)→St C→(XE C→St C→Option ρ)→Option ρ
  |[],cl,taken,al,S,K=>chk (Vo (List.range ops.size) cl) (K .normal S)
  |(i,early)::ord,cl,taken,al,S,K=>bif Nat.blt i 4096 then
      (bif xV ops cl i then xI stp tc P n ops (zii ops cl i) i early cl taken al S K fun cl tk al S=>Z0 stp tc P n ops ord cl tk al S K
      else Z0 stp tc P n ops ord cl taken al S K)
    else bif xV ops cl ((i - 4096) / 64) && xV ops cl ((i - 4096) % 64) then chk (zjT ops cl ((i - 4096) / 64) ((i - 4096) % 64)) (yc
      (xI stp tc P n ops true ((i - 4096) / 64) false cl taken al S K fun cl tk al S=>Z0 stp tc P n ops ord cl tk al S K)
      (xI stp tc P n ops true ((i - 4096) % 64) false cl taken al S K fun cl tk al S=>Z0 stp tc P n ops ord cl tk al S K))
    else Z0 stp tc P n ops ord cl taken al S K
end
end Go.Px
namespace Go.Px
set_option linter.unusedSectionVars false
variable [Dfr]
set_option linter.unusedVariables false
section
variable {κ:Kp}{C:Cod}{S S1:St C}{n:Nat}{w0:Start}{σ0:FS}{P:Program}{ρ:Type}{ops:Array Oper}{D:Nat→Prop}{Γ:List (Spec C)}{qo:Opts}
def xW (ops:Array Oper) (S:St C) (q:Oper) (run:Bool):Prop:=match q.guard with
 |none=>run=true
 |some (j,want)=>∃ dg,(ops[j]?).bind (·.dst)=some dg∧((∃ b,S.env dg = .bool b∧run=(b == want))∨(S.env dg = .tup []∧run=false))
def QV (P:Program) (ops:Array Oper) (S:St C) (q:Oper):Prop:=∃ run,xW ops S q run∧match run with
 |true=>rdQ q.op=true∧∃ d,q.dst=some d∧evQ P S q.type q.op=some (S.env d)
 |false=>∀ d,q.dst=some d→S.env d = .tup []
omit [Dfr] in
theorem xW.congr {q:Oper}{run:Bool}(h:xW ops S q run) (he:∀ t∈Xd ops q,S1.env t=S.env t):xW ops S1 q run:=by
 unfold xW Xd at *
 cases hg:q.guard with
 |none=>rw [hg] at h;exact h
 |some jw=>
  obtain ⟨j,want⟩:=jw
  rw [hg] at h he
  simp only at h he ⊢
  obtain ⟨dg,e,h⟩:=h
  rw [e] at he
  refine ⟨dg,e,?_⟩
  rw [he dg (by simp)]
  exact h
omit [Dfr] in
theorem wu {q:Oper}{t:Nat}(h:t∈Xd ops q):t∈looks ops q:=List.mem_append_right _ h
omit [Dfr] in
theorem zat {q:Oper}{ty:TypeId}(he:∀ t∈looks ops q,S1.env t=S.env t) (hh:∀ id∈zdq S q.op,S1.heap id=S.heap id):evQ P S1 ty q.op=evQ P S ty q.op:=by
 have hop:∀ x∈q.op.operands.toList,S.op x=S1.op x:=fun x hx=>by
  cases x with
  |tmp t=>exact (he t (List.mem_append_left _ (Vn hx))).symm
  |const v=>rfl
  |global g=>rfl
  |func f=>rfl
 unfold evQ
 split
 ·rename_i t m parts e
  rw [e] at hop
  have:∀ e,Ye S1 e (parts.toList.map (·.2))=Ye S e (parts.toList.map (·.2)):=fun e=>zcE (S:=S1) (T:=S) fun x hx=>(hop x (by simpa [Op.operands] using hx)).symm
  unfold zan
  simp only [this]
 ·exact (zgW (S:=S) (T:=S1) hop fun id hid=>(hh id hid).symm).symm
omit [Dfr] in
theorem QV.congr {q:Oper}(h:QV P ops S q) (he:∀ t∈looks ops q,S1.env t=S.env t) (hd:∀ d,q.dst=some d→S1.env d=S.env d) (hh:∀ id∈zdq S q.op,S1.heap id=S.heap id):QV P ops S1 q:=by
 obtain ⟨run,hg,h⟩:=h
 refine ⟨run,hg.congr fun t ht=>he t (wu ht),?_⟩
 cases run with
 |true=>
  obtain ⟨h1,d,h2,h3⟩:=h
  exact ⟨h1,d,h2,by rw [zat he hh,h3,hd d h2]⟩
 |false=>exact fun d e=>by rw [hd d e];exact h d e
omit [Dfr] in
theorem zau {l:List Nat}{p:Nat→Bool}{dst:Option Nat}{t:Nat}(hk:Keeps S S1 dst l p) (h:zcJ S l dst t=true):S1.env t=S.env t:=by
 simp only [zcJ,Bool.and_eq_true] at h
 obtain ⟨h1,h2,h3⟩:=h
 refine hk.env t (by rwa [Nat.blt_eq] at h2) (fun e=>?_) h1
 rw [e] at h3;simp at h3
omit [Dfr] in
theorem QV.keep {l:List Nat}{p:Nat→Bool}{dst:Option Nat}{r:Nat}{q:Oper}(h:QV P ops S q) (hk:Keeps S S1 dst l p) (hq:ops[r]?=some q) (hr:zcK ops S l p dst r=true):QV P ops S1 q:=by
 unfold zcK at hr
 rw [hq] at hr
 simp only [Bool.and_eq_true] at hr
 obtain ⟨h1,h2,h3⟩:=hr
 refine h.congr (fun t ht=>zau hk (List.all_eq_true.1 h1 t ht)) (fun d e=>?_) fun id hid=>?_
 ·rw [e] at h2;exact zau hk h2
 ·have:=List.all_eq_true.1 h3 id hid
  simp only [Bool.and_eq_true,Bool.not_eq_true'] at this
  exact hk.heap id this.1 this.2
theorem xW.wanted {a:Act}{w:World}{q:Oper}{run:Bool}(h:xW ops S q run) (hA:At n w0 σ0 κ S a w):Region.wanted q (yielded ops a.tmps)=run:=by
 unfold xW at h
 unfold Region.wanted
 cases hg:q.guard with
 |none=>rw [hg] at h;exact h.symm
 |some jw=>
  obtain ⟨j,want⟩:=jw
  rw [hg] at h
  simp only at h ⊢
  obtain ⟨dg,e,h⟩:=h
  have hy:=hA.yield e
  rcases h with ⟨b,h1,h2⟩ | ⟨h1,h2⟩
  ·rw [hy.1 b h1,h2];simp
  ·rw [hy.2 h1,h2];simp
theorem At.eqx {a:Act}{w:World}(h:At n w0 σ0 κ S a w) (e:EqX (fun _=>False) S S1):At n w0 σ0 κ S1 a w:=by
 have:S=S1:=by
  obtain ⟨e1,h1⟩:=S
  obtain ⟨e2,h2⟩:=S1
  have a1:h1=h2:=e.heap
  have a2:e1=e2:=funext fun t=>e.env t fun h=>h
  rw [a1,a2]
 rw [← this];exact h
theorem zlf (hgl:C.gl w0.w σ0) (hΓ:∀ s∈Γ,s.OK P) {r:Nat}{q:Oper}{a:Act}{w:World}{So:St C}(hq:ops[r]?=some q) (hA:At n w0 σ0 κ So a w) (hX:EqX D So S) (hv:QV P ops S q) (hl:∀ t∈looks ops q,¬ D t) (hn:∀ d,q.dst=some d→Nat.blt d n=true) {Q:Exit→Act→World→Prop}{K:Act→World→Prop}
    (hK:∀ S1 a' w',At n w0 σ0 κ S1 a' w'→EqX (fun t=>D t∧q.dst≠some t) S1 S→K a' w'):wpOp P ops Q r K a w:=by
  obtain ⟨run,hg,hv⟩:=hv
  have hg':xW ops So q run:=hg.congr fun t ht=>hX.env t (hl t (wu ht))
  have hput:∀ d A,q.dst=some d→S.env d=A→EqX (fun t=>D t∧q.dst≠some t) (So.put d A) S:=fun d A e eA=>⟨hX.heap,fun t ht=>by
    show upd So.env d A t=S.env t
    by_cases h:t=d
    · subst h;rw [zB,eA]
    · rw [zF h]
      exact hX.env t fun hd=>ht ⟨hd,fun e'=>h (by rw [e] at e';exact (Option.some.inj e').symm)⟩⟩
  unfold wpOp
  rw [hq]
  simp only [hg'.wanted hA]
  cases run with
  |true=>
    simp only [if_true]
    left
    obtain ⟨hr,d,hd,he⟩:=hv
    obtain ⟨L,b,σ,PV,hAb,hi,hf⟩:=hA
    have hev:evQ P So q.type q.op=some (S.env d):=by
      rw [← he]
      exact zat (ops:=ops) (fun t ht=>hX.env t (hl t ht)) fun id _=>by rw [hX.heap]
    obtain ⟨ν,vs,ids,hAb⟩:=hAb
    have hok:=zoa (P:=P) (n:=n) (w0:=w0) (σ0:=σ0) (q:=⟨false⟩) (Γ:=Γ) (ps:=q.pos) (af:=q.after) (g:=q.guard) hAb (hn d hd) hr hev
    have hqe:q=⟨some d,q.op,q.type,q.pos,q.after,q.guard⟩:=by
      cases q;simp only at hd;subst hd;rfl
    rw [← hqe] at hok
    refine hok _ rfl a w hi hf K Q ?_ ?_
    · intro S' e L' σ' PV' a' w' hi' hf' hA'
      cases e
      exact hK _ _ _ ⟨L',b,σ',PV',hA',hi',hf'⟩ (hput d _ hd rfl)
    · intro v S' e;cases e
  |false=>
    simp only [Bool.false_eq_true,if_false]
    cases hd:q.dst with
    |none=>
      refine hK So _ _ hA ⟨hX.heap,fun t ht=>hX.env t fun h=>ht ⟨h,by rw [hd];simp⟩⟩
    |some d=>exact hK _ _ _ (hA.skip (hn d hd)) (hput d _ hd (hv d hd))
def WfL (ops:Array Oper):List Nat→Prop
 |[]=>True
 |i::cl=>(∀ o,ops[i]?=some o→∀ j∈zI o,j∈cl)∧WfL ops cl
def zcL (ops:Array Oper) (al:List (Nat×Nat)):Prop:=∀ i m,(i,m)∈al→∀ o,ops[i]?=some o→∀ X:Nat→Prop,(∀ k q,ops[k]?=some q→X k→∀ j∈zI q,X j)→(∀ j,X j→j < ops.size)→X i→∀ a,Nat.testBit m a=true→X a
omit [Dfr] in
theorem zeh:∀ {al:List (Nat×Nat)}{j a:Nat},Nat.testBit (zbe al j) a=true→∃ m,(j,m)∈al∧Nat.testBit m a=true
 |[],j,a,h=>by simp [zbe] at h
 |(i,m)::r,j,a,h=>by
  unfold zbe at h
  cases e:Nat.beq i j with
  |true=>rw [e] at h;have:=Nat.eq_of_beq_eq_true e;subst this;exact ⟨m,by simp,h⟩
  |false=>
   rw [e] at h
   obtain ⟨m',h1,h2⟩:=zeh h
   exact ⟨m',List.mem_cons_of_mem _ h1,h2⟩
omit [Dfr] in
theorem zfm {j a:Nat}(h:Nat.testBit (Nat.shiftLeft 1 j) a=true):a=j:=by
 have h:Nat.testBit (1 <<< j) a=true:=h
 rw [Nat.one_shiftLeft,Nat.testBit_two_pow] at h
 exact (of_decide_eq_true h).symm
omit [Dfr] in
theorem zdr {al:List (Nat×Nat)}(hal:zcL ops al) (X:Nat→Prop) (hX:∀ k q,ops[k]?=some q→X k→∀ j∈zI q,X j) (hin:∀ j,X j→j < ops.size):∀ {ds:List Nat},(∀ j∈ds,X j)→∀ a,Nat.testBit (Yq al ds) a=true→X a
 |[],_,a,h=>by simp [Yq] at h
 |j::ds,hd,a,h=>by
  have h:Nat.testBit (((Nat.shiftLeft 1 j) ||| (zbe al j)) ||| (Yq al ds)) a=true:=h
  rw [Nat.testBit_or,Nat.testBit_or,Bool.or_eq_true,Bool.or_eq_true] at h
  rcases h with (h | h) | h
  ·rw [zfm h];exact hd j (by simp)
  ·obtain ⟨m,h1,h2⟩:=zeh h
   have hj:=hd j (by simp)
   obtain ⟨o,ho⟩:∃ o,ops[j]?=some o:=⟨ops[j]'(hin j hj),Array.getElem?_eq_getElem _⟩
   exact hal j m h1 o ho X hX hin hj a h2
  ·exact zdr hal X hX hin (fun k hk=>hd k (List.mem_cons_of_mem _ hk)) a h
end
end Go.Px
namespace Go.Px
set_option linter.unusedSectionVars false
variable [Dfr]
set_option linter.unusedVariables false
abbrev onX (X:Array Bool) (k:Nat):Bool:=X.getD k false
omit [Dfr] in
theorem zfn {X:Array Bool}{i:Nat}(h:i < X.size):onX (X.setIfInBounds i true) i=true:=by
 unfold onX;rw [Array.getD_eq_getD_getElem?];simp [h]
omit [Dfr] in
theorem Ww {X:Array Bool}{i k:Nat}(h:i≠k):onX (X.setIfInBounds i true) k=onX X k:=by
 unfold onX;rw [Array.getD_eq_getD_getElem?,Array.getElem?_setIfInBounds_ne h,← Array.getD_eq_getD_getElem?]
omit [Dfr] in
theorem Wx {X:Array Bool}{i k:Nat}(h:onX X k=true):onX (X.setIfInBounds i true) k=true:=by
 by_cases e:i=k
 ·subst e
  rcases Nat.lt_or_ge i X.size with z | z
  ·exact zfn z
  ·unfold onX at h;rw [Array.getD_eq_getD_getElem?,Array.getElem?_eq_none z] at h;cases h
 ·rw [Ww e];exact h
omit [Dfr] in
theorem XD {X:Array Bool}{i k:Nat}(h:onX (X.setIfInBounds i true) k=false):onX X k=false:=by
 cases e:onX X k with
 |false=>rfl
 |true=>rw [Wx e] at h;cases h
omit [Dfr] in
theorem zog {X:Array Bool}{k:Nat}(h:onX X k=true):k < X.size:=by
 rcases Nat.lt_or_ge k X.size with z | z
 ·exact z
 ·unfold onX at h;rw [Array.getD_eq_getD_getElem?,Array.getElem?_eq_none z] at h;cases h
omit [Dfr] in
theorem zfo {X:Array Bool}{k:Nat}(h:k < X.size):X.getD k true=onX X k:=by
 unfold onX;rw [Array.getD_eq_getD_getElem?,Array.getD_eq_getD_getElem?];simp [h]
omit [Dfr] in
theorem zg2 {X:Array Bool}{i:Nat}(hi:i < X.size) (h:onX X i=false) {fuel:Nat}(hc:X.toList.count false≤fuel+1):(X.setIfInBounds i true).toList.count false≤fuel:=by
 rw [Array.toList_setIfInBounds,List.count_set (by simpa using hi)]
 have h0:X.toList[i]'(by simpa using hi)=false:=by
  unfold onX at h;rw [Array.getD_eq_getD_getElem?] at h;simp [hi] at h;simpa using h
 rw [h0]
 show X.toList.count false - 1+0≤fuel
 omega
omit [Dfr] in
theorem zg3 {X:Array Bool}{i:Nat}(hi:i < X.size) (h:onX X i=false):0 < X.toList.count false:=by
 rw [List.count_pos_iff]
 have h0:X.toList[i]'(by simpa using hi)=false:=by
  unfold onX at h;rw [Array.getD_eq_getD_getElem?] at h;simp [hi] at h;simpa using h
 rw [← h0];exact List.getElem_mem _
section
variable {κ:Kp}{C:Cod}{S S':St C}{n:Nat}{w0:Start}{σ0:FS}{P:Program}{ρ:Type}{ops:Array Oper}{Γ:List (Spec C)}{qo:Opts}{cl taken:List Nat}{al:List (Nat×Nat)}{X:Array Bool}
structure Cfg (P:Program) (ops:Array Oper) (n:Nat) (cl taken:List Nat) (al:List (Nat×Nat)) (S:St C) (X:Array Bool):Prop where
 size:X.size=ops.size
 sub:∀ i,onX X i=true→i∈cl
 wf:WfL ops cl
 tk:∀ i∈cl,onX X i=false→i∈taken
 inc:∀ i∈cl,i < ops.size
 tcl:∀ i∈taken,i∈cl
 closed:∀ k q,ops[k]?=some q→onX X k=true→∀ j∈zI q,onX X j=true
 qv:∀ r q,r∈taken→onX X r=false→ops[r]?=some q→QV P ops S q
 ds:∀ r q d,r∈taken→onX X r=false→ops[r]?=some q→q.dst=some d→Nat.blt d n=true∧d < vB∧d ∉ looks ops q∧∀ j o,ops[j]?=some o→j≠r→(onX X j=false→d∈looks ops o→r∈zI o)∧o.dst≠some d
 anc:zcL ops al
def WU (ops:Array Oper) (taken:List Nat) (X:Array Bool) (t:Nat):Prop:=∃ r q,r∈taken∧onX X r=false∧ops[r]?=some q∧q.dst=some t
omit [Dfr] in
theorem Cfg.hit (h:Cfg P ops n cl taken al S X) {i:Nat}(hi:i∈cl) (hd:∀ q,ops[i]?=some q→∀ j∈zI q,onX X j=true):Cfg P ops n cl taken al S (X.setIfInBounds i true) where
 size:=by simp [h.size]
 sub k hk:=by
  by_cases e:i=k
  ·subst e;exact hi
  ·rw [Ww e] at hk;exact h.sub k hk
 wf:=h.wf
 tk k hk ho:=h.tk k hk (XD ho)
 inc:=h.inc
 tcl:=h.tcl
 closed k q hq hk j hj:=by
  by_cases e:i=k
  ·subst e;exact Wx (hd q hq j hj)
  ·rw [Ww e] at hk;exact Wx (h.closed k q hq hk j hj)
 qv r q hr ho hq:=h.qv r q hr (XD ho) hq
 ds r q d hr ho hq he:=by
  obtain ⟨h1,h2,h3,h4⟩:=h.ds r q d hr (XD ho) hq he
  exact ⟨h1,h2,h3,fun j o hj hne=>⟨fun k=>(h4 j o hj hne).1 (XD k),(h4 j o hj hne).2⟩⟩
 anc:=h.anc
omit [Dfr] in
theorem zcL.add (h:zcL ops al) {i:Nat}{o:Oper}(ho:ops[i]?=some o):zcL ops ((i,Yq al (zI o))::al):=by
 intro j m hm q hq Y hY hin hj a ha
 rcases List.mem_cons.1 hm with e | e
 ·cases e
  rw [ho] at hq;cases hq
  exact zdr h Y hY hin (hY i o ho hj) a ha
 ·exact h j m e q hq Y hY hin hj a ha
omit [Dfr] in
theorem Cfg.sync (h:Cfg P ops n cl taken al S X) {i:Nat}{o:Oper}(ho:ops[i]?=some o) (hi:i ∉ cl) (hd:∀ j∈zI o,j∈cl) (hx:∀ j∈zI o,onX X j=true) (hq:∀ r q,r∈taken→onX X r=false→ops[r]?=some q→QV P ops S' q):Cfg P ops n (i::cl) taken ((i,Yq al (zI o))::al) S' (X.setIfInBounds i true) where
 size:=by simp [h.size]
 sub k hk:=by
  by_cases e:i=k
  ·subst e;simp
  ·rw [Ww e] at hk;exact List.mem_cons_of_mem _ (h.sub k hk)
 wf:=⟨fun o' ho' j hj=>by rw [ho] at ho';cases ho';exact hd j hj,h.wf⟩
 tk k hk hoff:=by
  rcases List.mem_cons.1 hk with e | e
  ·subst e;rw [zfn (by rw [h.size];exact (Array.getElem?_eq_some_iff.1 ho).1)] at hoff;cases hoff
  ·exact h.tk k e (XD hoff)
 inc k hk:=by
  rcases List.mem_cons.1 hk with e | e
  ·subst e;exact (Array.getElem?_eq_some_iff.1 ho).1
  ·exact h.inc k e
 tcl k hk:=List.mem_cons_of_mem _ (h.tcl k hk)
 closed k q hq hk j hj:=by
  by_cases e:i=k
  ·subst e;rw [ho] at hq;cases hq;exact Wx (hx j hj)
  ·rw [Ww e] at hk;exact Wx (h.closed k q hq hk j hj)
 qv r q hr hoff hq':=hq r q hr (XD hoff) hq'
 ds r q d hr hoff hq he:=by
  obtain ⟨h1,h2,h3,h4⟩:=h.ds r q d hr (XD hoff) hq he
  exact ⟨h1,h2,h3,fun j o hj hne=>⟨fun k=>(h4 j o hj hne).1 (XD k),(h4 j o hj hne).2⟩⟩
 anc:=h.anc.add ho
omit [Dfr] in
theorem Cfg.early (h:Cfg P ops n cl taken al S X) {i:Nat}{o:Oper}(ho:ops[i]?=some o) (hi:i ∉ cl) (hd:∀ j∈zI o,j∈cl) (he:wd ops n cl taken i o=true) (hv:QV P ops S' o) (hS:∀ t,o.dst≠some t→S'.env t=S.env t) (hh:S'.heap=S.heap) :
    Cfg P ops n (i::cl) (i::taken) ((i,Yq al (zI o))::al) S' X:=by
  have he2:∀ d,o.dst=some d→Nat.blt d n=true∧d < vB∧d ∉ looks ops o∧∀ j q,ops[j]?=some q→j≠i→(j∈cl→j∈taken→d ∉ looks ops q)∧(j ∉ cl→d∈looks ops q→i∈zI q)∧q.dst≠some d:=fun d e=>by
    unfold wd at he
    rw [e] at he
    simp only [Bool.and_eq_true,Bool.not_eq_true'] at he
    obtain ⟨h1,h2,h3,h4⟩:=he
    refine ⟨h1,by rwa [Nat.blt_eq] at h2,fun hm=>(by rw [Zj.2 hm] at h3;cases h3),fun j q hj hne=>?_⟩
    have:=List.all_eq_true.1 h4 j (List.mem_range.2 (Array.getElem?_eq_some_iff.1 hj).1)
    rw [hj] at this
    simp only [Bool.or_eq_true,Bool.and_eq_true] at this
    rcases this with z | ⟨z1,z2⟩
    · exact absurd (Nat.eq_of_beq_eq_true z) hne
    · refine ⟨fun hc ht hm=>?_,fun hc hm=>?_,fun e'=>?_⟩
      · rw [Zj.2 hc,cond_true,Zj.2 ht,Zj.2 hm] at z1;cases z1
      · have:Zg j cl=false:=by
          cases e:Zg j cl with
          |false=>rfl
          |true=>exact absurd (Zj.1 e) hc
        rw [this,cond_false,Zj.2 hm] at z1
        exact Zj.1 (by simpa using z1)
      · rw [e'] at z2;simp at z2
  refine ⟨h.size,fun k hk=>List.mem_cons_of_mem _ (h.sub k hk),⟨fun o' ho' j hj=>by rw [ho] at ho';cases ho';exact hd j hj,h.wf⟩,fun k hk hoff=>?_,fun k hk=>?_,fun k hk=>?_,h.closed,fun r q hr hoff hq=>?_,fun r q d hr hoff hq e=>?_,h.anc.add ho⟩
  · rcases List.mem_cons.1 hk with e | e
    · subst e;simp
    · exact List.mem_cons_of_mem _ (h.tk k e hoff)
  · rcases List.mem_cons.1 hk with e | e
    · subst e;exact (Array.getElem?_eq_some_iff.1 ho).1
    · exact h.inc k e
  · rcases List.mem_cons.1 hk with e | e
    · subst e;simp
    · exact List.mem_cons_of_mem _ (h.tcl k e)
  · rcases List.mem_cons.1 hr with e | e
    · subst e;rw [ho] at hq;cases hq;exact hv
    · have hne:r≠i:=fun e'=>hi (e' ▸ h.tcl r e)
      refine (h.qv r q e hoff hq).congr (fun t ht=>?_) (fun d ed=>?_) fun id _=>by rw [hh]
      · exact hS t fun e'=>((he2 t e').2.2.2 r q hq hne).1 (h.tcl r e) e ht
      · exact hS d fun e'=>((he2 d e').2.2.2 r q hq hne).2.2 ed
  · rcases List.mem_cons.1 hr with e' | e'
    · subst e'
      rw [ho] at hq;cases hq
      obtain ⟨h1,h2,h3,h4⟩:=he2 d e
      refine ⟨h1,h2,h3,fun j o' hj hne=>⟨fun hoff' hm=>?_,(h4 j o' hj hne).2.2⟩⟩
      by_cases hc:j∈cl
      · exact absurd hm ((h4 j o' hj hne).1 hc (h.tk j hc hoff'))
      · exact (h4 j o' hj hne).2.1 hc hm
    · exact h.ds r q d e' hoff hq e
omit [Dfr] in
theorem zlg:∀ {cl:List Nat},WfL ops cl→(∀ i∈cl,i < ops.size)→(∃ i∈cl,onX X i=false)→∃ i q,i∈cl∧onX X i=false∧ops[i]?=some q∧∀ j∈zI q,onX X j=true
 |[],_,_,⟨i,h,_⟩=>by cases h
 |i::cl,⟨h1,h2⟩,hin,hex=>by
  by_cases hx:∃ i∈cl,onX X i=false
  ·obtain ⟨j,q,k1,k2,k3,k4⟩:=zlg h2 (fun j hj=>hin j (List.mem_cons_of_mem _ hj)) hx
   exact ⟨j,q,List.mem_cons_of_mem _ k1,k2,k3,k4⟩
  ·have hall:∀ j∈cl,onX X j=true:=fun j hj=>by
    cases e:onX X j with
    |true=>rfl
    |false=>exact absurd ⟨j,hj,e⟩ hx
   obtain ⟨j,hj,hoff⟩:=hex
   rcases List.mem_cons.1 hj with e | e
   ·subst e
    have hlt:=hin j (by simp)
    exact ⟨j,ops[j],by simp,hoff,Array.getElem?_eq_getElem hlt,fun k hk=>hall k (h1 _ (Array.getElem?_eq_getElem hlt) k hk)⟩
   ·exact absurd ⟨j,e,hoff⟩ hx
omit [Dfr] in
theorem YZ (hs:X.size=ops.size) {i:Nat}:i∈Region.ready .any ops X↔onX X i=false∧∃ o,ops[i]?=some o∧∀ j∈zI o,onX X j=true:=by
 rw [mem_ready]
 constructor
 ·rintro ⟨h1,o,h2,h3⟩
  have hlt:i < X.size:=by rw [hs];exact (Array.getElem?_eq_some_iff.1 h2).1
  refine ⟨by rw [← zfo hlt];exact h1,o,h2,fun j hj=>?_⟩
  obtain ⟨e,he,rfl⟩:=List.mem_map.1 hj
  obtain ⟨h4,h5⟩:=List.mem_filter.1 he
  exact h3 e (by simpa using h4) h5
 ·rintro ⟨h1,o,h2,h3⟩
  have hlt:i < X.size:=by rw [hs];exact (Array.getElem?_eq_some_iff.1 h2).1
  exact ⟨by rw [zfo hlt];exact h1,o,h2,fun e he hb=>h3 e.on (zih he hb)⟩
omit [Dfr] in
theorem zei (hall:∀ i∈taken,onX X i=true):∀ t,¬ WU ops taken X t:=fun t ⟨r,q,h1,h2,_⟩=>by rw [hall r h1] at h2;cases h2
omit [Dfr] in
theorem EqX.weaken {D D':Nat→Prop}{So:St C}(h:EqX D So S) (hD:∀ t,D t→D' t):EqX D' So S:=⟨h.heap,fun t ht=>h.env t fun hd=>ht (hD t hd)⟩
omit [Dfr] in
theorem AbsL.mask {L:List (Nat×Value)}{b:Nat→Value}{σ:FS}{PV:List Priv}{ν:Val}{vs:Nat→List Value}{ids:List Nat}{So:St C}{l:List Nat}(h:AbsL κ So ν vs ids L b σ PV) (e:EqX (fun t=>t∈l) So S):AbsL κ (zas S l) ν vs ids L b σ PV:=by
 have hh:(zas S l).heap=So.heap:=e.heap.symm
 have henv:∀ t,(zas S l).env t = .und∨(zas S l).env t=So.env t:=fun t=>by
  show (bif Zg t l then AV.und else S.env t)=_∨(bif Zg t l then AV.und else S.env t)=_
  cases hm:Zg t l with
  |true=>exact .inl rfl
  |false=>
   refine .inr (e.env t fun hd=>?_).symm
   rw [Zj.2 hd] at hm;cases hm
 refine ⟨⟨h.nd,fun id=>by rw [hh];exact h.dom id,by rw [h.pv,hh],fun id cs hc=>h.cell id cs (by rw [← hh];exact hc),fun t=>?_,h.one⟩,fun t=>?_,fun id cs hc=>?_,fun k hk hs=>h.keep k hk (by rw [← hh];exact hs)⟩
 ·rcases henv t with z | z
  ·rw [z];trivial
  ·rw [z];exact h.env t
 ·rcases henv t with z | z
  ·rw [z];trivial
  ·rw [z,hh];exact h.live t
 ·rw [hh] at hc ⊢;exact h.livec id cs hc
omit [Dfr] in
theorem zg4 {d:Nat}{A:AV C.D}(h:S.env d=A):S.put d A=S:=by
 unfold St.put
 have:upd S.env d A=S.env:=by
  funext t
  by_cases e:t=d
  ·subst e;rw [zB,h]
  ·rw [zF e]
 rw [this]
omit [Dfr] in
theorem ZR.inv {D:Nat→Prop}{x:Option (Out C)}{out:Out C}(h:ZR D x (some out)):∃ out',x=some out'∧match out',out with
    | .go S,.go T=>EqX D S T
    | .pan u S,.pan v T=>u=v∧EqX D S T
    |_,_=>False:=by
  match x,out,h with
  |some (.go S),.go T,h=>exact ⟨_,rfl,h⟩
  |some (.pan u S),.pan v T,h=>exact ⟨_,rfl,h⟩
  |some (.go S),.pan v T,h=>exact h.elim
  |some (.pan u S),.go T,h=>exact h.elim
omit [Dfr] in
theorem wv {okB:Bool}{i:Nat}{early:Bool}{next:List Nat→List Nat→List (Nat×Nat)→St C→Option ρ}{K:XE C→St C→Option ρ}{r:ρ}{stp:yP C}{tc:Oper→St C→Option Tch}(h:xI stp tc P n ops okB i early cl taken al S K next=some r) :
    ∃ o run,ops[i]?=some o∧i ∉ cl∧(∀ j∈zI o,j∈cl)∧(∀ t∈Xd ops o,∃ j,j∈zI o∧(ops[j]?).bind (·.dst)=some t)∧xW ops S o run∧Yg stp tc P n ops okB cl taken (Yq al (zI o)) K i early o run S (fun S tk=>next (i::cl) tk ((i,Yq al (zI o))::al) S)=some r:=by
  unfold xI at h
  split at h
  · cases h
  · rename_i o ho
    obtain ⟨hc,h⟩:=zc h
    simp only [Bool.and_eq_true,Bool.not_eq_true'] at hc
    have h1:i ∉ cl:=fun hm=>by rw [Zj.2 hm] at hc;cases hc.1
    have h2:∀ j∈zI o,j∈cl:=fun j hj=>Zj.1 (List.all_eq_true.1 hc.2 j hj)
    split at h
    · rename_i hg
      exact ⟨o,true,ho,h1,h2,fun t ht=>(by unfold Xd at ht;rw [hg] at ht;cases ht),(by unfold xW;rw [hg]),h⟩
    · rename_i j want hg
      obtain ⟨hj,h⟩:=zc h
      have hj:=Zj.1 hj
      split at h
      · cases h
      · rename_i dg hdg
        have hgt:∀ t∈Xd ops o,∃ j,j∈zI o∧(ops[j]?).bind (·.dst)=some t:=fun t ht=>by
          unfold Xd at ht
          rw [hg] at ht
          simp only [hdg] at ht
          have:=List.mem_singleton.1 ht
          subst this
          exact ⟨j,hj,hdg⟩
        have hgr:∀ {run:Bool},((∃ b,S.env dg = .bool b∧run=(b == want))∨(S.env dg = .tup []∧run=false))→xW ops S o run:=fun {run} k=>by
          unfold xW;rw [hg];exact ⟨dg,hdg,k⟩
        split at h
        · rename_i q e
          cases q with
          |true=>
            rw [if_pos rfl,zg4 e] at h
            exact ⟨o,want,ho,h1,h2,hgt,hgr (.inl ⟨true,e,by simp⟩),h⟩
          |false=>
            rw [if_neg (by simp),zg4 e] at h
            exact ⟨o, !want,ho,h1,h2,hgt,hgr (.inl ⟨false,e,by cases want <;> rfl⟩),h⟩
        · rename_i e
          exact ⟨o,false,ho,h1,h2,hgt,hgr (.inr ⟨e,rfl⟩),h⟩
        · cases h
omit [Dfr] in
theorem zav {i:Nat}{early:Bool}{ord:List (Nat×Bool)}{K:XE C→St C→Option ρ}{stp:yP C}{tc:Oper→St C→Option Tch}(hi:Nat.blt i 4096=true) (hr:xV ops cl i=true):Z0 stp tc P n ops ((i,early)::ord) cl taken al S K=xI stp tc P n ops (zii ops cl i) i early cl taken al S K fun cl tk al S=>Z0 stp tc P n ops ord cl tk al S K:=by
 show (bif Nat.blt i 4096 then (bif xV ops cl i then _ else _) else _)=_
 rw [hi,hr,cond_true,cond_true]
omit [Dfr] in
theorem VU {i:Nat}{early:Bool}{ord:List (Nat×Bool)}{K:XE C→St C→Option ρ}{stp:yP C}{tc:Oper→St C→Option Tch}(hi:Nat.blt i 4096=true) (hr:xV ops cl i=false):Z0 stp tc P n ops ((i,early)::ord) cl taken al S K=Z0 stp tc P n ops ord cl taken al S K:=by
 show (bif Nat.blt i 4096 then (bif xV ops cl i then _ else _) else _)=_
 rw [hi,hr,cond_true,cond_false]
omit [Dfr] in
theorem zaw {i:Nat}{early:Bool}{ord:List (Nat×Bool)}{K:XE C→St C→Option ρ}{stp:yP C}{tc:Oper→St C→Option Tch}(hi:Nat.blt i 4096=false):Z0 stp tc P n ops ((i,early)::ord) cl taken al S K=(bif xV ops cl ((i - 4096) / 64) && xV ops cl ((i - 4096) % 64) then chk (zjT ops cl ((i - 4096) / 64) ((i - 4096) % 64)) (yc
      (xI stp tc P n ops true ((i - 4096) / 64) false cl taken al S K fun cl tk al S=>Z0 stp tc P n ops ord cl tk al S K)
      (xI stp tc P n ops true ((i - 4096) % 64) false cl taken al S K fun cl tk al S=>Z0 stp tc P n ops ord cl tk al S K))
    else Z0 stp tc P n ops ord cl taken al S K):=by
  show (bif Nat.blt i 4096 then (bif xV ops cl i then _ else _) else _)=_
  rw [hi,cond_false]
omit [Dfr] in
theorem zij {i:Nat}{o:Oper}{run:Bool}{K:XE C→St C→Option ρ}{r:ρ}{stp:yP C}{tc:Oper→St C→Option Tch}{m:Nat}{next:St C→List Nat→Option ρ}(hg:xW ops S o run) (hgl:∀ t∈Xd ops o,o.dst≠some t)
    {okB:Bool} (h:Yg stp tc P n ops okB cl taken m K i true o run S next=some r):wd ops n cl taken i o=true∧∃ S',next S' (i::taken)=some r∧QV P ops S' o∧(∀ t,o.dst≠some t→S'.env t=S.env t)∧S'.heap=S.heap:=by
  unfold Yg at h
  rw [cond_true] at h
  obtain ⟨he,h⟩:=zc h
  refine ⟨he,?_⟩
  have hlook:∀ d,o.dst=some d→d ∉ looks ops o:=fun d e hm=>by
    unfold wd at he
    rw [e] at he
    simp only [Bool.and_eq_true,Bool.not_eq_true'] at he
    rw [Zj.2 hm] at he;cases he.2.2.1
  have hput:∀ d A t,o.dst=some d→o.dst≠some t→(S.put d A).env t=S.env t:=fun d A t e k=>zF fun e'=>k (by rw [e,e'])
  cases run with
  |true=>
    rw [cond_true] at h
    split at h
    · rename_i d hd
      obtain ⟨hr,h⟩:=zc h
      rw [zm0] at h
      obtain ⟨A,hA,h⟩:=Option.bind_eq_some_iff.1 h
      refine ⟨_,h,⟨true,hg.congr fun t ht=>hput d A t hd (hgl t ht),hr,d,hd,?_⟩,fun t k=>hput d A t hd k,rfl⟩
      rw [zat (ops:=ops) (S:=S) (fun t ht=>hput d A t hd fun e=>?_) fun id _=>rfl,hA]
      · show some A=some (upd S.env d A d);rw [zB]
      · rw [hd] at e;cases e;exact hlook d hd ht
    · cases h
  |false=>
    rw [cond_false] at h
    split at h
    · rename_i d hd
      refine ⟨_,h,⟨false,hg.congr fun t ht=>hput d _ t hd (hgl t ht),fun d' e=>?_⟩,fun t k=>hput d _ t hd k,rfl⟩
      rw [hd] at e;cases e
      exact zB
    · rename_i hd
      exact ⟨_,h,⟨false,hg,fun d' e=>by rw [hd] at e;cases e⟩,fun t _=>rfl,rfl⟩
theorem zm3 (hgl:C.gl w0.w σ0) (hΓ:∀ s∈Γ,s.OK P):∀ (fuel:Nat) (ord:List (Nat×Bool)) {cl taken:List Nat}{al:List (Nat×Nat)}{S:St C}{K:XE C→St C→Option ρ}{r:ρ},Z0 (xx qo Γ P n) (tch Γ P) P n ops ord cl taken al S K=some r→
    ∀ {X:Array Bool} {a:Act} {w:World} {So:St C},Cfg P ops n cl taken al S X→X.toList.count false≤fuel→At n w0 σ0 κ So a w→EqX (WU ops taken X) So S→wpAny P .any ops (ZF n w0 σ0 κ K r) fuel X a w:=by
  intro fuel
  induction fuel with
  |zero=>
    intro ord
    induction ord with
    |nil=>
      intro cl taken al S K r h X a w So hc hn hA hX
      obtain ⟨hall,h⟩:=zc h
      have hon:∀ i,i < ops.size→onX X i=true:=fun i hi=>by
        cases e:onX X i with
        |true=>rfl
        |false=>have:=zg3 (by rw [hc.size];exact hi) e;omega
      refine ⟨?_,S,h,hA.eqx (hX.weaken fun t ht=>zei (fun i hi=>hon i (hc.inc i (hc.tcl i hi))) t ht)⟩
      refine List.eq_nil_iff_forall_not_mem.2 fun i hi=>?_
      obtain ⟨h1,o,h2,_⟩:=(YZ hc.size).1 hi
      rw [hon i (Array.getElem?_eq_some_iff.1 h2).1] at h1;cases h1
    |cons io ord ih=>
      intro cl taken al S K r h X a w So hc hn hA hX
      obtain ⟨i,early⟩:=io
      have zero:∀ {okB:Bool} {i:Nat} {early:Bool} {next},xI (xx qo Γ P n) (tch Γ P) P n ops okB i early cl taken al S K next=some r→False:=by
        intro okB i early next h
        obtain ⟨o,run,ho,hi,hd,hgt,hg,h⟩:=wv h
        have hoff:onX X i=false:=by
          cases e:onX X i with
          |false=>rfl
          |true=>exact absurd (hc.sub i e) hi
        have:=zg3 (by rw [hc.size];exact (Array.getElem?_eq_some_iff.1 ho).1) hoff
        omega
      cases hb:Nat.blt i 4096 with
      |true=>
        cases hrd:xV ops cl i with
        |true=>rw [zav hb hrd] at h;exact (zero h).elim
        |false=>rw [VU hb hrd] at h;exact ih h hc hn hA hX
      |false=>
        rw [zaw hb] at h
        cases hrd:xV ops cl ((i - 4096) / 64) && xV ops cl ((i - 4096) % 64) with
        |true=>rw [hrd,cond_true] at h;exact (zero (vg (zc h).2).1).elim
        |false=>rw [hrd,cond_false] at h;exact ih h hc hn hA hX
  |succ fuel ihf=>
    intro ord
    have quiet:∀ (ord:List (Nat×Bool)) {cl taken:List Nat} {al:List (Nat×Nat)} {S:St C} {K:XE C→St C→Option ρ} {r:ρ},Z0 (xx qo Γ P n) (tch Γ P) P n ops ord cl taken al S K=some r→
        ∀ {X:Array Bool} {a:Act} {w:World} {So:St C},Cfg P ops n cl taken al S X→X.toList.count false≤fuel+1→At n w0 σ0 κ So a w→EqX (WU ops taken X) So S→∀ {j:Nat},j∈Region.ready .any ops X→j∈cl→
          wpOp P ops (ZF n w0 σ0 κ K r) j (wpAny P .any ops (ZF n w0 σ0 κ K r) fuel (X.setIfInBounds j true)) a w:=by
      intro ord cl taken al S K r h X a w So hc hn hA hX j hj hjc
      obtain ⟨hoff,q,hq,hdeps⟩:=(YZ hc.size).1 hj
      have hjt:=hc.tk j hjc hoff
      have hlt:j < X.size:=by rw [hc.size];exact (Array.getElem?_eq_some_iff.1 hq).1
      refine zlf hgl hΓ hq hA hX (hc.qv j q hjt hoff hq) (fun t ht hp=>?_) (fun d e=>(hc.ds j q d hjt hoff hq e).1) fun S1 a' w' hA' hX'=>?_
      · obtain ⟨r',q',h1,h2,h3,h4⟩:=hp
        obtain ⟨_,_,k3,k4⟩:=hc.ds r' q' t h1 h2 h3 h4
        by_cases e:j=r'
        · subst e
          rw [hq] at h3;cases h3
          exact k3 ht
        · have:=hdeps r' ((k4 j q hq e).1 hoff ht)
          rw [this] at h2;cases h2
      · refine ihf ord h (hc.hit hjc fun q' hq' k hk=>?_) (zg2 hlt hoff hn) hA' (hX'.weaken fun t ht=>?_)
        · rw [hq] at hq';cases hq';exact hdeps k hk
        · obtain ⟨⟨r',q',h1,h2,h3,h4⟩,hne⟩:=ht
          refine ⟨r',q',h1,?_,h3,h4⟩
          rw [Ww]
          · exact h2
          · intro e;subst e
            rw [hq] at h3;cases h3
            exact hne h4
    have real:∀ {cl taken:List Nat} {al:List (Nat×Nat)} {S:St C} {K:XE C→St C→Option ρ} {r:ρ} {okB:Bool} {j:Nat} {o:Oper} {run:Bool} {next:St C→List Nat→Option ρ},ops[j]?=some o→j ∉ cl→(∀ k∈zI o,k∈cl)→xW ops S o run→Yg (xx qo Γ P n) (tch Γ P) P n ops okB cl taken (Yq al (zI o)) K j false o run S next=some r→
        ∀ {X:Array Bool} {a:Act} {w:World} {So:St C},Cfg P ops n cl taken al S X→X.toList.count false≤fuel+1→At n w0 σ0 κ So a w→EqX (WU ops taken X) So S→onX X j=false→(∀ k∈zI o,onX X k=true)→
        (∀ S',next S' taken=some r→∀ {X':Array Bool} {a':Act} {w':World} {So':St C},Cfg P ops n (j::cl) taken ((j,Yq al (zI o))::al) S' X'→X'.toList.count false≤fuel→At n w0 σ0 κ So' a' w'→EqX (WU ops taken X') So' S'→wpAny P .any ops (ZF n w0 σ0 κ K r) fuel X' a' w')→
          wpOp P ops (ZF n w0 σ0 κ K r) j (wpAny P .any ops (ZF n w0 σ0 κ K r) fuel (X.setIfInBounds j true)) a w:=by
      intro cl taken al S K r okB j o run next ho hjc hd hg h X a w So hc hn hA hX hoff hdeps hnext
      have hlt:j < X.size:=by rw [hc.size];exact (Array.getElem?_eq_some_iff.1 ho).1
      unfold Yg at h
      rw [cond_false] at h
      obtain ⟨_,h⟩:=zc h
      have hanc:∀ r',onX X r'=false→Nat.testBit (Yq al (zI o)) r'=false:=fun r' hr'=>by
        cases e:Nat.testBit (Yq al (zI o)) r' with
        |false=>rfl
        |true=>
          have:=zdr hc.anc (fun k=>onX X k=true) (fun k q hk hon=>hc.closed k q hk hon) (fun k hk=>by rw [← hc.size];exact zog hk) hdeps r' e
          have this:onX X r'=true:=this
          rw [this] at hr';cases hr'
      have hfree:∀ t∈looks ops o,¬ WU ops taken X t:=fun t ht ⟨r',q',h1,h2,h3,h4⟩=>by
        obtain ⟨_,_,k3,k4⟩:=hc.ds r' q' t h1 h2 h3 h4
        have hne:j≠r':=fun e=>hjc (e ▸ hc.tcl r' h1)
        have:=hdeps r' ((k4 j o ho hne).1 hoff ht)
        rw [this] at h2;cases h2
      have hvB:∀ t,WU ops taken X t→t < vB:=fun t ⟨r',q',h1,h2,h3,h4⟩=>(hc.ds r' q' t h1 h2 h3 h4).2.1
      have hgo:xW ops So o run:=hg.congr fun t ht=>hX.env t (hfree t (wu ht))
      have keep:∀ {l p S'},Keeps S S' o.dst l p→(taken.all fun r=>Nat.testBit (Yq al (zI o)) r || zcK ops S l p o.dst r)=true→∀ r' q',r'∈taken→onX X r'=false→ops[r']?=some q'→QV P ops S' q':=fun hk hall r' q' h1 h2 h3=>by
        have:=List.all_eq_true.1 hall r' h1
        rw [hanc r' h2,Bool.false_or] at this
        exact (hc.qv r' q' h1 h2 h3).keep hk h3 this
      have fin:∀ {S' S1 a' w'},next S' taken=some r→(∀ r' q',r'∈taken→onX X r'=false→ops[r']?=some q'→QV P ops S' q')→At n w0 σ0 κ S1 a' w'→EqX (WU ops taken X) S1 S'→wpAny P .any ops (ZF n w0 σ0 κ K r) fuel (X.setIfInBounds j true) a' w':=fun h' hq' hA' hX'=>by
        refine hnext _ h' (hc.sync ho hjc hd hdeps hq') (zg2 hlt hoff hn) hA' (hX'.weaken fun t ⟨r',q',h1,h2,h3,h4⟩=>⟨r',q',h1,?_,h3,h4⟩)
        rw [Ww]
        · exact h2
        · intro e;exact hjc (e ▸ hc.tcl r' h1)
      unfold wpOp
      rw [ho]
      simp only [hgo.wanted hA]
      cases run with
      |false=>
        simp only [Bool.false_eq_true,if_false]
        rw [cond_false] at h
        obtain ⟨hall,h⟩:=zc h
        split at h
        · rename_i d hdst
          obtain ⟨hdn,h⟩:=zc h
          rw [hdst]
          refine fin h (keep (l:=[]) (p:=fun _=>false) ?_ hall) (hA.skip hdn) ⟨hX.heap,fun t ht=>?_⟩
          · rw [hdst];exact .put
          · show upd So.env d _ t=upd S.env d _ t
            by_cases e:t=d
            · subst e;rw [zB,zB]
            · rw [zF e,zF e];exact hX.env t ht
        · rename_i hdst
          rw [hdst]
          exact fin h (keep (l:=[]) (p:=fun _=>false) (.refl S) hall) hA hX
      |true=>
        simp only [if_true]
        left
        rw [cond_true] at h
        split at h
        · cases h
        · rename_i l p htc
          obtain ⟨hall,h⟩:=zc h
          rw [vD] at h
          obtain ⟨out,hs,h⟩:=Option.bind_eq_some_iff.1 h
          have hsx:=zpE (q:=qo) (Γ:=Γ) (P:=P) (n:=n) (o:=o) hX hvB (fun t ht=>hfree t (List.mem_append_left _ (Vn ht)))
          rw [hs] at hsx
          obtain ⟨out',hs',hrel⟩:=hsx.inv
          obtain ⟨L,b,σ,PV,hAb,hinv,hf⟩:=hA
          refine zfe hΓ n κ w0 σ0 hgl o So L b σ PV hAb _ hs' a w hinv hf _ _ ?_ ?_
          · intro S1 e L' σ' PV' a' w' hi' hf' hA'
            subst e
            cases out with
            |pan v T=>exact hrel.elim
            |go S'=>exact fin h (keep (zoe hs htc) hall) ⟨L',b,σ',PV',hA',hi',hf'⟩ hrel
          · intro v S1 e u σ' PV' w' hi' hA' hp
            subst e
            cases out with
            |go S'=>exact hrel.elim
            |pan v' S'=>
              obtain ⟨rfl,hrel⟩:=hrel
              obtain ⟨ν,vs,ids,hA'⟩:=hA'
              refine ⟨v,_,h,u,L,b,σ',PV',rfl,hp,⟨ν,vs,ids,hA'.mask (hrel.weaken fun t ⟨r',q',h1,h2,h3,h4⟩=>?_)⟩,hi',hf⟩
              exact List.mem_filterMap.2 ⟨q',List.mem_of_getElem? (by rw [Array.getElem?_toList];exact h3),h4⟩
    induction ord with
    |nil=>
      intro cl taken al S K r h X a w So hc hn hA hX
      have h0:=h
      obtain ⟨hall,h⟩:=zc h
      have hcl:∀ i,i < ops.size→i∈cl:=fun i hi=>Zj.1 (List.all_eq_true.1 hall i (List.mem_range.2 hi))
      refine ⟨fun hr=>?_,fun j hj=>quiet [] h0 hc hn hA hX hj (hcl j ?_)⟩
      · have hon:∀ i∈taken,onX X i=true:=fun i hi=>by
          cases e:onX X i with
          |true=>rfl
          |false=>
            obtain ⟨k,q,k1,k2,k3,k4⟩:=zlg hc.wf hc.inc ⟨i,hc.tcl i hi,e⟩
            have:k∈Region.ready .any ops X:=(YZ hc.size).2 ⟨k2,q,k3,k4⟩
            rw [hr] at this;cases this
        exact ⟨S,h,hA.eqx (hX.weaken fun t ht=>zei hon t ht)⟩
      · obtain ⟨_,q,hq,_⟩:=(YZ hc.size).1 hj
        exact (Array.getElem?_eq_some_iff.1 hq).1
    |cons io ord ih=>
      intro cl taken al S K r h X a w So hc hn hA hX
      obtain ⟨i,early⟩:=io
      have h0:=h
      have some_ready:∀ {i:Nat} {o:Oper},ops[i]?=some o→i ∉ cl→(∀ k∈zI o,k∈cl)→Region.ready .any ops X=[]→False:=by
        intro i o ho hi hd hr
        have hoff:onX X i=false:=by
          cases e:onX X i with
          |false=>rfl
          |true=>exact absurd (hc.sub i e) hi
        by_cases hx:∃ k∈cl,onX X k=false
        · obtain ⟨k,q,k1,k2,k3,k4⟩:=zlg hc.wf hc.inc hx
          have:k∈Region.ready .any ops X:=(YZ hc.size).2 ⟨k2,q,k3,k4⟩
          rw [hr] at this;cases this
        · have:i∈Region.ready .any ops X:=(YZ hc.size).2 ⟨hoff,o,ho,fun k hk=>by
            cases e:onX X k with
            |true=>rfl
            |false=>exact absurd ⟨k,hd k hk,e⟩ hx⟩
          rw [hr] at this;cases this
      cases hb:Nat.blt i 4096 with
      |false=>
        rw [zaw hb] at h
        cases hrd:xV ops cl ((i - 4096) / 64) && xV ops cl ((i - 4096) % 64) with
        |false=>rw [hrd,cond_false] at h;exact ih h hc hn hA hX
        |true=>
        rw [hrd,cond_true] at h
        obtain ⟨hchk,h⟩:=zc h
        generalize (i - 4096) / 64=i1 at h hchk
        generalize (i - 4096) % 64=i2 at h hchk
        obtain ⟨g1,g2⟩:=vg h
        obtain ⟨o1,run1,ho1,hi1,hd1,_,hg1,s1⟩:=wv g1
        obtain ⟨o2,run2,ho2,hi2,hd2,_,hg2,s2⟩:=wv g2
        refine ⟨fun hr=>(some_ready ho1 hi1 hd1 hr).elim,fun j hj=>?_⟩
        by_cases hjc:j∈cl
        · exact quiet ((i,early)::ord) h0 hc hn hA hX hj hjc
        · obtain ⟨hjoff,q,hq,hdeps⟩:=(YZ hc.size).1 hj
          have hji:j=i1∨j=i2:=by
            have:=List.all_eq_true.1 hchk j (List.mem_range.2 (Array.getElem?_eq_some_iff.1 hq).1)
            rw [hq] at this
            simp only [Bool.or_eq_true,Bool.not_eq_true'] at this
            rcases this with (z | z) | z | z
            · exact .inl (Nat.eq_of_beq_eq_true z)
            · exact .inr (Nat.eq_of_beq_eq_true z)
            · exact absurd (Zj.1 z) hjc
            · exfalso
              have:Vo (zI q) cl=true:=List.all_eq_true.2 fun k hk=>Zj.2 (hc.sub k (hdeps k hk))
              rw [this] at z;cases z
          rcases hji with e | e
          · subst e
            rw [ho1] at hq;cases hq
            exact real ho1 hjc hd1 hg1 s1 hc hn hA hX hjoff hdeps fun S' h'=>ihf ord h'
          · subst e
            rw [ho2] at hq;cases hq
            exact real ho2 hjc hd2 hg2 s2 hc hn hA hX hjoff hdeps fun S' h'=>ihf ord h'
      |true=>
      cases hrd:xV ops cl i with
      |false=>rw [VU hb hrd] at h;exact ih h hc hn hA hX
      |true=>
      rw [zav hb hrd] at h
      obtain ⟨o,run,ho,hi,hd,hgt,hg,h⟩:=wv h
      have hoff:onX X i=false:=by
        cases e:onX X i with
        |false=>rfl
        |true=>exact absurd (hc.sub i e) hi
      have hlt:i < X.size:=by rw [hc.size];exact (Array.getElem?_eq_some_iff.1 ho).1
      cases early with
      |true=>
        have hearly:wd ops n cl taken i o=true:=by
          unfold Yg at h
          rw [cond_true] at h
          exact (zc h).1
        have hgl:∀ t∈Xd ops o,o.dst≠some t:=fun t ht e=>by
          unfold wd at hearly
          rw [e] at hearly
          simp only [Bool.and_eq_true,Bool.not_eq_true'] at hearly
          rw [Zj.2 (wu ht)] at hearly;cases hearly.2.2.1
        obtain ⟨he,S',h,hv,hS,hh⟩:=zij hg hgl h
        refine ih h (hc.early ho hi hd he hv hS hh) hn hA ⟨hX.heap.trans hh.symm,fun t ht=>?_⟩
        have hne:o.dst≠some t:=fun e=>ht ⟨i,o,by simp,hoff,ho,e⟩
        rw [hS t hne]
        exact hX.env t fun ⟨r',q',h1,h2⟩=>ht ⟨r',q',List.mem_cons_of_mem _ h1,h2⟩
      |false=>
        have honly:zii ops cl i=true:=by
          unfold Yg at h
          rw [cond_false] at h
          exact (zc h).1
        refine ⟨fun hr=>(some_ready ho hi hd hr).elim,fun j hj=>?_⟩
        by_cases hjc:j∈cl
        · exact quiet ((i,false)::ord) h0 hc hn hA hX hj hjc
        · obtain ⟨hjoff,q,hq,hdeps⟩:=(YZ hc.size).1 hj
          have hji:j=i:=by
            have:=List.all_eq_true.1 honly j (List.mem_range.2 (Array.getElem?_eq_some_iff.1 hq).1)
            rw [hq] at this
            simp only [Bool.or_eq_true,Bool.not_eq_true'] at this
            rcases this with z | z | z
            · exact Nat.eq_of_beq_eq_true z
            · exact absurd (Zj.1 z) hjc
            · exfalso
              have:Vo (zI q) cl=true:=List.all_eq_true.2 fun k hk=>Zj.2 (hc.sub k (hdeps k hk))
              rw [this] at z;cases z
          subst hji
          rw [ho] at hq;cases hq
          exact real ho hjc hd hg h hc hn hA hX hoff hdeps fun S' h'=>ihf ord h'
theorem zgB (hgl:C.gl w0.w σ0) (hΓ:∀ s∈Γ,s.OK P) {ord:List (Nat×Bool)}{K:XE C→St C→Option ρ}{r:ρ}(h:Z0 (xx qo Γ P n) (tch Γ P) P n ops ord [] [] [] S K=some r) (hm:P.follows .mixedOrders=true) {id:Nat}{a:Act}{w:World}(hA:At n w0 σ0 κ S a w):(Code.region id ops true).wp P (ZF n w0 σ0 κ K r) a w:=by
 refine wp_region_any hm ?_
 obtain ⟨L,b,σ,PV,hAb,hi,hf⟩:=hA
 have h0:∀ i,onX (Array.replicate ops.size false) i=false:=fun i=>by
  unfold onX;rw [Array.getD_eq_getD_getElem?]
  cases e:(Array.replicate ops.size false)[i]? with
  |none=>rfl
  |some v=>have:=Array.getElem?_eq_some_iff.1 e;obtain ⟨h1,h2⟩:=this;simp at h2;simp [← h2]
 refine zm3 hgl hΓ _ _ h (X:=Array.replicate ops.size false) ⟨by simp,fun i hi=>(by rw [h0] at hi;cases hi),trivial,fun i hi=>(by cases hi),fun i hi=>(by cases hi),fun i hi=>(by cases hi),fun k q _ hk=>(by rw [h0] at hk;cases hk),fun r q hr=>(by cases hr),fun r q d hr=>(by cases hr),fun i m hm=>(by cases hm)⟩ ?_ ⟨L,b,σ,PV,hAb,hi.drew,hf⟩ (EqX.refl S)
 have:=List.count_le_length (a:=false) (l:=(Array.replicate ops.size false).toList)
 simp
end
end Go.Px
