/- Part A6: PxM28 PxM29 PxM30 PxM31 PxMS. -/
import Derived.Test.YtpcipfnohfefhaaGreatDoorA5
set_option linter.unusedVariables false
set_option linter.unusedSimpArgs false
namespace Go.Px
section
variable {C:Cod}{P:Program}
noncomputable def drw (q:Opts) (Γ:List (Spec C)) (P:Program) (n:Nat):Yh C:=fun ops ord _ S K=>ZH (YM q Γ P n) (tch Γ P) P n ops ord [] [] [] S K
theorem Option.bind_fun_some' {α:Type}(x:G3 α):x.bind some=x:=by cases x <;> rfl
theorem ze1 [Dfr] {q:Opts}{Γ:List (Spec C)}(hΓ:∀ s∈Γ,s.OK P) (hm:P.follows .mixedOrders=true) (n:Nat) (κ:Kp):WT P n κ (drw q Γ P n):=fun w0 σ0 hgl ρ id ops ord S K r h a w hA=>zkH hgl hΓ h hm hA
noncomputable def wD (q:Opts) (Γ:List (Spec C)) (lp:ZP) (P:Program) (fn:Func) (nr:Nat) (ins:Sig) (outs:List (XK×Sig)) (hs:Nat->G3 Hint) (x:ins.ty C):G3 (zi C outs):=zp9 (P:=P) (YM q Γ P) (drw q Γ P) lp fn nr ins outs hs x
theorem yX {q : Opts} {Γ : List (Spec C)} (hΓ : ∀ s ∈ Γ, s.OK P) (hm : P.follows .mixedOrders = true) {lp : ZP} (hlp : Y8 lp) {f : FuncId} {fn : Func} {nr : Nat} {ins : Sig} {outs : List (XK × Sig)} (hs : Nat -> G3 Hint) (hf : P.funcs[f]? = some fn) (hnm : (fn.name == "runtime.NumGoroutine") = false) (hbs : fn.body.isNone = false) {F : ins.ty C -> G3 (zi C outs)} (hF : ∀ x, F x = wD q Γ lp P fn nr ins outs hs x) :
    Spec.OK P ⟨f,nr,ins,outs,F⟩:=ztq (fun κ=>⟨fun w0 σ0 hgl o S L b Z PV hA=>by show OpA κ P fn.ntmps w0 σ0 o (YM q Γ P fn.ntmps o S _ some) L b Z PV;rw [vq,Option.bind_fun_some'];exact zi4 hΓ _ κ w0 σ0 hgl o S L b Z PV hA,fun o S ρ k=>zi5⟩) (fun κ=>ze1 hΓ hm _ κ) hlp hf hnm hbs fun x r h=>by rw [hF] at h;exact h
end
def hfind:List (Nat×Hint)->Nat->G3 Hint
 |[],_=>none
 |(i,h)::r,j=>bif Nat.beq i j then some h else hfind r j
inductive Lf where
 |int (k:IntKind)
 |bool
 |str
 |sl (T:Nat)
 |pz (T:Nat)
abbrev Lf.ty (D:Nat->Type):Lf->Type
 | .int _=>Int
 | .bool=>Bool
 | .str=>ByteArray
 | .sl T=>Sl (D T)
 | .pz T=>D T
abbrev Tup (D:Nat->Type):List Lf->Type
 |[]=>Unit
 |l::r=>l.ty D×Tup D r
section
variable {D:Nat->Type}
def Lf.enc:(l:Lf)->l.ty D->AV D
 | .int k,n =>.int k n
 | .bool,b =>.bool b
 | .str,s =>.str s
 | .sl T,s =>.sl T s false
 | .pz T,x =>.pz T x 0
def zoY {T T':Nat}(x:D T'):G3 (D T):=if h:T'=T then some (h ▸ x) else none
def zoZ {T T':Nat}(s:Sl (D T')):G3 (Sl (D T)):=if h:T'=T then some (h ▸ s) else none
def Lf.dec:(l:Lf)->AV D->G3 (l.ty D)
 | .int k,.int k' n=>chk (decide (k=k')) (some n)
 | .bool,.bool b=>some b
 | .str,.str s=>some s
 | .sl T,.sl T' s _=>zoZ s
 | .sl T,.nils=>some ⟨[],false⟩
 | .pz T,.pz T' x 0=>zoY x
 |_,_=>none
def zbi:(l:List Lf)->Tup D l->List (AV D)
 |[],_=>[]
 |l::r,x=>l.enc x.1::zbi r x.2
def zqo:(l:List Lf)->List (AV D)->G3 (Tup D l)
 |[],[]=>some ()
 |l::r,A::As=>(l.dec A).bind fun y=>(zqo r As).bind fun z=>some (y,z)
 |_,_=>none
theorem zuT {l:Lf}{A:AV D}{x:l.ty D}(h:l.dec A=some x):leA A (l.enc x):=by
 unfold Lf.dec at h;split at h
 ·obtain ⟨e,h⟩:=zb h;cases h;have:=Us e;subst this;exact .inl rfl
 ·cases h;exact .inl rfl
 ·cases h;exact .inl rfl
 ·unfold zoZ at h;split at h
  ·rename_i e;subst e;cases h;exact .inr (.inl ⟨_,_,_,rfl,rfl⟩)
  ·cases h
 ·cases h;exact .inr (.inr ⟨_,_,rfl,rfl⟩)
 ·unfold zoY at h;split at h
  ·rename_i e;subst e;cases h;exact .inl rfl
  ·cases h
 ·cases h
theorem zlb:∀ {l:List Lf}{cs:List (AV D)}{x:Tup D l},zqo l cs=some x->zd4 cs (zbi l x)
 |[],[],x,h=>trivial
 |l::r,A::As,x,h=>by
  obtain ⟨y,hy,h⟩:=jy h;obtain ⟨z,hz,h⟩:=jy h;cases h;exact ⟨zuT hy,zlb hz⟩
 |[],_::_,x,h=>by cases h
 |_::_,[],x,h=>by cases h
theorem zjb:∀ {l:List Lf}{x:Tup D l},(zbi l x).length=l.length
 |[],_=>rfl
 |l::r,x=>by simp [zbi,zjb (l:=r)]
theorem zqp {l:Lf}{x:l.ty D}:(l.enc x).base=true:=by cases l <;> rfl
theorem zg1:∀ {l:List Lf}{x:Tup D l}{A:AV D},A∈zbi l x->A.base=true
 |l::r,x,A,h=>by
  rcases Ua.1 h with e | e
  ·subst e;exact zqp
  ·exact zg1 (l:=r) e
def Lf.of:Lf->G3 Nat
 | .sl U=>some U
 | .pz U=>some U
 |_=>none
theorem zjc:∀ {l:List Lf}{x:Tup D l}{j:Nat}{A:AV D},(zbi l x)[j]?=some A->A.num=true\/(∃ U s,A = .sl U s false/\(l.map Lf.of)[j]?=some (some U))\/∃ U x,A = .pz U x 0/\(l.map Lf.of)[j]?=some (some U)
 |l::r,x,0,A,h=>by
  have h:l.enc x.1=A:=by simpa [zbi] using h
  subst h;cases l <;> first | exact .inl rfl | exact .inr (.inl ⟨_,_,rfl,rfl⟩) | exact .inr (.inr ⟨_,_,rfl,rfl⟩)
 |l::r,x,j+1,A,h=>by
  have:=zjc (l:=r) (x:=x.2) (j:=j) (A:=A) (by simpa [zbi] using h);simpa using this
structure TyE (D:Nat->Type) (T:Nat) where
 agg:Bool
 L:List Lf
 to:D T->Tup D L
 of:Tup D L->G3 (D T)
 ok:∀ x y,of x=some y->to y=x
def TyE.none (D:Nat->Type) (T:Nat):TyE D T:=⟨true,[],fun _=>(),fun _=>Option.none,fun _ _ h=>by cases h⟩
abbrev W9 (D:Nat->Type):List ((T:Nat)×TyE D T)->(T:Nat)->TyE D T
 |[],T=>TyE.none D T
 |e::r,T=>if h:e.1=T then h ▸ e.2 else W9 D r T
abbrev zsk:List (Nat×Type)->Nat->Type
 |[],_=>Unit
 |e::r,T=>match Nat.beq e.1 T with
  |true=>e.2
  |false=>zsk r T
def zwQ (D:Nat->Type) (E:List ((T:Nat)×TyE D T)) (gl:World->FS->Prop) (glm:∀ {Z τ:FS}{w w':World}{h:zc},Z.le τ->Ext w h w'->gl w Z->gl w' τ) (opv:Nat->(T:Nat)->Value->Addr->ByteArray->Sl (D T)->Priv:=fun _ _ _ _ _ _=>⟨fun _ _=>False,fun _ _ h=>h⟩) (oal:Nat->List Value->G3 (Nat×Nat):=fun _ _=>none)
    (oal_ok:∀ t zs k T,oal t zs=some (k,T)->∀ (q:Nat) (hdr:Value) (Z:FS) (h:zc),(z8 q t zs.toArray).le h->(opv k T hdr ⟨q,0,none⟩ ⟨#[]⟩ ⟨[],false⟩).holds Z h:=by intro _ _ _ _ h;cases h) (nst:Nat->Nat:=fun _=>0) (own:Nat->Bool:=fun _=>false) (bz:Nat->Bool:=fun _=>false) (mps:(T:Nat)->G3 (MapR D opv T MKey.str):=fun _=>none) (mpi:(T:Nat)->G3 (MapR D opv T MKey.i64):=fun _=>none):Cod where
  mps:=mps
  mpi:=mpi
  bz:=bz
  nst:=nst
  lfs T:=(W9 D E T).L.map Lf.of
  lfs_ok T x j A h:=zjc h
  own:=own
  opv:=opv
  oal:=oal
  oal_ok:=oal_ok
  gl:=gl
  glm:=glm
  D:=D
  size T:=(W9 D E T).L.length
  agg T:=(W9 D E T).agg || !Nat.beq (W9 D E T).L.length 1
  emb T x:=zbi _ ((W9 D E T).to x)
  imp T cs:=(zqo (W9 D E T).L cs).bind fun x=>(W9 D E T).of x
  len T x:=zjb
  base T x A h:=zg1 h
  sz T h:=by
    simp only [Bool.or_eq_false_iff,Bool.not_eq_false'] at h;exact jz h.2
  imp_ok T cs x h:=by
    obtain ⟨y,hy,h⟩:=jy h;rw [(W9 D E T).ok y x h];exact zlb hy
end
noncomputable def lpO:ZP:=fun f x=>loopO f x
theorem ZO:Y8 lpO:=fun f x y h=>WG.1 h
section
variable {C:Cod}{P:Program}
theorem zf:∀ s∈([]:List (Spec C)),s.OK P:=fun s h=>by cases h
theorem za {s:Spec C}{l:List (Spec C)}(h:s.OK P) (k:∀ s∈l,s.OK P):∀ s'∈s::l,s'.OK P:=fun s' h'=>by
 rcases Ua.1 h' with e | e
 ·rw [e];exact h
 ·exact k s' e
theorem zcA {Q Q':XE C->St C->Prop}(h:∀ e S,Q e S->Q' e S):∀ {outs:List (XK×Sig)}{r:zi C outs},zQ outs r Q->zQ outs r Q'
 |[],r,_=>r.elim
 |[o],r,q=>one q
 |o::o2::l,r,q=>by
  unfold zQ at q |-
  cases r with
  |inl a=>exact one q
  |inr y=>exact zcA h q
where
 one {o:XK×Sig} {y:XK.ty C o.1 o.2} (q:yQ o.1 o.2 y Q):yQ o.1 o.2 y Q':=by
  obtain ⟨k,g⟩:=o;cases k <;> exact h _ _ q
end
section
variable {C:Cod}{P:Program}
theorem AbsL.bool0 {κ:Kp}{S:St C}{ν:Val}{vs:Nat->List Value}{ids:List Nat}{vals:List Value}{Z:FS}{PV:List Priv}{q:Bool}(h:AbsL κ S ν vs ids (yh 0 vals) (fun _=>undef) Z PV) (hl:vals.length=1) (he:S.env 0 = .bool q):zci vals = .bool q:=by
 have hv:=h.env 0;rw [he,yi] at hv
 match vals,hl with
 |[v],_=>exact hv.bool_inv
theorem Spec.ref {f:FuncId}{ins:Sig}{F:ins.ty C->G3 (zi C [(.ret,{ts:=[(0,.bool)],es:=[]})])} (hs:Spec.OK P ⟨f,1,ins,[(.ret,{ts:=[(0,.bool)],es:=[]})],F⟩) (hes:ins.es=[]) {x:ins.ty C}{q:Bool}(hx:F x=some q) {args:List Value}(hl:args.length=ins.ts.length) {W:World}{Z:FS}(hσ:Z.sub W) (hgl:C.gl W Z) {ν:Val}(hone:∀ i,(ν.hdr i).oneCell'=true)
    (hargs:∀ t,VR C Z ν ((args[t]?).getD undef) ((ins.open x).env t)/\∀ p:Nat->Prop,((ins.open x).env t).ok p) :
    Calls P f args.toArray W fun e W2=>∃ v Z' PV,e = .returned v/\Inv ⟨W,zc.none⟩ Z Z' PV W2/\PV=[]/\v = .bool q:=by
  obtain ⟨fn,hf,_,_,hs⟩:=hs;have hheap:(ins.open x).heap=fun _=>none:=by
    obtain ⟨ts,es⟩:=ins;simp only at hes;subst hes;rfl
  have hA:AbsL ⟨ins.es.length,by rw [hes];simp,ν⟩ (ins.open x) ν (fun _=>[]) [] (yh 0 args) (fun _=>undef) Z []:=
    ⟨⟨List.nodup_nil,fun i=>by rw [hheap];simp,rfl,fun i cs hi=>(by rw [hheap] at hi;cases hi),fun t=>by rw [yi];exact (hargs t).1,hone⟩,fun t=>(hargs t).2 _,fun i cs hi=>(by rw [hheap] at hi;cases hi),fun k _ hk=>(by rw [hheap] at hk;cases hk)⟩
  refine Calls.mono (hs x q hx _ ⟨W,zc.none⟩ Z hgl [] ν _ [] args rfl hl hA (Pre.empty hσ)) ?_;intro e W2 hp;cases e with
  |returned v=>
    obtain ⟨vals,Z',PV',rfl,hlen,hi,ν',vs',ids',h⟩:=hp;exact ⟨_,Z',[],rfl,hi.sub_own fun g _=>Sep.nil,rfl,h.bool0 hlen rfl⟩
  |panicked chain=>exact hp.elim
  |outgrown=>exact hp.elim
end
def lit (l:List UInt8):ByteArray:=⟨⟨l⟩⟩
end Go.Px
