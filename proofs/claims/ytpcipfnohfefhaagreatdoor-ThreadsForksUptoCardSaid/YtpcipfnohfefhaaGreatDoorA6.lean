/- Part A6: PxM28 PxM29 PxM30 PxM31 PxMS. -/
import Derived.Test.YtpcipfnohfefhaaGreatDoorA5
set_option linter.unusedVariables false
set_option linter.unusedSimpArgs false
namespace Go.Px
open _root_.Option renaming some->c,none->d
section
variable {C:Cod}{P:Program}
noncomputable def drw(q:Opts)(Γ:List (Spec C))(P:Program)(n:Nat):Yu C:=λops ord _ S K=>ZN (YY q Γ P n) (tch Γ P) P n ops ord [] [] [] S K
theorem Option.bind_fun_some'{α:Type}(x:Us α):x.bind c=x:=by cases x<;>rfl
theorem zfR[Dfr]{q:Opts}{Γ:List (Spec C)}(hΓ:∀s∈Γ,s.OK P)(hm:P.follows .mixedOrders=true)(n:Nat)(κ:Kp):vf P n κ (drw q Γ P n):=λw0 σ0 hgl ρ id ops ord S K r h a w hA=>zmc hgl hΓ h hm hA
noncomputable def XY(q:Opts)(Γ:List (Spec C))(lp:ZV)(P:Program)(fn:Func)(nr:Nat)(ins:Sig)(outs:List (XK×Sig))(hs:Nat->Us Hint)(x:ins.ty C):Us (zi C outs):=zsc (P:=P) (YY q Γ P) (drw q Γ P) lp fn nr ins outs hs x
theorem yE {q : Opts} {Γ : List (Spec C)} (hΓ : ∀ s ∈ Γ, s.OK P) (hm : P.follows .mixedOrders = true) {lp : ZV} (hlp : xm lp) {f : FuncId} {fn : Func} {nr : Nat} {ins : Sig} {outs : List (XK × Sig)} (hs : Nat -> Us Hint) (hf : P.funcs[f]? = c fn) (hnm : (fn.name == "runtime.NumGoroutine") = false) (hbs : fn.body.isNone = false) {F : ins.ty C -> Us (zi C outs)} (hF : ∀ x, F x = XY q Γ lp P fn nr ins outs hs x) :
    Spec.OK P ⟨f,nr,ins,outs,F⟩:=zwg (λκ=>⟨λw0 σ0 hgl o S L b Z PV hA=>by show OpA κ P fn.ntmps w0 σ0 o (YY q Γ P fn.ntmps o S _ c) L b Z PV;rw[vN,Option.bind_fun_some'];exact zkp hΓ _ κ w0 σ0 hgl o S L b Z PV hA,λo S ρ k=>zkq⟩) (λκ=>zfR hΓ hm _ κ) hlp hf hnm hbs λx r h=>by rw[hF] at h;exact h
end
def hfind:List (Nat×Hint)->Nat->Us Hint
 |[],_=>d
 |(i,h)::r,j=>bif Nat.beq i j then c h else hfind r j
inductive Lf where
 |int (k:IntKind)
 |bool
 |str
 |sl (T:Nat)
 |pz (T:Nat)
abbrev Lf.ty(D:Nat->Type):Lf->Type
 | .int _=>Int
 | .bool=>Bool
 | .str=>ByteArray
 | .sl T=>Sl (D T)
 | .pz T=>D T
abbrev Tup(D:Nat->Type):List Lf->Type
 |[]=>Unit
 |l::r=>l.ty D×Tup D r
section
variable {D:Nat->Type}
def Lf.enc:(l:Lf)->l.ty D->AV D
 | .int k,n =>.int k n
 | .bool,b =>.bool b
 | .str,s =>.str s
 | .sl T,s =>.sl T s false
 | .pz T,x =>.pz T x 0
def zq3{T T':Nat}(x:D T'):Us (D T):=if h:T'=T then c (h ▸ x) else d
def zq4{T T':Nat}(s:Sl (D T')):Us (Sl (D T)):=if h:T'=T then c (h ▸ s) else d
def Lf.dec:(l:Lf)->AV D->Us (l.ty D)
 | .int k,.int k' n=>chk (decide (k=k')) (c n)
 | .bool,.bool b=>c b
 | .str,.str s=>c s
 | .sl T,.sl T' s _=>zq4 s
 | .sl T,.nils=>c ⟨[],false⟩
 | .pz T,.pz T' x 0=>zq3 x
 |_,_=>d
def zbI:(l:List Lf)->Tup D l->List (AV D)
 |[],_=>[]
 |l::r,x=>l.enc x.1::zbI r x.2
def zsr:(l:List Lf)->List (AV D)->Us (Tup D l)
 |[],[]=>c ()
 |l::r,A::As=>(l.dec A).bind λy=>(zsr r As).bind λz=>c (y,z)
 |_,_=>d
theorem zxY{l:Lf}{A:AV D}{x:l.ty D}(h:l.dec A=c x):leA A (l.enc x):=by
 unfold Lf.dec at h;split at h
 ·let⟨e,h⟩:=zc h;cases h;have:=Dh e;subst this;exact .inl rfl
 ·cases h;exact .inl rfl
 ·cases h;exact .inl rfl
 ·unfold zq4 at h;split at h
  ·rename_i e;subst e;cases h;exact .inr (.inl ⟨_,_,_,rfl,rfl⟩)
  ·cases h
 ·cases h;exact .inr (.inr ⟨_,_,rfl,rfl⟩)
 ·unfold zq3 at h;split at h
  ·rename_i e;subst e;cases h;exact .inl rfl
  ·cases h
 ·cases h
theorem zmG:∀{l:List Lf}{cs:List (AV D)}{x:Tup D l},zsr l cs=c x->zeR cs (zbI l x)
 |[],[],x,h=>trivial
 |l::r,A::As,x,h=>by
  let⟨y,hy,h⟩:=gc h;let⟨z,hz,h⟩:=gc h;cases h;exact⟨zxY hy,zmG hz⟩
 |[],_::_,x,h=>by cases h
 |_::_,[],x,h=>by cases h
theorem zkw:∀{l:List Lf}{x:Tup D l},(zbI l x).length=l.length
 |[],_=>rfl
 |l::r,x=>by simp[zbI,zkw (l:=r)]
theorem zss{l:Lf}{x:l.ty D}:(l.enc x).base=true:=by cases l<;>rfl
theorem zh5:∀{l:List Lf}{x:Tup D l}{A:AV D},A∈zbI l x->A.base=true
 |l::r,x,A,h=>by
  rcases UO.1 h with e | e
  ·subst e;exact zss
  ·exact zh5 (l:=r) e
def Lf.of:Lf->Us Nat
 | .sl U=>c U
 | .pz U=>c U
 |_=>d
theorem zkx:∀{l:List Lf}{x:Tup D l}{j:Nat}{A:AV D},(zbI l x)[j]?=c A->A.num=true\/(∃U s,A = .sl U s false/\(l.map Lf.of)[j]?=c (c U))\/∃U x,A = .pz U x 0/\(l.map Lf.of)[j]?=c (c U)
 |l::r,x,0,A,h=>by
  have h:l.enc x.1=A:=by simpa[zbI] using h
  subst h;cases l<;>first | exact .inl rfl | exact .inr (.inl ⟨_,_,rfl,rfl⟩) | exact .inr (.inr ⟨_,_,rfl,rfl⟩)
 |l::r,x,j+1,A,h=>by
  have:=zkx (l:=r) (x:=x.2) (j:=j) (A:=A) (by simpa[zbI] using h);simpa using this
structure TyE(D:Nat->Type)(T:Nat) where
 agg:Bool
 L:List Lf
 to:D T->Tup D L
 of:Tup D L->Us (D T)
 ok:∀x y,of x=c y->to y=x
def TyE.none(D:Nat->Type)(T:Nat):TyE D T:=⟨true,[],λ_=>(),λ_=>Option.none,λ_ _ h=>by cases h⟩
abbrev vw(D:Nat->Type):List ((T:Nat)×TyE D T)->(T:Nat)->TyE D T
 |[],T=>TyE.none D T
 |e::r,T=>if h:e.1=T then h ▸ e.2 else vw D r T
abbrev zuL:List (Nat×Type)->Nat->Type
 |[],_=>Unit
 |e::r,T=>match Nat.beq e.1 T with
  |true=>e.2
  |false=>zuL r T
def zAf(D:Nat->Type)(E:List ((T:Nat)×TyE D T))(gl:World->FS->Prop)(glm:∀{Z τ:FS}{w w':World}{h:zd},Z.le τ->Ext w h w'->gl w Z->gl w' τ)(opv:Nat->(T:Nat)->Value->Addr->ByteArray->Sl (D T)->Priv:=λ_ _ _ _ _ _=>⟨λ_ _=>False,λ_ _ h=>h⟩)(oal:Nat->List Value->Us (Nat×Nat):=λ_ _=>d)
    (oal_ok:∀t zs k T,oal t zs=c (k,T)->∀(q:Nat) (hdr:Value) (Z:FS) (h:zd),(Zc q t zs.toArray).le h->(opv k T hdr ⟨q,0,d⟩ ⟨#[]⟩ ⟨[],false⟩).holds Z h:=by intro _ _ _ _ h;cases h) (nst:Nat->Nat:=λ_=>0) (own:Nat->Bool:=λ_=>false) (bz:Nat->Bool:=λ_=>false) (mps:(T:Nat)->Us (MapR D opv T MKey.str):=λ_=>d) (mpi:(T:Nat)->Us (MapR D opv T MKey.i64):=λ_=>d):Cod where
  mps:=mps
  mpi:=mpi
  bz:=bz
  nst:=nst
  lfs T:=(vw D E T).L.map Lf.of
  lfs_ok T x j A h:=zkx h
  own:=own
  opv:=opv
  oal:=oal
  oal_ok:=oal_ok
  gl:=gl
  glm:=glm
  D:=D
  size T:=(vw D E T).L.length
  agg T:=(vw D E T).agg || !Nat.beq (vw D E T).L.length 1
  emb T x:=zbI _ ((vw D E T).to x)
  imp T cs:=(zsr (vw D E T).L cs).bind λx=>(vw D E T).of x
  len T x:=zkw
  base T x A h:=zh5 h
  sz T h:=by
    simp only[Bool.or_eq_false_iff,Bool.not_eq_false'] at h;exact ge h.2
  imp_ok T cs x h:=by
    let⟨y,hy,h⟩:=gc h;rw[(vw D E T).ok y x h];exact zmG hy
end
noncomputable def lpO:ZV:=λf x=>loopO f x
theorem ZF:xm lpO:=λf x y h=>W0.1 h
section
variable {C:Cod}{P:Program}
theorem ze:∀s∈([]:List (Spec C)),s.OK P:=λs h=>by cases h
theorem za{s:Spec C}{l:List (Spec C)}(h:s.OK P)(k:∀s∈l,s.OK P):∀s'∈s::l,s'.OK P:=λs' h'=>by
 rcases UO.1 h' with e | e
 ·rw[e];exact h
 ·exact k s' e
theorem zc7{Q Q':XE C->St C->Prop}(h:∀e S,Q e S->Q' e S):∀{outs:List (XK×Sig)}{r:zi C outs},zT outs r Q->zT outs r Q'
 |[],r,_=>r.elim
 |[o],r,q=>one q
 |o::o2::l,r,q=>by
  unfold zT at q |-
  cases r with
  |inl a=>exact one q
  |inr y=>exact zc7 h q
where
 one {o:XK×Sig} {y:XK.ty C o.1 o.2} (q:Ya o.1 o.2 y Q):Ya o.1 o.2 y Q':=by
  let⟨k,g⟩:=o;cases k<;>exact h _ _ q
end
section
variable {C:Cod}{P:Program}
theorem AbsL.bool0{κ:Kp}{S:St C}{ν:Val}{vs:Nat->List Value}{ids:List Nat}{vals:List Value}{Z:FS}{PV:List Priv}{q:Bool}(h:AbsL κ S ν vs ids (ym 0 vals) (λ_=>undef) Z PV)(hl:vals.length=1)(he:S.env 0 = .bool q):zcP vals = .bool q:=by
 have hv:=h.env 0;rw[he,yn] at hv
 match vals,hl with
 |[v],_=>exact hv.bool_inv
theorem Spec.ref {f:FuncId}{ins:Sig}{F:ins.ty C->Us (zi C [(.ret,{ts:=[(0,.bool)],es:=[]})])} (hs:Spec.OK P ⟨f,1,ins,[(.ret,{ts:=[(0,.bool)],es:=[]})],F⟩) (hes:ins.es=[]) {x:ins.ty C}{q:Bool}(hx:F x=c q) {args:List Value}(hl:args.length=ins.ts.length) {W:World}{Z:FS}(hσ:Z.sub W) (hgl:C.gl W Z) {ν:Val}(hone:∀i,(ν.hdr i).oneCell'=true)
    (hargs:∀t,VR C Z ν ((args[t]?).getD undef) ((ins.open x).env t)/\∀p:Nat->Prop,((ins.open x).env t).ok p) :
    Calls P f args.toArray W λe W2=>∃v Z' PV,e = .returned v/\Inv ⟨W,zd.none⟩ Z Z' PV W2/\PV=[]/\v = .bool q:=by
  let⟨fn,hf,_,_,hs⟩:=hs;have hheap:(ins.open x).heap=λ_=>none:=by
    let⟨ts,es⟩:=ins;simp only at hes;subst hes;rfl
  have hA:AbsL ⟨ins.es.length,by rw[hes];simp,ν⟩ (ins.open x) ν (λ_=>[]) [] (ym 0 args) (λ_=>undef) Z []:=
    ⟨⟨List.nodup_nil,λi=>by rw[hheap];simp,rfl,λi cs hi=>(by rw[hheap] at hi;cases hi),λt=>by rw[yn];exact(hargs t).1,hone⟩,λt=>(hargs t).2 _,λi cs hi=>(by rw[hheap] at hi;cases hi),λk _ hk=>(by rw[hheap] at hk;cases hk)⟩
  refine Calls.mono (hs x q hx _ ⟨W,zd.none⟩ Z hgl [] ν _ [] args rfl hl hA (Pre.empty hσ)) ?_;intro e W2 hp;cases e with
  |returned v=>
    obtain⟨vals,Z',PV',rfl,hlen,hi,ν',vs',ids',h⟩:=hp;exact⟨_,Z',[],rfl,hi.sub_own λg _=>Sep.nil,rfl,h.bool0 hlen rfl⟩
  |panicked chain=>exact hp.elim
  |outgrown=>exact hp.elim
end
def lit(l:List UInt8):ByteArray:=⟨⟨l⟩⟩
end Go.Px
