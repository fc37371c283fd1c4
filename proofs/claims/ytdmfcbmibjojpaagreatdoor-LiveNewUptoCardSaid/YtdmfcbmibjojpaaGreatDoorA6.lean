/- Part A6. -/
import Derived.Test.YtdmfcbmibjojpaaGreatDoorA5
set_option linter.unusedVariables false
set_option linter.unusedSimpArgs false
namespace Go.Px
open _root_.Option renaming some->c,none->d
section
variable {C:Cod}{P:Program}
noncomputable def drw(q:Opts)(Γ:List (Spec C))(P:Program)(n:Nat):Yv C:=λops ord _ S K=>ZM (Y3 q Γ P n) (tch Γ P) P n ops ord [] [] [] S K
theorem Option.bind_fun_some'{α:Type}(x:U3 α):x.bind c=x:=by cases x<;>rfl
theorem zgb[Dfr]{q:Opts}{Γ:List (Spec C)}(hΓ:∀s∈Γ,s.OK P)(hm:P.follows .mixedOrders=true)(n:Nat)(κ:Kp):vz P n κ (drw q Γ P n):=λw0 σ0 hgl ρ id ops ord S K r h a w hA=>zmX hgl hΓ h hm hA
noncomputable def X9(q:Opts)(Γ:List (Spec C))(lp:ZW)(P:Program)(fn:Func)(nr:Nat)(ins:Sig)(outs:List (XK×Sig))(hs:Nat->U3 Hint)(x:ins.ty C):U3 (zg C outs):=zsW (P:=P) (Y3 q Γ P) (drw q Γ P) lp fn nr ins outs hs x
theorem yE {q : Opts} {Γ : List (Spec C)} (hΓ : ∀ s ∈ Γ, s.OK P) (hm : P.follows .mixedOrders = true) {lp : ZW} (hlp : xq lp) {f : FuncId} {fn : Func} {nr : Nat} {ins : Sig} {outs : List (XK × Sig)} (hs : Nat -> U3 Hint) (hf : P.funcs[f]? = c fn) (hnm : (fn.name == "runtime.NumGoroutine") = false) (hbs : fn.body.isNone = false) {F : ins.ty C -> U3 (zg C outs)} (hF : ∀ x, F x = X9 q Γ lp P fn nr ins outs hs x) :
    Spec.OK P ⟨f,nr,ins,outs,F⟩:=zwT (λκ=>⟨λw0 σ0 hgl o S L b Z PV hA=>by show OpA κ P fn.ntmps w0 σ0 o (Y3 q Γ P fn.ntmps o S _ c) L b Z PV;rw[Va,Option.bind_fun_some'];exact zkS hΓ _ κ w0 σ0 hgl o S L b Z PV hA,λo S ρ k=>zkV⟩) (λκ=>zgb hΓ hm _ κ) hlp hf hnm hbs λx r h=>by rw[hF] at h;exact h
end
def hfind:List (Nat×Hint)->Nat->U3 Hint
 |[],_=>d
 |(i,h)::r,j=>bif Nat.beq i j then c h else hfind r j
inductive Lf where
 |int (k:IntKind)
 |bool
 |str
 |sl (T:Nat)
 |pz (T:Nat)
abbrev Lf.ty(D:Nat->Type):Lf->Type
 | .int _=>Int
 | .bool=>Bool
 | .str=>ByteArray
 | .sl T=>Sl (D T)
 | .pz T=>D T
abbrev Tup(D:Nat->Type):List Lf->Type
 |[]=>Unit
 |l::r=>l.ty D×Tup D r
section
variable {D:Nat->Type}
def Lf.enc:(l:Lf)->l.ty D->AV D
 | .int k,n =>.int k n
 | .bool,b =>.bool b
 | .str,s =>.str s
 | .sl T,s =>.sl T s false
 | .pz T,x =>.pz T x 0
def zrK{T T':Nat}(x:D T'):U3 (D T):=if h:T'=T then c (h ▸ x) else d
def zrL{T T':Nat}(s:Sl (D T')):U3 (Sl (D T)):=if h:T'=T then c (h ▸ s) else d
def Lf.dec:(l:Lf)->AV D->U3 (l.ty D)
 | .int k,.int k' n=>chk (decide (k=k')) (c n)
 | .bool,.bool b=>c b
 | .str,.str s=>c s
 | .sl T,.sl T' s _=>zrL s
 | .sl T,.nils=>c ⟨[],false⟩
 | .pz T,.pz T' x 0=>zrK x
 |_,_=>d
def zbT:(l:List Lf)->Tup D l->List (AV D)
 |[],_=>[]
 |l::r,x=>l.enc x.1::zbT r x.2
def ztc:(l:List Lf)->List (AV D)->U3 (Tup D l)
 |[],[]=>c ()
 |l::r,A::As=>(l.dec A).bind λy=>(ztc r As).bind λz=>c (y,z)
 |_,_=>d
theorem dec_ok{l:Lf}{A:AV D}{x:l.ty D}(h:l.dec A=c x):leA A (l.enc x):=by
 unfold Lf.dec at h;split at h
 ·let⟨e,h⟩:=zb h;cases h;have:=Du e;subst this;exact .inl rfl
 ·cases h;exact .inl rfl
 ·cases h;exact .inl rfl
 ·unfold zrL at h;split at h
  ·rename_i e;subst e;cases h;exact .inr (.inl ⟨_,_,_,rfl,rfl⟩)
  ·cases h
 ·cases h;exact .inr (.inr ⟨_,_,rfl,rfl⟩)
 ·unfold zrK at h;split at h
  ·rename_i e;subst e;cases h;exact .inl rfl
  ·cases h
 ·cases h
theorem znr:∀{l:List Lf}{cs:List (AV D)}{x:Tup D l},ztc l cs=c x->ze6 cs (zbT l x)
 |[],[],x,h=>trivial
 |l::r,A::As,x,h=>by
  let⟨y,hy,h⟩:=gd h;let⟨z,hz,h⟩:=gd h;cases h;exact⟨dec_ok hy,znr hz⟩
 |[],_::_,x,h=>by cases h
 |_::_,[],x,h=>by cases h
theorem zk2:∀{l:List Lf}{x:Tup D l},(zbT l x).length=l.length
 |[],_=>rfl
 |l::r,x=>by simp[zbT,zk2 (l:=r)]
theorem ztd{l:Lf}{x:l.ty D}:(l.enc x).base=true:=by cases l<;>rfl
theorem ziv:∀{l:List Lf}{x:Tup D l}{A:AV D},A∈zbT l x->A.base=true
 |l::r,x,A,h=>by
  rcases Da.1 h with e | e
  ·subst e;exact ztd
  ·exact ziv (l:=r) e
def Lf.of:Lf->U3 Nat
 | .sl U=>c U
 | .pz U=>c U
 |_=>d
theorem zk3:∀{l:List Lf}{x:Tup D l}{j:Nat}{A:AV D},(zbT l x)[j]?=c A->A.num=true\/(∃U s,A = .sl U s false/\(l.map Lf.of)[j]?=c (c U))\/∃U x,A = .pz U x 0/\(l.map Lf.of)[j]?=c (c U)
 |l::r,x,0,A,h=>by
  have h:l.enc x.1=A:=by simpa[zbT] using h
  subst h;cases l<;>first | exact .inl rfl | exact .inr (.inl ⟨_,_,rfl,rfl⟩) | exact .inr (.inr ⟨_,_,rfl,rfl⟩)
 |l::r,x,j+1,A,h=>by
  have:=zk3 (l:=r) (x:=x.2) (j:=j) (A:=A) (by simpa[zbT] using h);simpa using this
structure TyE(D:Nat->Type)(T:Nat) where
 agg:Bool
 L:List Lf
 to:D T->Tup D L
 of:Tup D L->U3 (D T)
 ok:∀x y,of x=c y->to y=x
def TyE.none(D:Nat->Type)(T:Nat):TyE D T:=⟨true,[],λ_=>(),λ_=>Option.none,λ_ _ h=>by cases h⟩
abbrev vN(D:Nat->Type):List ((T:Nat)×TyE D T)->(T:Nat)->TyE D T
 |[],T=>TyE.none D T
 |e::r,T=>if h:e.1=T then h ▸ e.2 else vN D r T
abbrev zvm:List (Nat×Type)->Nat->Type
 |[],_=>Unit
 |e::r,T=>match Nat.beq e.1 T with
  |true=>e.2
  |false=>zvm r T
def zAB(D:Nat->Type)(E:List ((T:Nat)×TyE D T))(gl:World->FS->Prop)(glm:∀{Z τ:FS}{w w':World}{h:zc},Z.le τ->Ext w h w'->gl w Z->gl w' τ)(opv:Nat->(T:Nat)->Value->Addr->ByteArray->Sl (D T)->Priv:=λ_ _ _ _ _ _=>⟨λ_ _=>False,λ_ _ h=>h⟩)(oal:Nat->List Value->U3 (Nat×Nat):=λ_ _=>d)
    (oal_ok:∀t zs k T,oal t zs=c (k,T)->∀(q:Nat) (hdr:Value) (Z:FS) (h:zc),(Za q t zs.toArray).le h->(opv k T hdr ⟨q,0,d⟩ ⟨#[]⟩ ⟨[],false⟩).holds Z h:=by intro _ _ _ _ h;cases h) (nst:Nat->Nat:=λ_=>0) (own:Nat->Bool:=λ_=>false) (bz:Nat->Bool:=λ_=>false) (mp:(T:Nat)->U3 (MapR D opv T):=λ_=>d):Cod where
 mp:=mp
 bz:=bz
 nst:=nst
 lfs T:=(vN D E T).L.map Lf.of
 lfs_ok T x j A h:=zk3 h
 own:=own
 opv:=opv
 oal:=oal
 oal_ok:=oal_ok
 gl:=gl
 glm:=glm
 D:=D
 size T:=(vN D E T).L.length
 agg T:=(vN D E T).agg || !Nat.beq (vN D E T).L.length 1
 emb T x:=zbT _ ((vN D E T).to x)
 imp T cs:=(ztc (vN D E T).L cs).bind λx=>(vN D E T).of x
 len T x:=zk2
 base T x A h:=ziv h
 sz T h:=by
  simp only[Bool.or_eq_false_iff,Bool.not_eq_false'] at h;exact ge h.2
 imp_ok T cs x h:=by
  let⟨y,hy,h⟩:=gd h;rw[(vN D E T).ok y x h];exact znr hy
end
noncomputable def lpO:ZW:=λf x=>loopO f x
theorem ZF:xq lpO:=λf x y h=>vj.1 h
section
variable {C:Cod}{P:Program}
theorem yG:∀s∈([]:List (Spec C)),s.OK P:=λs h=>by cases h
theorem zu{s:Spec C}{l:List (Spec C)}(h:s.OK P)(k:∀s∈l,s.OK P):∀s'∈s::l,s'.OK P:=λs' h'=>by
 rcases Da.1 h' with e | e
 ·rw[e];exact h
 ·exact k s' e
theorem zdr{Q Q':XE C->St C->Prop}(h:∀e S,Q e S->Q' e S):∀{outs:List (XK×Sig)}{r:zg C outs},zQ outs r Q->zQ outs r Q'
 |[],r,_=>r.elim
 |[o],r,q=>one q
 |o::o2::l,r,q=>by
  unfold zQ at q |-
  cases r with
  |inl a=>exact one q
  |inr y=>exact zdr h q
where
 one {o:XK×Sig} {y:XK.ty C o.1 o.2} (q:Yd o.1 o.2 y Q):Yd o.1 o.2 y Q':=by
  let⟨k,g⟩:=o;cases k<;>exact h _ _ q
end
section
variable {C:Cod}{P:Program}
theorem AbsL.bool0{κ:Kp}{S:St C}{ν:Val}{vs:Nat->List Value}{ids:List Nat}{vals:List Value}{Z:FS}{PV:List Priv}{q:Bool}(h:AbsL κ S ν vs ids (yn 0 vals) (λ_=>undef) Z PV)(hl:vals.length=1)(he:S.env 0 = .bool q):zc6 vals = .bool q:=by
 have hv:=h.env 0;rw[he,yo] at hv
 match vals,hl with
 |[v],_=>exact hv.bool_inv
theorem Spec.ref {f:FuncId}{ins:Sig}{F:ins.ty C->U3 (zg C [(.ret,{ts:=[(0,.bool)],es:=[]})])} (hs:Spec.OK P ⟨f,1,ins,[(.ret,{ts:=[(0,.bool)],es:=[]})],F⟩) (hes:ins.es=[]) {x:ins.ty C}{q:Bool}(hx:F x=c q) {args:List Value}(hl:args.length=ins.ts.length) {W:World}{Z:FS}(hσ:Z.sub W) (hgl:C.gl W Z) {ν:Val}(hone:∀i,(ν.hdr i).oneCell'=true)
    (hargs:∀t,VR C Z ν ((args[t]?).getD undef) ((ins.open x).env t)/\∀p:Nat->Prop,((ins.open x).env t).ok p) :
    Calls P f args.toArray W λe W2=>∃v Z' PV,e = .returned v/\Inv ⟨W,zc.none⟩ Z Z' PV W2/\PV=[]/\v = .bool q:=by
 let⟨fn,hf,_,_,hs⟩:=hs;have hheap:(ins.open x).heap=λ_=>none:=by
  let⟨ts,es⟩:=ins;simp only at hes;subst hes;rfl
 have hA:AbsL ⟨ins.es.length,by rw[hes];simp,ν⟩ (ins.open x) ν (λ_=>[]) [] (yn 0 args) (λ_=>undef) Z []:=
  ⟨⟨List.nodup_nil,λi=>by rw[hheap];simp,rfl,λi cs hi=>(by rw[hheap] at hi;cases hi),λt=>by rw[yo];exact(hargs t).1,hone⟩,λt=>(hargs t).2 _,λi cs hi=>(by rw[hheap] at hi;cases hi),λk _ hk=>(by rw[hheap] at hk;cases hk)⟩
 refine Calls.mono (hs x q hx _ ⟨W,zc.none⟩ Z hgl [] ν _ [] args rfl hl hA (Pre.empty hσ)) ?_;intro e W2 hp;cases e with
 |returned v=>
  obtain⟨vals,Z',PV',rfl,hlen,hi,ν',vs',ids',h⟩:=hp;exact⟨_,Z',[],rfl,hi.sub_own λg _=>Sep.nil,rfl,h.bool0 hlen rfl⟩
 |panicked chain=>exact hp.elim
 |outgrown=>exact hp.elim
end
def lit(l:List UInt8):ByteArray:=⟨⟨l⟩⟩
end Go.Px
