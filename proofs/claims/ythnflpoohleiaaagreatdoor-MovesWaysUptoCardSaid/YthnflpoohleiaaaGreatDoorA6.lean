/- Part A6. -/
import Derived.Test.YthnflpoohleiaaaGreatDoorA5
set_option linter.unusedVariables false
set_option linter.unusedSimpArgs false
namespace Go.Px
open _root_.Option renaming some->c,none->d
section
variable {C:Cod}{P:Program}
noncomputable def drw(q:Opts)(Γ:List (Spec C))(P:Program)(n:Nat):YC C:=λops a _ S K=>ZN (Y7 q Γ P n) (tch Γ P) P n ops a [] [] [] S K
theorem Option.bind_fun_some'{α:Type}(x:Uv α):x.bind c=x:=by cases x<;>rfl
theorem zgo[Dfr]{q:Opts}{Γ:List (Spec C)}(e:∀s∈Γ,s.OK P)(g:P.follows .mixedOrders=true)(n:Nat)(κ:Kp):vM P n κ (drw q Γ P n):=λw0 σ0 b ρ id ops f S K r h a w hA=>zmJ b e h g hA
noncomputable def we(q:Opts)(Γ:List (Spec C))(a:ZX)(P:Program)(fn:Func)(nr:Nat)(ins:Sig)(outs:List (XK×Sig))(hs:Nat->Uv Hint)(x:ins.ty C):Uv (zg C outs):=zsA (P:=P) (Y7 q Γ P) (drw q Γ P) a fn nr ins outs hs x
theorem yI {q : Opts} {Γ : List (Spec C)} (a : ∀ s ∈ Γ, s.OK P) (p : P.follows .mixedOrders = true) {l : ZX} (g : xv l) {f : FuncId} {fn : Func} {nr : Nat} {ins : Sig} {outs : List (XK × Sig)} (hs : Nat -> Uv Hint) (m : P.funcs[f]? = c fn) (i : (fn.name == "runtime.NumGoroutine") = false) (j : fn.body.isNone = false) {F : ins.ty C -> Uv (zg C outs)} (n : ∀ x, F x = we q Γ l P fn nr ins outs hs x) :
    Spec.OK P ⟨f,nr,ins,outs,F⟩:=zwm (λκ=>⟨λw0 σ0 e o S L b Z PV hA=>by show OpA κ P fn.ntmps w0 σ0 o (Y7 q Γ P fn.ntmps o S _ c) L b Z PV;rw[Vp,Option.bind_fun_some'];exact zkA a _ κ w0 σ0 e o S L b Z PV hA,λo S ρ k=>zkD⟩) (λκ=>zgo a p _ κ) g m i j λx r h=>by rw[n] at h;exact h
end
def hfind:List (Nat×Hint)->Nat->Uv Hint
 |[],_=>d
 |(i,h)::r,j=>bif Nat.beq i j then c h else hfind r j
inductive Lf where
 |int (k:IntKind)
 |bool
 |str
 |sl (T:Nat)
 |pz (T:Nat)
abbrev Lf.ty(D:Nat->Type):Lf->Type
 | .int _=>Int
 | .bool=>Bool
 | .str=>ByteArray
 | .sl T=>Sl (D T)
 | .pz T=>D T
abbrev Tup(D:Nat->Type):List Lf->Type
 |[]=>Unit
 |l::r=>l.ty D×Tup D r
section
variable {D:Nat->Type}
def Lf.enc:(l:Lf)->l.ty D->AV D
 | .int k,n =>.int k n
 | .bool,b =>.bool b
 | .str,s =>.str s
 | .sl T,s =>.sl T s false
 | .pz T,x =>.pz T x 0
def zri{T T':Nat}(x:D T'):Uv (D T):=if h:T'=T then c (h ▸ x) else d
def zrj{T T':Nat}(s:Sl (D T')):Uv (Sl (D T)):=if h:T'=T then c (h ▸ s) else d
def Lf.dec:(l:Lf)->AV D->Uv (l.ty D)
 | .int k,.int a n=>chk (decide (k=a)) (c n)
 | .bool,.bool b=>c b
 | .str,.str s=>c s
 | .sl T,.sl T' s _=>zrj s
 | .sl T,.nils=>c ⟨[],false⟩
 | .pz T,.pz T' x 0=>zri x
 |_,_=>d
def zb8:(l:List Lf)->Tup D l->List (AV D)
 |[],_=>[]
 |l::r,x=>l.enc x.1::zb8 r x.2
def zsQ:(l:List Lf)->List (AV D)->Uv (Tup D l)
 |[],[]=>c ()
 |l::r,A::As=>(l.dec A).bind λy=>(zsQ r As).bind λz=>c (y,z)
 |_,_=>d
theorem dec_ok{l:Lf}{A:AV D}{x:l.ty D}(h:l.dec A=c x):leA A (l.enc x):=by
 unfold Lf.dec at h;split at h
 ·let⟨e,h⟩:=zb h;cases h;have:=Dn e;subst this;exact .inl rfl
 ·cases h;exact .inl rfl
 ·cases h;exact .inl rfl
 ·unfold zrj at h;split at h
  ·rename_i e;subst e;cases h;exact .inr (.inl ⟨_,_,_,rfl,rfl⟩)
  ·cases h
 ·cases h;exact .inr (.inr ⟨_,_,rfl,rfl⟩)
 ·unfold zri at h;split at h
  ·rename_i e;subst e;cases h;exact .inl rfl
  ·cases h
 ·cases h
theorem znd:∀{l:List Lf}{cs:List (AV D)}{x:Tup D l},zsQ l cs=c x->zfk cs (zb8 l x)
 |[],[],x,h=>trivial
 |l::r,A::As,x,h=>by
  let⟨y,b,h⟩:=gd h;let⟨z,a,h⟩:=gd h;cases h;exact⟨dec_ok b,znd a⟩
 |[],_::_,x,h=>by cases h
 |_::_,[],x,h=>by cases h
theorem zkK:∀{l:List Lf}{x:Tup D l},(zb8 l x).length=l.length
 |[],_=>rfl
 |l::r,x=>by simp[zb8,zkK (l:=r)]
theorem zsR{l:Lf}{x:l.ty D}:(l.enc x).base=true:=by cases l<;>rfl
theorem ziz:∀{l:List Lf}{x:Tup D l}{A:AV D},A∈zb8 l x->A.base=true
 |l::r,x,A,h=>by
  rcases UU.1 h with e | e
  ·subst e;exact zsR
  ·exact ziz (l:=r) e
def Lf.of:Lf->Uv Nat
 | .sl U=>c U
 | .pz U=>c U
 |_=>d
theorem zkL:∀{l:List Lf}{x:Tup D l}{j:Nat}{A:AV D},(zb8 l x)[j]?=c A->A.num=true\/(∃U s,A = .sl U s false/\(l.map Lf.of)[j]?=c (c U))\/∃U x,A = .pz U x 0/\(l.map Lf.of)[j]?=c (c U)
 |l::r,x,0,A,h=>by
  have h:l.enc x.1=A:=by simpa[zb8] using h
  subst h;cases l<;>first | exact .inl rfl | exact .inr (.inl ⟨_,_,rfl,rfl⟩) | exact .inr (.inr ⟨_,_,rfl,rfl⟩)
 |l::r,x,j+1,A,h=>by
  have:=zkL (l:=r) (x:=x.2) (j:=j) (A:=A) (by simpa[zb8] using h);simpa using this
structure TyE(D:Nat->Type)(T:Nat) where
 agg:Bool
 L:List Lf
 to:D T->Tup D L
 of:Tup D L->Uv (D T)
 ok:∀x y,of x=c y->to y=x
def TyE.none(D:Nat->Type)(T:Nat):TyE D T:=⟨true,[],λ_=>(),λ_=>Option.none,λ_ _ h=>by cases h⟩
abbrev v6(D:Nat->Type):List ((T:Nat)×TyE D T)->(T:Nat)->TyE D T
 |[],T=>TyE.none D T
 |e::r,T=>if h:e.1=T then h ▸ e.2 else v6 D r T
abbrev zu5:List (Nat×Type)->Nat->Type
 |[],_=>Unit
 |e::r,T=>match Nat.beq e.1 T with
  |true=>e.2
  |false=>zu5 r T
def zz5(D:Nat->Type)(E:List ((T:Nat)×TyE D T))(gl:World->FS->Prop)(glm:∀{Z τ:FS}{w w':World}{h:zc},Z.le τ->Ext w h w'->gl w Z->gl w' τ)(opv:Nat->(T:Nat)->Value->Addr->ByteArray->Sl (D T)->Priv:=λ_ _ _ _ _ _=>⟨λ_ _=>False,λ_ _ h=>h⟩)(oal:Nat->List Value->Uv (Nat×Nat):=λ_ _=>d)
    (oal_ok:∀t a k T,oal t a=c (k,T)->∀(q:Nat) (hdr:Value) (Z:FS) (h:zc),(Zb q t a.toArray).le h->(opv k T hdr ⟨q,0,d⟩ ⟨#[]⟩ ⟨[],false⟩).holds Z h:=by intro _ _ _ _ h;cases h) (nst:Nat->Nat:=λ_=>0) (own:Nat->Bool:=λ_=>false) (bz:Nat->Bool:=λ_=>false) (mp:(T:Nat)->Uv (MapR D opv T):=λ_=>d):Cod where
 mp:=mp
 bz:=bz
 nst:=nst
 lfs T:=(v6 D E T).L.map Lf.of
 lfs_ok T x j A h:=zkL h
 own:=own
 opv:=opv
 oal:=oal
 oal_ok:=oal_ok
 gl:=gl
 glm:=glm
 D:=D
 size T:=(v6 D E T).L.length
 agg T:=(v6 D E T).agg || !Nat.beq (v6 D E T).L.length 1
 emb T x:=zb8 _ ((v6 D E T).to x)
 imp T cs:=(zsQ (v6 D E T).L cs).bind λx=>(v6 D E T).of x
 len T x:=zkK
 base T x A h:=ziz h
 sz T h:=by
  simp only[Bool.or_eq_false_iff,Bool.not_eq_false'] at h;exact ge h.2
 imp_ok T cs x h:=by
  let⟨y,b,h⟩:=gd h;rw[(v6 D E T).ok y x h];exact znd b
end
noncomputable def lpO:ZX:=λf x=>loopO f x
theorem ZF:xv lpO:=λf x y h=>vw.1 h
section
variable {C:Cod}{P:Program}
theorem yJ:∀s∈([]:List (Spec C)),s.OK P:=λs h=>by cases h
theorem zy{s:Spec C}{l:List (Spec C)}(h:s.OK P)(k:∀s∈l,s.OK P):∀s'∈s::l,s'.OK P:=λs' a=>by
 rcases UU.1 a with e | e
 ·rw[e];exact h
 ·exact k s' e
theorem zdE{Q Q':XE C->St C->Prop}(h:∀e S,Q e S->Q' e S):∀{outs:List (XK×Sig)}{r:zg C outs},zT outs r Q->zT outs r Q'
 |[],r,_=>r.elim
 |[o],r,q=>one q
 |o::o2::l,r,q=>by
  unfold zT at q |-
  cases r with
  |inl a=>exact one q
  |inr y=>exact zdE h q
where
 one {o:XK×Sig} {y:XK.ty C o.1 o.2} (q:Yi o.1 o.2 y Q):Yi o.1 o.2 y Q':=by
  let⟨k,g⟩:=o;cases k<;>exact h _ _ q
end
section
variable {C:Cod}{P:Program}
theorem AbsL.bool0{κ:Kp}{S:St C}{ν:Val}{vs:Nat->List Value}{b:List Nat}{a:List Value}{Z:FS}{PV:List Priv}{q:Bool}(h:AbsL κ S ν vs b (yq 0 a) (λ_=>undef) Z PV)(f:a.length=1)(g:S.env 0 = .bool q):zdj a = .bool q:=by
 have e:=h.env 0;rw[g,yr] at e
 match a,f with
 |[v],_=>exact e.bool_inv
theorem Spec.ref {f:FuncId}{ins:Sig}{F:ins.ty C->Uv (zg C [(.ret,{ts:=[(0,.bool)],es:=[]})])} (hs:Spec.OK P ⟨f,1,ins,[(.ret,{ts:=[(0,.bool)],es:=[]})],F⟩) (j:ins.es=[]) {x:ins.ty C}{q:Bool}(A:F x=c q) {args:List Value}(D:args.length=ins.ts.length) {W:World}{Z:FS}(r:Z.sub W) (n:C.gl W Z) {ν:Val}(l:∀i,(ν.hdr i).oneCell'=true)
    (b:∀t,VR C Z ν ((args[t]?).getD undef) ((ins.open x).env t)/\∀p:Nat->Prop,((ins.open x).env t).ok p) :
    Calls P f args.toArray W λe W2=>∃v s PV,e = .returned v/\Inv ⟨W,zc.none⟩ Z s PV W2/\PV=[]/\v = .bool q:=by
 let⟨fn,E,_,_,hs⟩:=hs;have a:(ins.open x).heap=λ_=>none:=by
  let⟨ts,es⟩:=ins;simp only at j;subst j;rfl
 have hA:AbsL ⟨ins.es.length,by rw[j];simp,ν⟩ (ins.open x) ν (λ_=>[]) [] (yq 0 args) (λ_=>undef) Z []:=
  ⟨⟨List.nodup_nil,λi=>by rw[a];simp,rfl,λi cs hi=>(by rw[a] at hi;cases hi),λt=>by rw[yr];exact(b t).1,l⟩,λt=>(b t).2 _,λi cs hi=>(by rw[a] at hi;cases hi),λk _ w=>(by rw[a] at w;cases w)⟩
 refine Calls.mono (hs x q A _ ⟨W,zc.none⟩ Z n [] ν _ [] args rfl D hA (Pre.empty r)) ?_;intro e W2 hp;cases e with
 |returned v=>
  obtain⟨y,s,z,rfl,m,hi,ν',B,u,h⟩:=hp;exact⟨_,s,[],rfl,hi.sub_own λg _=>Sep.nil,rfl,h.bool0 m rfl⟩
 |panicked o=>exact hp.elim
 |outgrown=>exact hp.elim
end
def lit(l:List UInt8):ByteArray:=⟨⟨l⟩⟩
end Go.Px
