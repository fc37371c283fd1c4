/- Part A6. -/
import Derived.Test.YtlhommikjhhmbaaGreatDoorA5
set_option linter.unusedVariables false
set_option linter.unusedSimpArgs false
namespace Go.Px
open _root_.Option renaming some->c,none->d
section
variable {C:Cod}{P:Program}
noncomputable def drw(q:Opts)(Γ:List (Spec C))(P:Program)(n:Nat):YD C:=λops a _ S K=>ZM (Y9 q Γ P n) (tch Γ P) P n ops a [] [] [] S K
theorem Option.bind_fun_some'{α:Type}(x:U3 α):x.bind c=x:=by cases x<;>rfl
theorem zgq[Dfr]{q:Opts}{Γ:List (Spec C)}(b:∀s∈Γ,s.OK P)(g:P.follows .mixedOrders=true)(n:Nat)(κ:Kp):vO P n κ (drw q Γ P n):=λw0 σ0 e ρ id ops f S K r h a w hA=>zmT e b h g hA
noncomputable def we(q:Opts)(Γ:List (Spec C))(a:ZW)(P:Program)(fn:Func)(nr:Nat)(ins:Sig)(outs:List (XK×Sig))(hs:Nat->U3 Hint)(x:ins.ty C):U3 (zh C outs):=zsD (P:=P) (Y9 q Γ P) (drw q Γ P) a fn nr ins outs hs x
theorem yK {q : Opts} {Γ : List (Spec C)} (a : ∀ s ∈ Γ, s.OK P) (p : P.follows .mixedOrders = true) {l : ZW} (j : xx l) {f : FuncId} {fn : Func} {nr : Nat} {ins : Sig} {outs : List (XK × Sig)} (hs : Nat -> U3 Hint) (m : P.funcs[f]? = c fn) (i : (fn.name == "runtime.NumGoroutine") = false) (e : fn.body.isNone = false) {F : ins.ty C -> U3 (zh C outs)} (n : ∀ x, F x = we q Γ l P fn nr ins outs hs x) :
    Spec.OK P ⟨f,nr,ins,outs,F⟩:=zws (λκ=>⟨λw0 σ0 g o S L b Z PV hA=>by show OpA κ P fn.ntmps w0 σ0 o (Y9 q Γ P fn.ntmps o S _ c) L b Z PV;rw[Vn,Option.bind_fun_some'];exact zkN a _ κ w0 σ0 g o S L b Z PV hA,λo S ρ k=>zkQ⟩) (λκ=>zgq a p _ κ) j m i e λx r h=>by rw[n] at h;exact h
end
def hfind:List (Nat×Hint)->Nat->U3 Hint
 |[],_=>d
 |(i,h)::r,j=>bif Nat.beq i j then c h else hfind r j
inductive Lf where
 |int (k:IntKind)
 |bool
 |str
 |sl (T:Nat)
 |pz (T:Nat)
abbrev Lf.ty(D:Nat->Type):Lf->Type
 | .int _=>Int
 | .bool=>Bool
 | .str=>ByteArray
 | .sl T=>Sl (D T)
 | .pz T=>D T
abbrev Tup(D:Nat->Type):List Lf->Type
 |[]=>Unit
 |l::r=>l.ty D×Tup D r
section
variable {D:Nat->Type}
def Lf.enc:(l:Lf)->l.ty D->AV D
 | .int k,n =>.int k n
 | .bool,b =>.bool b
 | .str,s =>.str s
 | .sl T,s =>.sl T s false
 | .pz T,x =>.pz T x 0
def zro{T T':Nat}(x:D T'):U3 (D T):=if h:T'=T then c (h ▸ x) else d
def zrp{T T':Nat}(s:Sl (D T')):U3 (Sl (D T)):=if h:T'=T then c (h ▸ s) else d
def Lf.dec:(l:Lf)->AV D->U3 (l.ty D)
 | .int k,.int a n=>chk (decide (k=a)) (c n)
 | .bool,.bool b=>c b
 | .str,.str s=>c s
 | .sl T,.sl T' s _=>zrp s
 | .sl T,.nils=>c ⟨[],false⟩
 | .pz T,.pz T' x 0=>zro x
 |_,_=>d
def zb6:(l:List Lf)->Tup D l->List (AV D)
 |[],_=>[]
 |l::r,x=>l.enc x.1::zb6 r x.2
def zsT:(l:List Lf)->List (AV D)->U3 (Tup D l)
 |[],[]=>c ()
 |l::r,A::As=>(l.dec A).bind λy=>(zsT r As).bind λz=>c (y,z)
 |_,_=>d
theorem dec_ok{l:Lf}{A:AV D}{x:l.ty D}(h:l.dec A=c x):leA A (l.enc x):=by
 unfold Lf.dec at h;split at h
 ·let⟨e,h⟩:=zb h;cases h;have:=Dv e;subst this;exact .inl rfl
 ·cases h;exact .inl rfl
 ·cases h;exact .inl rfl
 ·unfold zrp at h;split at h
  ·rename_i e;subst e;cases h;exact .inr (.inl ⟨_,_,_,rfl,rfl⟩)
  ·cases h
 ·cases h;exact .inr (.inr ⟨_,_,rfl,rfl⟩)
 ·unfold zro at h;split at h
  ·rename_i e;subst e;cases h;exact .inl rfl
  ·cases h
 ·cases h
theorem znn:∀{l:List Lf}{cs:List (AV D)}{x:Tup D l},zsT l cs=c x->zfj cs (zb6 l x)
 |[],[],x,h=>trivial
 |l::r,A::As,x,h=>by
  let⟨y,b,h⟩:=gd h;let⟨z,a,h⟩:=gd h;cases h;exact⟨dec_ok b,znn a⟩
 |[],_::_,x,h=>by cases h
 |_::_,[],x,h=>by cases h
theorem zkX:∀{l:List Lf}{x:Tup D l},(zb6 l x).length=l.length
 |[],_=>rfl
 |l::r,x=>by simp[zb6,zkX (l:=r)]
theorem zsU{l:Lf}{x:l.ty D}:(l.enc x).base=true:=by cases l<;>rfl
theorem ziI:∀{l:List Lf}{x:Tup D l}{A:AV D},A∈zb6 l x->A.base=true
 |l::r,x,A,h=>by
  rcases Db.1 h with e | e
  ·subst e;exact zsU
  ·exact ziI (l:=r) e
def Lf.of:Lf->U3 Nat
 | .sl U=>c U
 | .pz U=>c U
 |_=>d
theorem zkY:∀{l:List Lf}{x:Tup D l}{j:Nat}{A:AV D},(zb6 l x)[j]?=c A->A.num=true\/(∃U s,A = .sl U s false/\(l.map Lf.of)[j]?=c (c U))\/∃U x,A = .pz U x 0/\(l.map Lf.of)[j]?=c (c U)
 |l::r,x,0,A,h=>by
  have h:l.enc x.1=A:=by simpa[zb6] using h
  subst h;cases l<;>first | exact .inl rfl | exact .inr (.inl ⟨_,_,rfl,rfl⟩) | exact .inr (.inr ⟨_,_,rfl,rfl⟩)
 |l::r,x,j+1,A,h=>by
  have:=zkY (l:=r) (x:=x.2) (j:=j) (A:=A) (by simpa[zb6] using h);simpa using this
structure TyE(D:Nat->Type)(T:Nat) where
 agg:Bool
 L:List Lf
 to:D T->Tup D L
 of:Tup D L->U3 (D T)
 ok:∀x y,of x=c y->to y=x
def TyE.none(D:Nat->Type)(T:Nat):TyE D T:=⟨true,[],λ_=>(),λ_=>Option.none,λ_ _ h=>by cases h⟩
abbrev v7(D:Nat->Type):List ((T:Nat)×TyE D T)->(T:Nat)->TyE D T
 |[],T=>TyE.none D T
 |e::r,T=>if h:e.1=T then h ▸ e.2 else v7 D r T
abbrev zva:List (Nat×Type)->Nat->Type
 |[],_=>Unit
 |e::r,T=>match Nat.beq e.1 T with
  |true=>e.2
  |false=>zva r T
def zAe(D:Nat->Type)(E:List ((T:Nat)×TyE D T))(gl:World->FS->Prop)(glm:∀{Z τ:FS}{w w':World}{h:zc},Z.le τ->Ext w h w'->gl w Z->gl w' τ)(opv:Nat->(T:Nat)->Value->Addr->ByteArray->Sl (D T)->Priv:=λ_ _ _ _ _ _=>⟨λ_ _=>False,λ_ _ h=>h⟩)(oal:Nat->List Value->U3 (Nat×Nat):=λ_ _=>d)
    (oal_ok:∀t a k T,oal t a=c (k,T)->∀(q:Nat) (hdr:Value) (Z:FS) (h:zc),(Za q t a.toArray).le h->(opv k T hdr ⟨q,0,d⟩ ⟨#[]⟩ ⟨[],false⟩).holds Z h:=by intro _ _ _ _ h;cases h) (nst:Nat->Nat:=λ_=>0) (own:Nat->Bool:=λ_=>false) (bz:Nat->Bool:=λ_=>false) (mp:(T:Nat)->U3 (MapR D opv T):=λ_=>d):Cod where
 mp:=mp
 bz:=bz
 nst:=nst
 lfs T:=(v7 D E T).L.map Lf.of
 lfs_ok T x j A h:=zkY h
 own:=own
 opv:=opv
 oal:=oal
 oal_ok:=oal_ok
 gl:=gl
 glm:=glm
 D:=D
 size T:=(v7 D E T).L.length
 agg T:=(v7 D E T).agg || !Nat.beq (v7 D E T).L.length 1
 emb T x:=zb6 _ ((v7 D E T).to x)
 imp T cs:=(zsT (v7 D E T).L cs).bind λx=>(v7 D E T).of x
 len T x:=zkX
 base T x A h:=ziI h
 sz T h:=by
  simp only[Bool.or_eq_false_iff,Bool.not_eq_false'] at h;exact ge h.2
 imp_ok T cs x h:=by
  let⟨y,b,h⟩:=gd h;rw[(v7 D E T).ok y x h];exact znn b
end
noncomputable def lpO:ZW:=λf x=>loopO f x
theorem ZF:xx lpO:=λf x y h=>vz.1 h
section
variable {C:Cod}{P:Program}
theorem yL:∀s∈([]:List (Spec C)),s.OK P:=λs h=>by cases h
theorem zy{s:Spec C}{l:List (Spec C)}(h:s.OK P)(k:∀s∈l,s.OK P):∀s'∈s::l,s'.OK P:=λs' a=>by
 rcases Db.1 a with e | e
 ·rw[e];exact h
 ·exact k s' e
theorem zdB{Q Q':XE C->St C->Prop}(h:∀e S,Q e S->Q' e S):∀{outs:List (XK×Sig)}{r:zh C outs},zT outs r Q->zT outs r Q'
 |[],r,_=>r.elim
 |[o],r,q=>one q
 |o::o2::l,r,q=>by
  unfold zT at q |-
  cases r with
  |inl a=>exact one q
  |inr y=>exact zdB h q
where
 one {o:XK×Sig} {y:XK.ty C o.1 o.2} (q:Yj o.1 o.2 y Q):Yj o.1 o.2 y Q':=by
  let⟨k,g⟩:=o;cases k<;>exact h _ _ q
end
section
variable {C:Cod}{P:Program}
theorem AbsL.bool0{κ:Kp}{S:St C}{ν:Val}{vs:Nat->List Value}{b:List Nat}{a:List Value}{Z:FS}{PV:List Priv}{q:Bool}(h:AbsL κ S ν vs b (yq 0 a) (λ_=>undef) Z PV)(f:a.length=1)(g:S.env 0 = .bool q):zdg a = .bool q:=by
 have e:=h.env 0;rw[g,yr] at e
 match a,f with
 |[v],_=>exact e.bool_inv
theorem Spec.ref {f:FuncId}{ins:Sig}{F:ins.ty C->U3 (zh C [(.ret,{ts:=[(0,.bool)],es:=[]})])} (hs:Spec.OK P ⟨f,1,ins,[(.ret,{ts:=[(0,.bool)],es:=[]})],F⟩) (j:ins.es=[]) {x:ins.ty C}{q:Bool}(z:F x=c q) {args:List Value}(A:args.length=ins.ts.length) {W:World}{Z:FS}(r:Z.sub W) (s:C.gl W Z) {ν:Val}(l:∀i,(ν.hdr i).oneCell'=true)
    (b:∀t,VR C Z ν ((args[t]?).getD undef) ((ins.open x).env t)/\∀p:Nat->Prop,((ins.open x).env t).ok p) :
    Calls P f args.toArray W λe W2=>∃v o PV,e = .returned v/\Inv ⟨W,zc.none⟩ Z o PV W2/\PV=[]/\v = .bool q:=by
 let⟨fn,G,_,_,hs⟩:=hs;have a:(ins.open x).heap=λ_=>none:=by
  let⟨ts,es⟩:=ins;simp only at j;subst j;rfl
 have hA:AbsL ⟨ins.es.length,by rw[j];simp,ν⟩ (ins.open x) ν (λ_=>[]) [] (yq 0 args) (λ_=>undef) Z []:=
  ⟨⟨List.nodup_nil,λi=>by rw[a];simp,rfl,λi cs hi=>(by rw[a] at hi;cases hi),λt=>by rw[yr];exact(b t).1,l⟩,λt=>(b t).2 _,λi cs hi=>(by rw[a] at hi;cases hi),λk _ y=>(by rw[a] at y;cases y)⟩
 refine Calls.mono (hs x q z _ ⟨W,zc.none⟩ Z s [] ν _ [] args rfl A hA (Pre.empty r)) ?_;intro e W2 hp;cases e with
 |returned v=>
  obtain⟨u,o,B,rfl,m,hi,ν',E,w,h⟩:=hp;exact⟨_,o,[],rfl,hi.sub_own λg _=>Sep.nil,rfl,h.bool0 m rfl⟩
 |panicked n=>exact hp.elim
 |outgrown=>exact hp.elim
end
def lit(l:List UInt8):ByteArray:=⟨⟨l⟩⟩
end Go.Px
