/- Part A6. -/
import Derived.Test.YtnkjgenigoecjaaGreatDoorA5
set_option linter.unusedVariables false
set_option linter.unusedSimpArgs false
namespace Go.Px
open _root_.Option renaming some->c,none->d
section
variable {C:Cod}{P:Program}
noncomputable def drw(q:Opts)(Γ:List (Spec C))(P:Program)(n:Nat):Yz C:=λops ord _ S K=>ZM (Y6 q Γ P n) (tch Γ P) P n ops ord [] [] [] S K
theorem Option.bind_fun_some'{α:Type}(x:U7 α):x.bind c=x:=by cases x<;>rfl
theorem zgq[Dfr]{q:Opts}{Γ:List (Spec C)}(hΓ:∀s∈Γ,s.OK P)(hm:P.follows .mixedOrders=true)(n:Nat)(κ:Kp):vG P n κ (drw q Γ P n):=λw0 σ0 hgl ρ id ops ord S K r h a w hA=>zm7 hgl hΓ h hm hA
noncomputable def wh(q:Opts)(Γ:List (Spec C))(lp:ZW)(P:Program)(fn:Func)(nr:Nat)(ins:Sig)(outs:List (XK×Sig))(hs:Nat->U7 Hint)(x:ins.ty C):U7 (zf C outs):=ztp (P:=P) (Y6 q Γ P) (drw q Γ P) lp fn nr ins outs hs x
theorem yF {q : Opts} {Γ : List (Spec C)} (hΓ : ∀ s ∈ Γ, s.OK P) (hm : P.follows .mixedOrders = true) {lp : ZW} (hlp : xw lp) {f : FuncId} {fn : Func} {nr : Nat} {ins : Sig} {outs : List (XK × Sig)} (hs : Nat -> U7 Hint) (hf : P.funcs[f]? = c fn) (hnm : (fn.name == "runtime.NumGoroutine") = false) (hbs : fn.body.isNone = false) {F : ins.ty C -> U7 (zf C outs)} (hF : ∀ x, F x = wh q Γ lp P fn nr ins outs hs x) :
    Spec.OK P ⟨f,nr,ins,outs,F⟩:=zxr (λκ=>⟨λw0 σ0 hgl o S L b Z PV hA=>by show OpA κ P fn.ntmps w0 σ0 o (Y6 q Γ P fn.ntmps o S _ c) L b Z PV;rw[Vk,Option.bind_fun_some'];exact zk1 hΓ _ κ w0 σ0 hgl o S L b Z PV hA,λo S ρ k=>zk4⟩) (λκ=>zgq hΓ hm _ κ) hlp hf hnm hbs λx r h=>by rw[hF] at h;exact h
end
def hfind:List (Nat×Hint)->Nat->U7 Hint
 |[],_=>d
 |(i,h)::r,j=>bif Nat.beq i j then c h else hfind r j
inductive Lf where
 |int (k:IntKind)
 |bool
 |str
 |sl (T:Nat)
 |pz (T:Nat)
abbrev Lf.ty(D:Nat->Type):Lf->Type
 | .int _=>Int
 | .bool=>Bool
 | .str=>ByteArray
 | .sl T=>Sl (D T)
 | .pz T=>D T
abbrev Tup(D:Nat->Type):List Lf->Type
 |[]=>Unit
 |l::r=>l.ty D×Tup D r
section
variable {D:Nat->Type}
def Lf.enc:(l:Lf)->l.ty D->AV D
 | .int k,n =>.int k n
 | .bool,b =>.bool b
 | .str,s =>.str s
 | .sl T,s =>.sl T s false
 | .pz T,x =>.pz T x 0
def zsf{T T':Nat}(x:D T'):U7 (D T):=if h:T'=T then c (h ▸ x) else d
def zsg{T T':Nat}(s:Sl (D T')):U7 (Sl (D T)):=if h:T'=T then c (h ▸ s) else d
def Lf.dec:(l:Lf)->AV D->U7 (l.ty D)
 | .int k,.int k' n=>chk (decide (k=k')) (c n)
 | .bool,.bool b=>c b
 | .str,.str s=>c s
 | .sl T,.sl T' s _=>zsg s
 | .sl T,.nils=>c ⟨[],false⟩
 | .pz T,.pz T' x 0=>zsf x
 |_,_=>d
def zb5:(l:List Lf)->Tup D l->List (AV D)
 |[],_=>[]
 |l::r,x=>l.enc x.1::zb5 r x.2
def ztF:(l:List Lf)->List (AV D)->U7 (Tup D l)
 |[],[]=>c ()
 |l::r,A::As=>(l.dec A).bind λy=>(ztF r As).bind λz=>c (y,z)
 |_,_=>d
theorem dec_ok{l:Lf}{A:AV D}{x:l.ty D}(h:l.dec A=c x):leA A (l.enc x):=by
 unfold Lf.dec at h;split at h
 ·let⟨e,h⟩:=zb h;cases h;have:=Dy e;subst this;exact .inl rfl
 ·cases h;exact .inl rfl
 ·cases h;exact .inl rfl
 ·unfold zsg at h;split at h
  ·rename_i e;subst e;cases h;exact .inr (.inl ⟨_,_,_,rfl,rfl⟩)
  ·cases h
 ·cases h;exact .inr (.inr ⟨_,_,rfl,rfl⟩)
 ·unfold zsf at h;split at h
  ·rename_i e;subst e;cases h;exact .inl rfl
  ·cases h
 ·cases h
theorem znB:∀{l:List Lf}{cs:List (AV D)}{x:Tup D l},ztF l cs=c x->zfl cs (zb5 l x)
 |[],[],x,h=>trivial
 |l::r,A::As,x,h=>by
  let⟨y,hy,h⟩:=gd h;let⟨z,hz,h⟩:=gd h;cases h;exact⟨dec_ok hy,znB hz⟩
 |[],_::_,x,h=>by cases h
 |_::_,[],x,h=>by cases h
theorem zlb:∀{l:List Lf}{x:Tup D l},(zb5 l x).length=l.length
 |[],_=>rfl
 |l::r,x=>by simp[zb5,zlb (l:=r)]
theorem ztG{l:Lf}{x:l.ty D}:(l.enc x).base=true:=by cases l<;>rfl
theorem ziG:∀{l:List Lf}{x:Tup D l}{A:AV D},A∈zb5 l x->A.base=true
 |l::r,x,A,h=>by
  rcases De.1 h with e | e
  ·subst e;exact ztG
  ·exact ziG (l:=r) e
def Lf.of:Lf->U7 Nat
 | .sl U=>c U
 | .pz U=>c U
 |_=>d
theorem zlc:∀{l:List Lf}{x:Tup D l}{j:Nat}{A:AV D},(zb5 l x)[j]?=c A->A.num=true\/(∃U s,A = .sl U s false/\(l.map Lf.of)[j]?=c (c U))\/∃U x,A = .pz U x 0/\(l.map Lf.of)[j]?=c (c U)
 |l::r,x,0,A,h=>by
  have h:l.enc x.1=A:=by simpa[zb5] using h
  subst h;cases l<;>first | exact .inl rfl | exact .inr (.inl ⟨_,_,rfl,rfl⟩) | exact .inr (.inr ⟨_,_,rfl,rfl⟩)
 |l::r,x,j+1,A,h=>by
  have:=zlc (l:=r) (x:=x.2) (j:=j) (A:=A) (by simpa[zb5] using h);simpa using this
structure TyE(D:Nat->Type)(T:Nat) where
 agg:Bool
 L:List Lf
 to:D T->Tup D L
 of:Tup D L->U7 (D T)
 ok:∀x y,of x=c y->to y=x
def TyE.none(D:Nat->Type)(T:Nat):TyE D T:=⟨true,[],λ_=>(),λ_=>Option.none,λ_ _ h=>by cases h⟩
abbrev vT(D:Nat->Type):List ((T:Nat)×TyE D T)->(T:Nat)->TyE D T
 |[],T=>TyE.none D T
 |e::r,T=>if h:e.1=T then h ▸ e.2 else vT D r T
abbrev zvQ:List (Nat×Type)->Nat->Type
 |[],_=>Unit
 |e::r,T=>match Nat.beq e.1 T with
  |true=>e.2
  |false=>zvQ r T
def zA9(D:Nat->Type)(E:List ((T:Nat)×TyE D T))(gl:World->FS->Prop)(glm:∀{Z τ:FS}{w w':World}{h:zc},Z.le τ->Ext w h w'->gl w Z->gl w' τ)(opv:Nat->(T:Nat)->Value->Addr->ByteArray->Sl (D T)->Priv:=λ_ _ _ _ _ _=>⟨λ_ _=>False,λ_ _ h=>h⟩)(oal:Nat->List Value->U7 (Nat×Nat):=λ_ _=>d)
    (oal_ok:∀t zs k T,oal t zs=c (k,T)->∀(q:Nat) (hdr:Value) (Z:FS) (h:zc),(Za q t zs.toArray).le h->(opv k T hdr ⟨q,0,d⟩ ⟨#[]⟩ ⟨[],false⟩).holds Z h:=by intro _ _ _ _ h;cases h) (nst:Nat->Nat:=λ_=>0) (own:Nat->Bool:=λ_=>false) (bz:Nat->Bool:=λ_=>false) (mp:(T:Nat)->U7 (MapR D opv T):=λ_=>d):Cod where
 mp:=mp
 bz:=bz
 nst:=nst
 lfs T:=(vT D E T).L.map Lf.of
 lfs_ok T x j A h:=zlc h
 own:=own
 opv:=opv
 oal:=oal
 oal_ok:=oal_ok
 gl:=gl
 glm:=glm
 D:=D
 size T:=(vT D E T).L.length
 agg T:=(vT D E T).agg || !Nat.beq (vT D E T).L.length 1
 emb T x:=zb5 _ ((vT D E T).to x)
 imp T cs:=(ztF (vT D E T).L cs).bind λx=>(vT D E T).of x
 len T x:=zlb
 base T x A h:=ziG h
 sz T h:=by
  simp only[Bool.or_eq_false_iff,Bool.not_eq_false'] at h;exact ge h.2
 imp_ok T cs x h:=by
  let⟨y,hy,h⟩:=gd h;rw[(vT D E T).ok y x h];exact znB hy
end
noncomputable def lpO:ZW:=λf x=>loopO f x
theorem ZE:xw lpO:=λf x y h=>vp.1 h
section
variable {C:Cod}{P:Program}
theorem yG:∀s∈([]:List (Spec C)),s.OK P:=λs h=>by cases h
theorem zu{s:Spec C}{l:List (Spec C)}(h:s.OK P)(k:∀s∈l,s.OK P):∀s'∈s::l,s'.OK P:=λs' h'=>by
 rcases De.1 h' with e | e
 ·rw[e];exact h
 ·exact k s' e
theorem zdB{Q Q':XE C->St C->Prop}(h:∀e S,Q e S->Q' e S):∀{outs:List (XK×Sig)}{r:zf C outs},zR outs r Q->zR outs r Q'
 |[],r,_=>r.elim
 |[o],r,q=>one q
 |o::o2::l,r,q=>by
  unfold zR at q |-
  cases r with
  |inl a=>exact one q
  |inr y=>exact zdB h q
where
 one {o:XK×Sig} {y:XK.ty C o.1 o.2} (q:Yg o.1 o.2 y Q):Yg o.1 o.2 y Q':=by
  let⟨k,g⟩:=o;cases k<;>exact h _ _ q
end
section
variable {C:Cod}{P:Program}
theorem AbsL.bool0{κ:Kp}{S:St C}{ν:Val}{vs:Nat->List Value}{ids:List Nat}{vals:List Value}{Z:FS}{PV:List Priv}{q:Bool}(h:AbsL κ S ν vs ids (yo 0 vals) (λ_=>undef) Z PV)(hl:vals.length=1)(he:S.env 0 = .bool q):zdg vals = .bool q:=by
 have hv:=h.env 0;rw[he,yp] at hv
 match vals,hl with
 |[v],_=>exact hv.bool_inv
theorem Spec.ref {f:FuncId}{ins:Sig}{F:ins.ty C->U7 (zf C [(.ret,{ts:=[(0,.bool)],es:=[]})])} (hs:Spec.OK P ⟨f,1,ins,[(.ret,{ts:=[(0,.bool)],es:=[]})],F⟩) (hes:ins.es=[]) {x:ins.ty C}{q:Bool}(hx:F x=c q) {args:List Value}(hl:args.length=ins.ts.length) {W:World}{Z:FS}(hσ:Z.sub W) (hgl:C.gl W Z) {ν:Val}(hone:∀i,(ν.hdr i).oneCell'=true)
    (hargs:∀t,VR C Z ν ((args[t]?).getD undef) ((ins.open x).env t)/\∀p:Nat->Prop,((ins.open x).env t).ok p) :
    Calls P f args.toArray W λe W2=>∃v Z' PV,e = .returned v/\Inv ⟨W,zc.none⟩ Z Z' PV W2/\PV=[]/\v = .bool q:=by
 let⟨fn,hf,_,_,hs⟩:=hs;have hheap:(ins.open x).heap=λ_=>none:=by
  let⟨ts,es⟩:=ins;simp only at hes;subst hes;rfl
 have hA:AbsL ⟨ins.es.length,by rw[hes];simp,ν⟩ (ins.open x) ν (λ_=>[]) [] (yo 0 args) (λ_=>undef) Z []:=
  ⟨⟨List.nodup_nil,λi=>by rw[hheap];simp,rfl,λi cs hi=>(by rw[hheap] at hi;cases hi),λt=>by rw[yp];exact(hargs t).1,hone⟩,λt=>(hargs t).2 _,λi cs hi=>(by rw[hheap] at hi;cases hi),λk _ hk=>(by rw[hheap] at hk;cases hk)⟩
 refine Calls.mono (hs x q hx _ ⟨W,zc.none⟩ Z hgl [] ν _ [] args rfl hl hA (Pre.empty hσ)) ?_;intro e W2 hp;cases e with
 |returned v=>
  obtain⟨vals,Z',PV',rfl,hlen,hi,ν',vs',ids',h⟩:=hp;exact⟨_,Z',[],rfl,hi.sub_own λg _=>Sep.nil,rfl,h.bool0 hlen rfl⟩
 |panicked chain=>exact hp.elim
 |outgrown=>exact hp.elim
end
def lit(l:List UInt8):ByteArray:=⟨⟨l⟩⟩
end Go.Px
