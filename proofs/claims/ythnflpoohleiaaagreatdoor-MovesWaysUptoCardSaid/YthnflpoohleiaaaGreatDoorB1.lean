/- Part B1. -/
import Derived.Test.YthnflpoohleiaaaGreatDoorMs
import Derived.Recover
set_option linter.unusedSimpArgs false
set_option linter.unusedVariables false
set_option linter.unusedSectionVars false
namespace Go.Px
open _root_.Array renaming replicate->qk,getElem?_toList->qB
open Bool renaming false->M,true->O
open Go.Code renaming seq->qb
open Go.Exit renaming inBlock->qs,thenS->qA
open Go.Oper renaming wp->X,upon->qx
open Go.Question renaming forced->qc,cut->qv
open Go.Region renaming wanted->qo
open Go.Result renaming andThen->Y
open Nat renaming beq->N,blt->U,ble->W,add_comm->qy
open _root_.Option renaming some->E,none->H
variable{b:Nat->Value}{c:Code}{f:FuncId}{fn:Func}{id2 r:Nat}{ids:List Nat}{ins:Sig}{k1 k2:ByteArray}{o:Oper}{outs:List (XK × Sig)}{q:Opts}{seen:Array Nat}{v v1 v2:Value}{vs:Nat->List Value}{x:Operand}{ν:Val}
section
variable {P:Program}{ops:Array Oper}
theorem zc2 {a:Act}{w:World}{K K':Act->World->Prop}{Q Q':Exit->Act->World->Prop}(d:∀a w,K a w->K' a w) (hp:∀c a w,Q (.panic c) a w->Q' (.panic c) a w) (f:∀a w,Q .outgrown a w->Q' .outgrown a w)
    (h:o.wp P a w K Q):o.wp P a w K' Q':=by
 unfold X at *
 generalize (execOp a.eval o).run P w=r at *
 cases r with
 |ok n w'=>
  cases n<;>simp only[qx] at h |-<;>
    first
     |exact d _ _ h
     |exact Calls.mono h (λe g b=>by cases e<;>first | exact d _ _ b | exact hp _ _ _ b | exact(let⟨a,w,q⟩:=b;⟨a,w,f _ _ q⟩))
     |exact Rows.mono h (λ_ _ b=>d _ _ b)
 |halt x w'=>cases x<;>simp only[qx] at h |-<;>exact hp _ _ _ h
theorem xa {Q Q':Exit->Act->World->Prop}{l2:List Oper}(d:∀a w,Q .normal a w->wpList P ops Q' l2 a w) (hp:∀c a w,Q (.panic c) a w->Q' (.panic c) a w) (b:∀a w,Q .outgrown a w->Q' .outgrown a w) :
    ∀(e:List Oper) {a:Act} {w:World},wpList P ops Q e a w->wpList P ops Q' (e++l2) a w
 |[],a,w,h=>d _ _ h
 |o::l,a,w,h=>by
  show wpList P ops Q' (o::(l++l2)) a w;unfold wpList at h |-
  cases f:qo o (yielded ops a.tmps) with
  |true=>
   rw[f,jv rfl] at h;rw[jv rfl];rcases h with h | ⟨h1,a2,g,q⟩
   ·exact .inl (zc2 (λa w=>xa d hp b l) hp b h)
   ·exact .inr ⟨h1,a2,g,b _ _ q⟩
  |false=>
   rw[f,jx je] at h;rw[jx je];exact xa d hp b l h
theorem vk{Q:Exit->Act->List Frame->World->Prop}{cs:List Frame}(b:∀a w,¬ Q .outgrown a cs w):∀(l:List Nat) (a:Act) (w:World),wpOps P ops (λe a w=>Q e a cs w) l a w->wpOpsS P ops Q l a cs w
 |[],a,w,h=>h
 |i::l,a,w,h=>by
  unfold wpOps at h;unfold wpOpsS;cases f:ops[i]? with
  |none=>rw[f] at h;exact vk b l a w h
  |some o=>
   rw[f] at h;simp only at h |-
   cases d:qo o (yielded ops a.tmps) with
   |false=>rw[d,jx je] at h;rw[jx je];exact vk b l _ w h
   |true=>
    rw[d,jv rfl] at h;rw[jv rfl];rcases h with h | ⟨_,a2,j,q⟩
    ·have h:=zc2 (λa w=>vk b l a w) (λc a w q=>q) (λa w q=>q) h;unfold X at h;split
     ·rename_i w' g;rw[g] at h;exact(h:False).elim
     ·exact h
    grind
end
section
variable {C:Cod}{P:Program}
theorem zem[Dfr]{Γ:List (Spec C)}(c:∀s∈Γ,s.OK P)(n:Nat)(κ:Kp):xP P n κ (Y7 q Γ P n):=⟨λw0 σ0 a o S L b Z PV hA=>by show OpA κ P n w0 σ0 o (Y7 q Γ P n o S _ E) L b Z PV;rw[Vp,Option.bind_fun_some'];exact zkA c _ κ w0 σ0 a o S L b Z PV hA,λo S ρ k=>zkD⟩
def zsU(rv:Value)(u u2:FrameMode):Prop:=(u = .returning/\rv = .nilIface/\u2 = .returning)\/(u = .panicking [{v:=rv,recovered:=false}]/\u2 = .panicking [{v:=rv,recovered:=true}])
def Spec.OKD (P : Program) (s : Spec C) : Prop := ∃ fn, P.funcs[s.f]? = E fn /\ (fn.name == "runtime.NumGoroutine") = M /\ fn.body.isNone = M /\
 ∀(args:List Value) (rv:Value) (u u2:FrameMode),zsU rv u u2->s.OKc (args++[rv]) λw Q=>CallsD P s.f args.toArray u w λe a w'=>a=u2/\Q e w'
def zdF:Op->Bool
 | .call ⟨.builtin .recover,args,_⟩=>args.isEmpty
 |_=>M
def startD(S:St C)(k d0:Nat):St C:={env:=λt=>bif N t d0 then S.env k else bif U t k then S.env t else .und,heap:=S.heap}
def zoy(P:Program)(fn:Func)(m:Nat)(outs:List (XK×Sig)):XE C->St C->Uv (zg C outs):=λe S=>match e with
 | .ret=>(Wc P S fn.results.toList).bind λAs=>zU m outs .ret (xw As S.heap)
 | .normal=>(Wc P S fn.results.toList).bind λAs=>zU m outs .ret (xw As S.heap)
 |_=>H
noncomputable def zb9(q:Opts)(Γ:List (Spec C))(lp:ZX)(P:Program)(fn:Func)(nr:Nat)(ins:Sig)(outs:List (XK×Sig))(hs:Nat->Uv Hint)(x:ins.ty C):Uv (zg C outs):=
 match fn.body with
 |some (.seq (.region _ ops M) c)=>(match ops.toList with
  |o::l=>(match o.guard,o.dst with
   |none,E d0=>chk (zdF o.op && (W ins.ts.length (fn.ntmps+1) && (U d0 fn.ntmps && (N fn.results.toList.length nr && (W nr 4 && (W ins.es.length 64 && U 0 ins.ts.length))))))
       (ZK (Y7 q Γ P fn.ntmps) fn.ntmps ops l (startD (ins.open x) (ins.ts.length - 1) d0) λe S=>match e with
         | .normal=>ZD (Y7 q Γ P fn.ntmps) (drw q Γ P fn.ntmps) lp fn.ntmps ins.es.length hs c 2 _ S (zoy P fn ins.es.length outs)
         |e=>zoy P fn ins.es.length outs e S)
   |_,_=>H)
  |[]=>H)
 |_=>H
theorem zmL {rv:Value}{u u2:FrameMode}(h:zsU rv u u2) {c0:Frame}{cs:List Frame}(a:c0.mode=u) :
    (recoverD (c0::cs)=H/\rv = .nilIface/\c0={c0 with mode:=u2})\/recoverD (c0::cs)=E (rv,{c0 with mode:=u2}::cs):=by
 rcases h with⟨rfl,rfl,rfl⟩ | ⟨rfl,rfl⟩
 · left;refine⟨?_,rfl,?_⟩
   ·simp only[recoverD,a]
   ·cases c0;grind
 ·right;simp only[recoverD,a]
theorem AbsL.startD {κ:Kp}{S:St C}{Z:FS}{PV:List Priv}{args:List Value}{rv:Value}{d0:Nat}(h:AbsL κ S ν vs ids (yq 0 (args++[rv])) (λ_=>undef) Z PV) :
    AbsL κ (startD S args.length d0) ν vs ids ((d0,rv)::yq 0 args) (λ_=>undef) Z PV:=by
 refine⟨⟨h.nd,h.dom,h.pv,h.cell,λt=>?_,h.one⟩,λt=>?_,h.livec,h.keep⟩
 · show VR C Z ν (bif N t d0 then rv else look (yq 0 args) (λ_=>undef) t) (bif N t d0 then S.env args.length else bif U t args.length then S.env t else .und);cases N t d0 with
   |true=>
    have:=h.env args.length;rw[yr] at this;grind
   |false=>
    simp only[U0];cases e:U t args.length with
    |true=>
     have:=h.env t;rw[yr] at this |-
     rw[UT] at e;grind
    |false=>trivial
 · show(bif N t d0 then S.env args.length else bif U t args.length then S.env t else .und).ok _;cases N t d0 with
   |true=>exact h.live _
   |false=>
    cases U t args.length with
    |true=>exact h.live t
    |false=>trivial
theorem zmM{a:Act}{w:World}(h:zdF o.op=O):(execOp a.eval o).run P w = .ok .recover w:=by
 unfold zdF at h;split at h
 ·rename_i args ts e;have:args = #[]:=by simpa using h
  subst this;simp[execOp,e,resolve,invoke,builtin,UP]
 ·cases h
theorem zrn{κ:Kp}{st:Start}{Z:FS}{nr:Nat}{outs:List (XK×Sig)}{r:zg C outs}{w:World}(h:vi κ st Z nr outs r .outgrown w):False:=by
 let⟨e,S,_,q,_⟩:=Xz (K:=λ_ _=>()) (z:=()) rfl h;grind
theorem Vq  {Γ : List (Spec C)} (n : ∀ s ∈ Γ, s.OK P) (hm : P.follows .mixedOrders = O) {lp : ZX} (S : xv lp)   {nr : Nat}   (hs : Nat -> Uv Hint) (hf : P.funcs[f]? = E fn) (T : (fn.name == "runtime.NumGoroutine") = M) (L : fn.body.isNone = M) {F : ins.ty C -> Uv (zg C outs)} (hF : ∀ x, F x = zb9 q Γ lp P fn nr ins outs hs x) :
    Spec.OKD P ⟨f,nr,ins,outs,F⟩:=by
 refine⟨fn,hf,T,L,?_⟩;intro args rv u u2 B x r d κ st Z A PV ν vs ids t i hA z;have d:zb9 q Γ lp P fn nr ins outs hs x=E r:=jE
 unfold zb9 at d;split at d
 case h_2=>cases d
 rename_i id ops c hb;split at d
 case h_2=>cases d
 rename_i o l p;split at d
 case h_2=>cases d
 rename_i d0 hg hd;let⟨hc,d⟩:=zb d;simp only[gf] at hc;let⟨c1,c2,c3,c4,c5,c6,c7⟩:=hc;have i:(args++[rv]).length=ins.ts.length:=i;have G:args.length=ins.ts.length - 1:=jE
 have c4:=ge c4;have t:κ.m=ins.es.length:=t;rw[<- t,<- G] at d;have hn:args.length<=fn.ntmps:=by
  have:=UZ c2;grind
 have K:d0 < fn.ntmps:=by simpa[UT] using c3
 have R:=AbsL.startD (d0:=d0) hA
 have V:@At dfr0 C fn.ntmps st Z κ (startD (ins.open x) args.length d0) (Act.put {tmps:=args.toArray++qk (fn.ntmps - args.toArray.size) undef,defers:=[]} (E d0) rv) st.w:=
  ⟨_,_,Z,PV,⟨ν,vs,ids,R⟩,z.inv,(vV hn).put K rv⟩
 refine callsD_of_wpS hf hb λc0 cs y=>wpS_seq (wpS_region ?_)
 have I:ops.size=l.length+1:=by rw[<- Array.length_toList,p];rfl
 have h0:ops[0]?=E o:=by rw[<- qB,p];rfl
 rw[I,List.range_eq_range',List.range'_succ];unfold wpOpsS;rw[h0];have hw:qo o (yielded ops (args.toArray++qk (fn.ntmps - args.toArray.size) undef))=true:=by simp[qo,hg]
 simp only[hw,jq,zmM c1];generalize hQ:bodyPostS P fn c0 cs (λe u' w'=>u'=u2/\vi κ st Z nr outs r e w')=Q;have fin:∀{S':St C} {a':Act} {w':World},zoy P fn κ.m outs .ret S'=E r->@At dfr0 C fn.ntmps st Z κ S' a' w'->∀e,e = .normal\/e = .ret->Q e a' ({c0 with mode:=u2}::cs) w':=by
  intro S' a' w' h b e he;let⟨v,h1,h2⟩:=zdk c4 (by rw[c4];exact UZ c5) h b;rw[<- hQ];rcases he with rfl | rfl<;>exact⟨b.defers,u2,rfl,v,h1,rfl,h2⟩
 have D:∀e a' w',@Zj dfr0 C _ fn.ntmps st Z κ (zoy P fn κ.m outs) r e a' w'->Q e a' ({c0 with mode:=u2}::cs) w':=by
  intro e a' w' k;cases e with
  |normal=>let⟨S',h,b⟩:=k;exact fin h b _ (.inl rfl)
  |ret=>let⟨S',h,b⟩:=k;grind
  |exit j=>let⟨S',h,b⟩:=k;cases h
  |panic ch=>let⟨v,S',h,b⟩:=k;cases h
  |goto l=>exact k.elim
  |outgrown=>exact k.elim
 have main:∀(a1:Act),a1=Act.put {tmps:=args.toArray++qk (fn.ntmps - args.toArray.size) undef,defers:=[]} (E d0) rv->
     wpOpsS P ops (qA (c.wpS P Q) Q) (List.range' (0+1) l.length) a1 ({c0 with mode:=u2}::cs) st.w:=by
  rintro _ rfl;refine vk (λa w g=>?_) _ _ _ ?_
  ·have g:Q .outgrown a ({c0 with mode:=u2}::cs) w:=g;rw[<- hQ] at g;let⟨u',_,g⟩:=g;exact zrn g
  · rw[wpOps_eq_wpList l (0+1) (λj=>by rw[<- qB,p,qy 0 1,qy 1 j];rfl)];have k:=YU A (zem n fn.ntmps κ) l d V;have:=xa (l2:=[]) (Q':=λe a w=>qA (c.wpS P Q) Q e a ({c0 with mode:=u2}::cs) w) (λa w g=>?_) (λch a w g=>?_) (λa w g=>?_) l k
    ·grind
    ·let⟨S',h,b⟩:=g;refine wpS_of_wp (wp_mono (yS A (zem n fn.ntmps κ) (zgo n hm fn.ntmps κ) S c 2 _ _ _ _ h _ _ b) D)
    ·let⟨v,S',h,b⟩:=g;cases h
    ·exact g.elim
 rcases zmL B (cs:=cs) y with⟨e1,e2,e3⟩ | e1
 ·grind
 grind
end
section
variable {C:Cod}{P:Program}{ρ:Type}
def zar:List Oper->Uv (List Oper×Nat)
 |[]=>H
 |[⟨H,.defer ⟨.value (.tmp t),args,_⟩,_,_,_,H⟩]=>bif args.isEmpty then E ([],t) else H
 |o::r=>(zar r).map λp=>(o::p.1,p.2)
theorem zkN:∀{l a:List Oper}{t:Nat},zar l=E (a,t)->∃o:Oper,l=a++[o]/\o.guard=H/\o.dst=H/\∃ts,o.op = .defer ⟨.value (.tmp t), #[],ts⟩:=by
 intro l
 induction l with
 |nil=>intro a t h;cases h
 |cons o r f=>
  intro a t h;unfold zar at h;split at h
  ·grind
  ·rename_i c args ts ty ps af e;cases b:args.isEmpty with
   |false=>grind
   |true=>
    rw[b,Dq] at h;cases h;have:args = #[]:=by simpa using b
    subst this;cases e;exact⟨_,rfl,rfl,rfl,_,rfl⟩
  ·rename_i o' d _ e;cases e;let⟨p,hp,h⟩:=D1.1 h;grind
def v7(m:Nat):List (AV C.D)->Bool
 |[]=>O
 | .pc k _::r=>U k m && v7 m r
 |_=>M
def zen(S:St C):List (AV C.D)->Bool
 |[]=>O
 | .pc k _::r=>(S.heap k).isSome && zen S r
 |_=>M
def VN(stp:yQ C)(dr:YC C)(lp:ZX)(n:Nat)(hs:Nat->Uv Hint):Code->Nat->St C->(XE C->St C->Uv ρ)->(FuncId->List (AV C.D)->XE C->St C->Uv ρ)->Uv ρ
 | .seq (.region id ops M) c,i,S,b,d=>(match zar ops.toList with
  |some (l,t)=>ZK stp n ops l S λe S'=>(match e with
   | .normal=>(match hs (i+1) with
    |some (.loop g _)=>(g.close 0 S').bind λh=>(match(g.open h).env t with
     | .clo f caps=>chk (v7 g.es.length caps && W g.es.length 64) (ZD stp dr lp n g.es.length hs c (i+2) _ (g.open h) (d f caps))
     |_=>H)
    |_=>H)
   |e=>b e S')
  |none=>ZD stp dr lp n 0 hs (.region id ops M) (i+1) _ S λe S'=>match e with
   | .normal=>VN stp dr lp n hs c (i+2) S' b d
   |e=>b e S')
 | .seq a c,i,S,b,d=>ZD stp dr lp n 0 hs a (i+1) _ S λe S'=>match e with
     | .normal=>VN stp dr lp n hs c (i+1+xS a) S' b d
     |e=>b e S'
 |_,_,_,_,_=>H
def zeo(P:Program)(s:Spec C)(fn:Func)(outs:List (XK×Sig))(f:FuncId)(caps:List (AV C.D))(v:AV C.D)(S:St C):Uv (zg C outs):=
 chk (N s.f f && zen S caps) ((YV s.ins S (caps++[v])).bind λz=>zbZ s (vB - 1) z.1 z.2.1 z.2.2 λout=>match out with
  | .go S'=>(Wc P (S'.put (vB - 1) .und) fn.results.toList).bind λAs=>zU 0 outs .ret (xw As S'.heap)
  |_=>H)
noncomputable def zhC(q:Opts)(Γ:List (Spec C))(a b:Spec C)(lp:ZX)(P:Program)(fn:Func)(nr:Nat)(ins:Sig)(outs:List (XK×Sig))(hs:Nat->Uv Hint)(x:ins.ty C):Uv (zg C outs):=
 match fn.body with
 |none=>H
 |some c=>chk (W ins.ts.length fn.ntmps && (N fn.results.toList.length nr && (W nr 4 && N ins.es.length 0)))
     (VN (Y7 q Γ P fn.ntmps) (drw q Γ P fn.ntmps) lp fn.ntmps hs c 0 (ins.open x) (λe S=>match e with
       | .ret=>(Wc P S fn.results.toList).bind λAs=>zU 0 outs .ret (xw As S.heap)
       | .pan v=>zU 0 outs (.pan v) (xw [] S.heap)
       |_=>H) λf caps e S=>match e with
       | .ret=>zeo P a fn outs f caps .nili S
       | .normal=>zeo P a fn outs f caps .nili S
       | .pan v=>zeo P b fn outs f caps v S
       |_=>H)
def VO(κ:Kp):List (AV C.D)->List Value->Prop
 |[],[]=>True
 | .pc k off::A,v::V=>(k < κ.m/\v = .pointer (E ((κ.ν0.adr k).add off)))/\VO κ A V
 |_,_=>False
theorem VO.of{Z:FS}{m:Nat}{h64:m<=64}:∀{caps:List (AV C.D)}{V:List Value},v7 m caps=O->VRs C Z ν V caps->VO (⟨m,h64,ν⟩:Kp) caps V
 |[],[],_,_=>trivial
 |A::As,[],_,h=>h.elim
 |[],v::V,_,h=>h.elim
 |A::As,v::V,hp,⟨h1,h2⟩=>by
  cases A<;>first | (simp[v7] at hp;done) | skip
  rename_i k off;simp only[v7,gf] at hp;exact⟨⟨by simpa[UT] using hp.1,h1⟩,VO.of hp.2 h2⟩
theorem zne{Z:FS}{m:Nat}:∀{caps:List (AV C.D)}{V:List Value},v7 m caps=O->VRs C Z ν V caps->∀v∈V,v.oneCell'=O
 |[],[],_,_=>λv b=>by cases b
 |A::As,[],_,h=>h.elim
 |[],v::V,_,h=>h.elim
 |A::As,v::V,hp,⟨h1,h2⟩=>by
  cases A<;>first | (simp[v7] at hp;done) | skip
  simp only[v7,gf] at hp;intro u a;rcases UU.1 a with e | e
  ·rw[e,show v = .pointer _ from h1];rfl
  ·exact zne hp.2 h2 u e
theorem VO.rs{κ:Kp}{S:St C}{L:List (Nat×Value)}{Z:FS}{PV:List Priv}(h:AbsL κ S ν vs ids L b Z PV):∀{caps:List (AV C.D)}{V:List Value},VO κ caps V->zen S caps=O->VRs C Z ν V caps/\AV.oks (λid=>(S.heap id).isSome=O) caps
 |[],[],_,_=>⟨trivial,trivial⟩
 |A::As,[],h,_=>by cases A<;>exact h.elim
 |[],v::V,h,_=>h.elim
 |A::As,v::V,d,c=>by
  cases A<;>first | exact d.elim | skip
  rename_i k off;let⟨⟨h1,h2⟩,e⟩:=d;simp only[zen,gf] at c;let⟨k1,k2⟩:=VO.rs h e c.2;refine⟨⟨?_,k1⟩,⟨c.1,k2⟩⟩;show v = .pointer (E ((ν.adr k).a.add off));rw[h2,(h.keep k h1 c.1).2.1]
theorem AbsL.rekey{κ c:Kp}{S:St C}{L:List (Nat×Value)}{Z:FS}{PV:List Priv}(h:AbsL κ S ν vs ids L b Z PV)(d:∀k,k < c.m->(S.heap k).isSome=O->ν.hdr k=c.ν0.hdr k/\(ν.adr k).a=(c.ν0.adr k).a/\(Z1 (S.heap k)=O->(ν.adr k).sub=(c.ν0.adr k).sub)):AbsL c S ν vs ids L b Z PV:=
 ⟨⟨h.nd,h.dom,h.pv,h.cell,h.env,h.one⟩,h.live,h.livec,d⟩
theorem AbsL.unput2{κ:Kp}{S:St C}{L:List (Nat×Value)}{Z:FS}{PV:List Priv}{d:Nat}(h:AbsL κ S ν vs ids ((d,v)::L) b Z PV):AbsL κ (S.put d .und) ν vs ids L b Z PV:=by
 refine⟨⟨h.nd,h.dom,h.pv,h.cell,λt=>?_,h.one⟩,λt=>?_,h.livec,h.keep⟩
 ·show VR C Z ν _ (upd S.env d .und t);by_cases e:t=d
  ·subst e;rw[zp];trivial
  ·rw[zq e];have:=h.env t;have a:look ((d,v)::L) b t=look L b t:=by
    show(bif N t d then v else look L b t)=_;have:N t d=false:=by
     cases hb:N t d with
     |false=>rfl
     |true=>exact absurd (ge hb) e
    rw[this];rfl
   grind
 ·show(upd S.env d .und t).ok _;by_cases e:t=d
  ·subst e;rw[zp];trivial
  ·rw[zq e];exact h.live t
theorem zoz   {caps : List Value} {w : World} (b : P.funcs[f]? = E fn) (a : (fn.name == "runtime.NumGoroutine") = M) (hb : fn.body.isNone = M) : (invoke (.fn (.func f) caps.toArray) #[]).run P w = .ok (.enter f caps.toArray) w := by
 simp only[invoke];unfold callFunc;simp only[UP,UR,UQ,b,a,hb,jk,jp,UN,Array.empty_append]
theorem zkO {s:Spec C}(hs:s.OKD P) {nr:Nat}{outs:List (XK×Sig)}{caps:List (AV C.D)}{v:AV C.D}{S:St C}{r:zg C outs}(l:zeo P s fn outs f caps v S=E r)
    (c4:fn.results.toList.length=nr) (c2:fn.results.toList.length<=4) {κ B:Kp} (hκ:κ.m=0) {st:Start} {σ0:FS} (R:C.gl st.w σ0) {L:List (Nat×Value)} {b:Nat->Value} {Z:FS} {PV:List Priv} (hA:zD B S L b Z PV) {w:World} (hi:Inv st σ0 Z PV w) {tmps:Array Value} (q:∀i,tmps.getD i undef=look L b i)
    {V:List Value} (hV:VO B caps V) {rv:Value} (hrv:∀ν:Val,(∀i,(ν.hdr i).oneCell'=O)->VR C Z ν rv v) (hok:∀p:Nat->Prop,v.ok p) {u u2:FrameMode} (y:zsU rv u u2) (hu2:settle u2 = .returning) (c:u ≠.run) :
    Leaves P fn tmps (vi κ st σ0 nr outs r) [{target :=.fn (.func f) V.toArray,args:= #[]}] u w:=by
 unfold zeo at l;let⟨hc,T⟩:=zb l;clear l;simp only[gf] at hc;have hf:=ge hc.1;subst hf;let⟨z,hz,o⟩:=gd T;rw[ze6] at o;let⟨out,ho,l⟩:=gd o;let⟨ν,vs,ids,hA⟩:=hA;let⟨k1,k2⟩:=VO.rs hA hV hc.2;let⟨fs,h1,h2,h3,hs⟩:=hs;refine leaves_cons c (zoz h1 h2 h3) ?_;have hvr:VRs C Z ν (V++[rv]) (caps++[v]):=VRs.of (by simp[k1.len]) λj u A c a=>by
  by_cases hj:j < caps.length
  ·rw[UX hj] at a;rw[UX (by rw[k1.len];exact hj)] at c;exact k1.rel c a
  · rw[UW Zd] at a;rw[UW (by rw[k1.len];omega),k1.len] at c;cases hd:j - caps.length with
    |zero=>rw[hd] at a c;simp at a c;subst a;subst c;exact hrv ν hA.one
    |succ m=>grind
 have n:AV.oks (λid=>(S.heap id).isSome=O) (caps++[v]):=AV.oks_iff.2 λA a=>by
  rcases Ux.1 a with h | h
  ·exact AV.oks_iff.1 k2 A h
  grind
 have g:=ze3 (hs V rv u u2 y) (λh k=>CallsD.mono h λe u' w' t=>⟨t.1,k _ _ t.2⟩) R (d:=vB - 1) (S2:=z.1) (bl:=z.2.1) (x:=z.2.2) hz hA hvr n ho hi;refine CallsD.mono g ?_;rintro e u' w' ⟨rfl,t⟩;cases e with
 |outgrown=>exact t.elim
 |panicked ch=>grind
 |returned v'=>
  obtain⟨S',Z',I,rfl,K,ν',Q,F,a⟩:=t;show Leaves P fn tmps _ [] (settle u') w';rw[hu2];have G:zD κ (S'.put (vB - 1) .und) L b Z' I:=⟨ν',Q,F,a.unput2.rekey λk hk=>jE⟩;have l:(Wc P (S'.put (vB - 1) .und) fn.results.toList).bind (λAs=>zU κ.m outs .ret (xw As (S'.put (vB - 1) .und).heap))=E r:=by rw[hκ];exact l
  let⟨v,h1,h2⟩:=zm0 (nr:=nr) c4 c2 l G K q;exact⟨v,h1,h2⟩
theorem zro {stp:yQ C}{dr:YC C}{lp:ZX}{n:Nat}{hs:Nat->Uv Hint}{w0:Start}{σ0:FS}(y:C.gl w0.w σ0) (s:∀ [Dfr] κ,xP P n κ stp) (hdr:∀ [Dfr] κ,vM P n κ dr) (K:xv lp) {κ:Kp}(T:κ.m=0)
    {KA:XE C->St C->Uv ρ} {F:FuncId->List (AV C.D)->XE C->St C->Uv ρ} {r:ρ} {Q:Exit->Act->World->Prop}
    (u:∀e a w,e ≠.normal->@Zj dfr0 C ρ n w0 σ0 κ KA r e a w->Q e a w)
    (hKB:∀(κ':Kp) f caps V,VO κ' caps V->∀e a w,@Zj ⟨[{target :=.fn (.func f) V.toArray,args:= #[]}]⟩ C ρ n w0 σ0 κ' (F f caps) r e a w->Q e a w) :
    ∀(c:Code) (i:Nat) (S:St C),VN stp dr lp n hs c i S KA F=E r->∀(a:Act) (w:World),@At dfr0 C n w0 σ0 κ S a w->c.wp P Q a w:=by
 have plain:∀(x c:Code) (i j:Nat) (S:St C),(∀(S:St C),VN stp dr lp n hs c j S KA F=E r->∀(a:Act) (w:World),@At dfr0 C n w0 σ0 κ S a w->c.wp P Q a w)->
     (ZD stp dr lp n 0 hs x i _ S λe S'=>match e with
     | .normal=>VN stp dr lp n hs c j S' KA F
     |e=>KA e S')=E r->∀(a:Act) (w:World),@At dfr0 C n w0 σ0 κ S a w->(qb x c).wp P Q a w:=by
  intro x c i j S ih h a w hA;rw[<- T] at h;refine wp_seq (wp_mono (@yS dfr0 κ C n w0 σ0 P stp dr lp hs y (s κ) (hdr κ) K x i _ _ _ _ h a w hA) ?_);intro e a w p;cases e with
  |normal=>let⟨S',d,q⟩:=p;exact ih _ d _ _ q
  |exit j=>exact u _ _ _ je p
  |ret=>exact u _ _ _ je p
  |panic ch=>exact u _ _ _ je p
  |goto l=>exact p.elim
  |outgrown=>exact p.elim
 intro c
 induction c with
 |seq x c _ ih=>
  intro i S h a w hA;cases x with
  |region id ops dw=>
   cases dw with
   |true=>exact plain _ c _ _ S (ih _) h a w hA
   |false=>
    unfold VN at h;split at h
    · rename_i l t hl;let⟨o,e1,e2,e3,ts,e4⟩:=zkN hl;refine wp_seq (wp_region_list ?_);rw[e1];have hx:=@YU dfr0 κ C n w0 σ0 P ρ stp y (s κ) ops l S _ r h a w hA;refine xa (λa w p=>?_) (λch a w p=>?_) (λa w p=>p.elim) l hx
      case refine_2=>
        let⟨v,S',d,q⟩:=p;exact u _ _ _ je ⟨v,S',d,q⟩
      let⟨S',d,q⟩:=p
      have d:(match hs (i+1) with
       |some (.loop g _)=>(g.close 0 S').bind λx0=>(match(g.open x0).env t with
        | .clo f caps=>chk (v7 g.es.length caps && W g.es.length 64) (ZD stp dr lp n g.es.length hs c (i+2) _ (g.open x0) (F f caps))
        |_=>H)
       |_=>H)=E r:=d
      split at d
      case h_2=>cases d
      rename_i g _ _;let⟨x0,G,d⟩:=gd d;rw[<- T] at G;let⟨L,b,Z,PV,⟨ν,vs,ids,R⟩,hi,hf⟩:=@At.close dfr0 _ _ _ _ _ _ _ _ _ _ G q;split at d
      case h_2=>cases d
      rename_i f caps I;let⟨hc,d⟩:=zb d;simp only[gf] at hc;have h64:=UZ hc.2;have hv:=R.env t;rw[I] at hv;let⟨V,z,B⟩:=hv;rw[zmW f (zne hc.1 B)] at z;have A:=VO.of (h64:=h64) hc.1 B;refine wpList_plain e2 λKw hK=>?_
      unfold X;have hev:(execOp a.eval o).run P w = .ok (.defer {target :=.fn (.func f) V.toArray,args:= #[]}) w:=by
       rw[hf.eval];simp only[execOp,e4,resolve,opv,z,Deferred.ofValue,UP,UN,UQ];simp
      rw[hev];show Kw _ w;refine hK _ _ ?_;show Exit.then _ Q .normal _ w;have hd:a.defers=[]:=hf.defers;have hsz:=hf.size;have hgt:=hf.get
      let D:Dfr:=⟨[{target :=.fn (.func f) V.toArray,args:= #[]}]⟩
      have hf2:@Fits D n L b (Act.put {a with defers:={target :=.fn (.func f) V.toArray,args:= #[]}::a.defers} o.dst undef):=by
       rw[e3];exact⟨by show _::a.defers=_;rw[hd];rfl,hsz,hgt⟩
      have hA3:@At D C n w0 σ0 ⟨g.es.length,h64,ν⟩ (g.open x0) (Act.put {a with defers:={target :=.fn (.func f) V.toArray,args:= #[]}::a.defers} o.dst undef) w:=
       ⟨L,b,Z,PV,⟨ν,vs,ids,R.rekey λk _ _=>⟨rfl,rfl,λ_=>rfl⟩⟩,hi,hf2⟩
      exact wp_mono (@yS D ⟨g.es.length,h64,ν⟩ C n w0 σ0 P stp dr lp hs y (@s D _) (@hdr D _) K c (i+2) _ _ _ _ d _ _ hA3) (hKB _ f caps V A)
    ·exact plain _ c _ _ S (ih _) h a w hA
  |_=>exact plain _ c _ _ S (ih _) h a w hA
 |_=>intro i S h;cases h
theorem zhD  {Γ : List (Spec C)} (Q : ∀ s ∈ Γ, s.OK P) {R sp : Spec C} (T : R.OKD P) (S : sp.OKD P) (hm : P.follows .mixedOrders = O) {lp : ZX} (hlp : xv lp)   {nr : Nat}   (hs : Nat -> Uv Hint) (hf : P.funcs[f]? = E fn) (hnm : (fn.name == "runtime.NumGoroutine") = M) (hbs : fn.body.isNone = M) {F : ins.ty C -> Uv (zg C outs)} (hF : ∀ x, F x = zhC q Γ R sp lp P fn nr ins outs hs x) :
    Spec.OK P ⟨f,nr,ins,outs,F⟩:=by
 refine⟨fn,hf,hnm,hbs,?_⟩;intro x r G κ st Z hg PV ν vs ids args hm' k hA K;have G:zhC q Γ R sp lp P fn nr ins outs hs x=E r:=jE
 unfold zhC at G;split at G
 ·cases G
 rename_i c hb;let⟨hc,G⟩:=zb G;simp only[gf] at hc;let⟨c1,c4,c2,c3⟩:=hc;have c4:=ge c4;have c2:fn.results.toList.length<=4:=by rw[c4];exact UZ c2
 have A:κ.m=0:=by rw[show κ.m=ins.es.length from hm'];exact ge c3
 have k:args.length=ins.ts.length:=k;have hn:args.length<=fn.ntmps:=by rw[k];exact UZ c1
 have hat:@At dfr0 C fn.ntmps st Z κ (ins.open x) {tmps:=args.toArray++qk (fn.ntmps - args.toArray.size) undef,defers:=[]} st.w:=⟨_,_,Z,PV,⟨ν,vs,ids,hA⟩,K.inv,vV hn⟩;refine calls_of_wp_defers hf hb (zro hg (λκ=>zem Q fn.ntmps κ) (λκ=>zgo Q hm fn.ntmps κ) hlp A ?_ ?_ c 0 _ G _ _ hat)
 · intro e a w hne o;cases e with
   |normal=>grind
   |ret=>
    obtain⟨S',i,d⟩:=o;have hd:a.defers=[]:=d.defers;obtain⟨v,h1,h2⟩:=zdk (κ:=κ) (nr:=nr) c4 c2 (by rw[A];exact i) d;show Leaves P fn a.tmps _ a.defers .returning w;rw[hd];exact⟨v,h1,h2⟩
   |exit j=>let⟨S',i,d⟩:=o;cases i
   |panic ch=>
    let⟨v,S',i,d⟩:=o;obtain⟨u,L,b,Z',D,rfl,hp,⟨ν',I,B,d⟩,t,n⟩:=d;have hd:a.defers=[]:=n.defers;show Leaves P fn a.tmps _ a.defers (.panicking _) w;rw[hd];have hav:AbsL κ (xw [] S'.heap) ν' I B [] (λ_=>undef) Z' D:=zbS (us:=[]) d trivial trivial;have i:zU κ.m outs (.pan v) (xw [] S'.heap)=E r:=jE
    show vi κ st Z nr outs r _ w;refine YK i λg y hy e' he=>?_
    cases e'<;>first | exact he.elim | skip
    obtain⟨s,z,hz,rfl⟩:=he;let⟨σ2,PV2,hl,hi2,h2⟩:=Wb hy ⟨ν',I,B,hav⟩ t;exact⟨u,σ2,PV2,rfl,hi2,hp.again hl hz,h2⟩
   |goto l=>exact o.elim
   |outgrown=>exact o.elim
 · intro κ' f' caps V hV e a w o;have ret:∀{S':St C},zeo P R fn outs f' caps .nili S'=E r->@At ⟨[{target :=.fn (.func f') V.toArray,args:= #[]}]⟩ C fn.ntmps st Z κ' S' a w->Leaves P fn a.tmps (vi κ st Z nr outs r) a.defers .returning w:=by
     intro S' i d;have hd:=@At.defers ⟨_⟩ _ _ _ _ _ _ _ _ d;let⟨L,b,Z',D,d,t,n⟩:=d;rw[hd];exact zkO T i c4 c2 A hg d t (@Fits.get ⟨_⟩ _ _ _ _ n) hV (rv :=.nilIface) (λν _=>Rv.nili) (λ_=>trivial) (u2 :=.returning) (.inl ⟨rfl,rfl,rfl⟩) rfl je
   cases e with
   |normal=>let⟨S',i,d⟩:=o;exact ret i d
   |ret=>let⟨S',i,d⟩:=o;exact ret i d
   |exit j=>let⟨S',i,d⟩:=o;cases i
   |panic ch=>
    let⟨v,S',i,d⟩:=o;obtain⟨u,L,b,Z',D,rfl,hp,d,t,n⟩:=d;have hd:=@Fits.defers ⟨_⟩ _ _ _ _ n;show Leaves P fn a.tmps _ a.defers (.panicking _) w;rw[hd];exact zkO S i c4 c2 A hg d t (@Fits.get ⟨_⟩ _ _ _ _ n) hV (rv:=u) hp.2 (λp=>AV.ok_mono (λ_ h=>h.elim) hp.1) (u2 :=.panicking [{v:=u,recovered:=true}]) (.inr ⟨rfl,rfl⟩) rfl je
   |goto l=>exact o.elim
   |outgrown=>exact o.elim
end
section
variable {P:Program}{w0:Start}{σ0 Z:FS}{PV:List Priv}{w:World}
variable {L:List (Nat×Value)}{bb:Nat->Value}{mt kt et:TypeId}{ty:TypeId}{ps:String}{af:Array Edge}{d:Nat}
theorem zmN:(execOp (opv L bb) ⟨E d,.makeMap mt H,ty,ps,af,H⟩).run P w = .ok (.value (.map (E w.heap.size))) (w.alloc (.map #[] 0)):=by
 simp[execOp,Instr.makeMap,Y]
theorem zgp {es:Array MapEntry}{a:Nat}(f:P.underlying mt=E (.map kt et)) (c:P.underlying kt=E .string) (e:opv L bb x = .map (E r)) (hb:w.heap[r]?=E (.map es a)) (b:Instr.findNow .string (.string k1) es.toList 0=E H) :
    (execOp (opv L bb) ⟨H,.insert mt x (.const (.string k1)) (.const v1),ty,ps,af,H⟩).run P w = .ok .skip {w with heap:=w.heap.setIfInBounds r (.map (es.push {key :=.string k1,val:=v1,born:=a}) (a+1))}:=by
 have g:opv L bb (.const (.string k1)) = .string k1:=rfl;have i:opv L bb (.const v1)=v1:=rfl;have h1:=Dx (P:=P) hb;have h2:=MapKept.run_checkKey (P:=P) (w:=w) c (k :=.string k1) trivial M 9999;have h:=MapKept.run_findKey (P:=P) (w:=w) c b;have d:=MapKept.run_setObj_map (P:=P) (.map (es.push {key :=.string k1,val:=v1,born:=a}) (a+1)) hb;simp[execOp,Instr.mapUpdate,e,g,i,UO f,h1,h2,h,d,Y]
theorem zkP {es:Array MapEntry}{a:Nat}(c:P.underlying mt=E (.map kt et)) (b:opv L bb x = .map (E r)) (hb:w.heap[r]?=E (.map es a)) :
    (execOp (opv L bb) ⟨E d,.range mt x,ty,ps,af,H⟩).run P w = .ok (.value (.pointer (E ⟨w.heap.size,0,H⟩))) (w.alloc (.mapIter (E r) a #[] a)):=by
 simp[execOp,Instr.range,b,UO c,Dx hb,Y]
theorem yU{m:Uv Nat}{s:Nat}{c:Nat}(hb:w.heap[r]?=E (.mapIter m s seen c)):(getObj r).run P w = .ok (.mapIter m s seen c) w:=by
 simp[getObj,Sem.run,hb]
theorem Xo{m:Uv Nat}{s:Nat}{c:Nat}(o:Obj)(hb:w.heap[r]?=E (.mapIter m s seen c)):(setObj r o).run P w = .ok () {w with heap:=w.heap.setIfInBounds r o}:=by
 simp[setObj,Sem.run,hb]
def Xm(k1 k2:ByteArray)(v1 v2:Value):Array MapEntry:= #[{key :=.string k1,val:=v1,born:=0},{key :=.string k2,val:=v2,born:=1}]
theorem zrp {R I:Nat}{s:Uv Unit}(hx:opv L bb x = .pointer (E ⟨I,0,H⟩)) (hI:w.heap[I]?=E (.mapIter (E R) 2 #[] 2)) (hR:w.heap[R]?=E (.map (Xm k1 k2 v1 v2) 2)) :
    let r:=(execOp (opv L bb) ⟨E d,.next x M,ty,ps,af,H⟩).run P w
    r = .ok (.value (.tuple #[.bool O,.string k1,v1])) {w.drew with heap:=w.drew.heap.setIfInBounds I (.mapIter (E R) 2 #[0] 2)}\/r = .ok (.value (.tuple #[.bool O,.string k2,v2])) {w.drew with heap:=w.drew.heap.setIfInBounds I (.mapIter (E R) 2 #[1] 2)}:=by
 intro r;have hI2:w.drew.heap[I]?=E (.mapIter (E R) 2 #[] 2):=hI;have h2:w.tape w.drawn (.mapNext 2) % 2=0\/w.tape w.drawn (.mapNext 2) % 2=1:=by omega
 rcases h2 with h2 | h2
 ·left;show(execOp (opv L bb) _).run P w=_;simp[execOp,Instr.next,hx,yU hI,Dx hR,Xo _ hI2,Y,Xm,qc,qv,h2]
 ·right;show(execOp (opv L bb) _).run P w=_;simp[execOp,Instr.next,hx,yU hI,Dx hR,Xo _ hI2,Y,Xm,qc,qv,h2]
theorem zrq {R I:Nat}(b:opv L bb x = .pointer (E ⟨I,0,H⟩)) (a:w.heap[I]?=E (.mapIter (E R) 2 #[0] 2)) (c:w.heap[R]?=E (.map (Xm k1 k2 v1 v2) 2)) :
    (execOp (opv L bb) ⟨E d,.next x M,ty,ps,af,H⟩).run P w = .ok (.value (.tuple #[.bool O,.string k2,v2])) {w with heap:=w.heap.setIfInBounds I (.mapIter (E R) 2 #[0,1] 2)}:=by
 simp[execOp,Instr.next,b,yU a,Dx c,Xo _ a,Y,Xm,qc];rw[jx (λh=>by have:=h 0 Zd;simp at this)]
theorem zoA {R I:Nat}(b:opv L bb x = .pointer (E ⟨I,0,H⟩)) (a:w.heap[I]?=E (.mapIter (E R) 2 #[1] 2)) (c:w.heap[R]?=E (.map (Xm k1 k2 v1 v2) 2)) :
    (execOp (opv L bb) ⟨E d,.next x M,ty,ps,af,H⟩).run P w = .ok (.value (.tuple #[.bool O,.string k1,v1])) {w with heap:=w.heap.setIfInBounds I (.mapIter (E R) 2 #[1,0] 2)}:=by
 simp[execOp,Instr.next,b,yU a,Dx c,Xo _ a,Y,Xm,qc];rw[jx (λh=>by have:=h 0 Zd;simp at this)]
theorem zrr {R I:Nat}(hs:seen = #[0,1]\/seen = #[1,0]) (a:opv L bb x = .pointer (E ⟨I,0,H⟩)) (c:w.heap[I]?=E (.mapIter (E R) 2 seen 2)) (b:w.heap[R]?=E (.map (Xm k1 k2 v1 v2) 2)) :
    (execOp (opv L bb) ⟨E d,.next x M,ty,ps,af,H⟩).run P w = .ok (.value (.tuple #[.bool M])) w:=by
 rcases hs with rfl | rfl<;>
 (simp[execOp,Instr.next,a,yU c,Dx b,Y,Xm,qc];rw[jx (λh=>by have:=h 0 Zd;simp at this)])
theorem ziB {R I:Nat}(a:opv L bb x = .pointer (E ⟨I,0,H⟩)) (c:w.heap[I]?=E (.mapIter (E R) 2 seen 2)) (b:w.heap[R]?=E (.map (Xm k1 k2 v1 v2) 2)) :
    (seen.back?=E 0->(execOp (opv L bb) ⟨E d,.entry x,ty,ps,af,H⟩).run P w = .ok (.value (.tuple #[.string k1,v1])) w)/\(seen.back?=E 1->(execOp (opv L bb) ⟨E d,.entry x,ty,ps,af,H⟩).run P w = .ok (.value (.tuple #[.string k2,v2])) w):=by
 refine⟨λh=>?_,λh=>?_⟩<;>
 simp[execOp,Instr.entry,a,yU c,h,Dx b,Y,Xm]
end
structure MapM where
 mt:TypeId
 kt:TypeId
 r:Nat
 s:Nat
 it:Nat
 x:Nat
 y:Nat
 b:Nat
 b2:Nat
 k1:ByteArray
 k2:ByteArray
 v1:Value
 v2:Value
 ops1:Array Oper
 ops2:Array Oper
 l1:List Oper
 l2:List Oper
 cnd:Code
 rest:Code
def mapM(P:Program):Code->Uv MapM
 | .seq (.region _ ops M) (.block b (.loop (.seq (.region _ c M) (.seq e (.block b2 (.seq (.region _ a M) d))))))=>
  (match ops.toList,c.toList,a.toList with
  |[⟨E r,.makeMap mt H,_,_,_,H⟩,⟨H,.insert mt1 (.tmp r1) (.const (.string k1)) (.const v1),_,_,_,H⟩,⟨H,.insert mt2 (.tmp r2) (.const (.string k2)) (.const v2),_,_,_,H⟩,⟨E s,.move (.tmp r3),_,_,_,H⟩,⟨E it,.range mt3 (.tmp s1),_,_,_,H⟩],
   ⟨E x,.next (.tmp i1) M,_,_,_,H⟩::l1,⟨E y,.entry (.tmp i2),_,_,_,H⟩::l2=>
   (match P.underlying mt with
   |some (.map kt _)=>(match P.underlying kt with
    |some .string=>chk (N mt1 mt && (N mt2 mt && (N mt3 mt && (N r1 r && (N r2 r && (N r3 r && (N s1 s && (N i1 it && (N i2 it && !(k2 == k1)))))))))) (E ⟨mt,kt,r,s,it,x,y,b,b2,k1,k2,v1,v2,c,a,l1,l2,e,d⟩)
    |_=>H)
   |_=>H)
  |_,_,_=>H)
 |_=>H
theorem zwL {P:Program}{m:MapM}(h:mapM P c=E m):∃id id1 id2 ops et,c = .seq (.region id ops M) (.block m.b (.loop (.seq (.region id1 m.ops1 M) (.seq m.cnd (.block m.b2 (.seq (.region id2 m.ops2 M) m.rest))))))/\
    P.underlying m.mt=E (.map m.kt et)/\P.underlying m.kt=E .string/\(m.k2 == m.k1)=M/\
    (∃B D p j f n C u d i z o A e g,ops.toList=[⟨E m.r,.makeMap m.mt H,B,D,p,H⟩,⟨H,.insert m.mt (.tmp m.r) (.const (.string m.k1)) (.const m.v1),j,f,n,H⟩,⟨H,.insert m.mt (.tmp m.r) (.const (.string m.k2)) (.const m.v2),C,u,d,H⟩,⟨E m.s,.move (.tmp m.r),i,z,o,H⟩,⟨E m.it,.range m.mt (.tmp m.s),A,e,g,H⟩])/\
    (∃ty ps af,m.ops1.toList=⟨E m.x,.next (.tmp m.it) M,ty,ps,af,H⟩::m.l1)/\∃ty ps af,m.ops2.toList=⟨E m.y,.entry (.tmp m.it),ty,ps,af,H⟩::m.l2:=by
 unfold mapM at h;split at h
 case h_2=>cases h
 split at h
 case h_2=>cases h
 rename_i I G K;split at h
 case h_2=>cases h
 rename_i kt et v;split at h
 case h_2=>cases h
 rename_i w;let⟨F,h⟩:=zb h;simp only[gf,Do] at F;let⟨l,a2,a3,a4,a5,q,k,a,a9,t⟩:=F;have l:=ge l;have a2:=ge a2;have a3:=ge a3;have a4:=ge a4;have a5:=ge a5;have q:=ge q;have k:=ge k;have a:=ge a;have a9:=ge a9;cases h;subst l;subst a2;subst a3;subst a4;subst a5;subst q;subst k;subst a;subst a9;exact⟨_,_,_,_,et,rfl,v,w,t,⟨_,_,_,_,_,_,_,_,_,_,_,_,_,_,_,I⟩,⟨_,_,_,G⟩,⟨_,_,_,K⟩⟩
section
variable {C:Cod}{P:Program}{ρ:Type}
def zhE(a j:Nat)(S:St C):Bool:=(match S.env a with
 | .pc j' 0=>N j' j
 |_=>M) && (S.heap j).isSome
section
variable (stp:yQ C)(dr:YC C)(lp:ZX)(n:Nat)(hs:Nat->Uv Hint)(mm nc nr:Nat)(m:MapM)(j:Nat)
def Vr(S:St C)(nx:AV C.D)(K:XE C->St C->Uv ρ):Uv ρ:=
 chk (zhE m.it j S && U m.x n) (ZK stp n m.ops1 m.l1 (S.put m.x nx) λe S'=>match e with
  | .normal=>ZD stp dr lp n mm hs m.cnd nc _ S' K
  |_=>H)
def zhF(k:ByteArray)(v:Value)(K:XE C->St C->Uv ρ)(S1:St C):Uv ρ:=
 chk (zhE m.it j S1 && U m.y n) (ZK stp n m.ops2 m.l2 (S1.put m.y (.tup [.str k,ZZ v])) λe S2=>match e with
  | .normal=>ZD stp dr lp n mm hs m.rest nr _ S2 λe a=>match e with
   | .exit i=>bif N i m.b2 then K .normal a else bif N i m.b then H else K (.exit i) a
   |e=>K e a
  |_=>H)
def mapIter(S:St C)(k:ByteArray)(v:Value)(K:XE C->St C->Uv ρ):Uv ρ:=
 Vr stp dr lp n hs mm nc m j S (.tup [.bool O,.str k,ZZ v]) λe S1=>match e with
  | .normal=>zhF stp dr lp n hs mm nr m j k v K S1
  |_=>H
def WV(K:XE C->St C->Uv ρ)(S:St C):Uv ρ:=
 Vr stp dr lp n hs mm nc m j S (.tup [.bool M]) λe S'=>match e with
  | .exit i=>bif N i m.b then K .normal S' else H
  |_=>H
def zca(f:St C->Uv ρ)(K:XE C->St C->Uv ρ):XE C->St C->Uv ρ:=λe S=>match e with
 | .normal=>f S
 |e=>K e S
noncomputable def zhG(K:XE C->St C->Uv ρ)(S:St C):Uv ρ:=
 Yf (mapIter stp dr lp n hs mm nc nr m j S m.k1 m.v1 (zca (λS=>mapIter stp dr lp n hs mm nc nr m j S m.k2 m.v2 (zca (WV stp dr lp n hs mm nc m j K) K)) K))
  (mapIter stp dr lp n hs mm nc nr m j S m.k2 m.v2 (zca (λS=>mapIter stp dr lp n hs mm nc nr m j S m.k1 m.v1 (zca (WV stp dr lp n hs mm nc m j K) K)) K))
end
def zkQ(m:MapM)(S:St C):St C:=
 {env:=upd (upd (upd S.env m.r .und) m.s .und) m.it (.pc (nid m.it 0) 0),heap:=upd S.heap (nid m.it 0) (E (.cell []))}
noncomputable def zhH(stp:yQ C)(dr:YC C)(lp:ZX)(n:Nat)(hs:Nat->Uv Hint)(mm:Nat)(m:MapM)(i:Nat)(S:St C)(K:XE C->St C->Uv ρ):Uv ρ:=match hs i,hs (i+1) with
 |some (.cut outs),E (.loop g _)=>chk (isNone (S.heap (nid m.it 0)) && (U m.r n && (U m.s n && (U m.it n && (W mm (nid m.it 0) && (W g.es.length 64 && (W mm g.es.length && (g.es.take mm).all λe=> !e.isGone)))))))
     ((g.close mm (zkQ m S)).bind λa=>(match(g.open a).env m.it with
       | .pc j 0=>chk (U j g.es.length) ((zhG stp dr lp n hs g.es.length (i+7) (i+7+xS m.cnd+3) m j (λe S'=>zU mm outs e S') (g.open a)).bind λy=>zT outs y K)
       |_=>H))
 |_,_=>H
section
variable [Dfr]{κ:Kp}{S:St C}{n:Nat}{w0:Start}{σ0:FS}{a:Act}{w:World}
def AtM(n:Nat)(w0:Start)(σ0:FS)(κ:Kp)(R I:Nat)(om oi:Obj)(S:St C)(a:Act)(w:World):Prop:=∃L b Z PV,zD κ S L b Z PV/\Inv w0 σ0 Z (PV++[.obj R om,.obj I oi]) w/\Fits n L b a
def zAI(n:Nat)(w0:Start)(σ0:FS)(κ:Kp)(R I:Nat)(om oi:Obj)(v:AV C.D)(S:St C)(c:List PanicEntry)(a:Act)(w:World):Prop:=∃u L b Z PV,c=[{v:=u,recovered:=false}]/\Xx C Z u v/\zD κ S L b Z PV/\Inv w0 σ0 Z (PV++[.obj R om,.obj I oi]) w/\Fits n L b a
def XV(n:Nat)(w0:Start)(σ0:FS)(κ:Kp)(R I:Nat)(om oi:Obj)(S:St C)(e:XE C)(x:Exit)(a:Act)(w:World):Prop:=match e,x with
 | .normal,.normal=>AtM n w0 σ0 κ R I om oi S a w
 | .exit i,.exit j=>i=j/\AtM n w0 σ0 κ R I om oi S a w
 | .ret,.ret=>AtM n w0 σ0 κ R I om oi S a w
 | .pan v,.panic b=>zAI n w0 σ0 κ R I om oi v S b a w
 |_,_=>False
theorem Zj.rel{K:XE C->St C->Uv ρ}{r:ρ}{x:Exit}(h:Zj n w0 σ0 κ K r x a w):∃e S',K e S'=E r/\zfr n w0 σ0 κ S' e x a w:=by
 cases x with
 |normal=>let⟨S',h1,h2⟩:=h;exact⟨.normal,S',h1,h2⟩
 |exit i=>let⟨S',h1,h2⟩:=h;exact⟨.exit i,S',h1,rfl,h2⟩
 |ret=>let⟨S',h1,h2⟩:=h;exact⟨.ret,S',h1,h2⟩
 |panic b=>let⟨v,S',h1,h2⟩:=h;exact⟨.pan v,S',h1,h2⟩
 |goto l=>exact h.elim
 |outgrown=>exact h.elim
theorem AtM.frame{R I:Nat}{om oi:Obj}(q:C.gl w0.w σ0)(h:AtM n w0 σ0 κ R I om oi S a w):∃i Z,C.gl w Z/\At n ⟨w,i⟩ Z κ S a w/\∀{S':St C}{e x a' w'},zfr n ⟨w,i⟩ Z κ S' e x a' w'->XV n w0 σ0 κ R I om oi S' e x a' w':=by
 let⟨L,b,Z,PV,hA,hi,y⟩:=h;let⟨A,k,l⟩:=hi.own;let⟨i,z,s1,v,m,l2,t⟩:=k.split;have p:Inv ⟨w,i⟩ Z Z PV w:=Inv.start hi.sub s1 (l.sub.mono m) (l.mono m).apart;refine⟨i,Z,C.glm hi.le hi.ext q,⟨L,b,Z,PV,hA,p,y⟩,?_⟩;have key:∀{S':St C} {a' w'},At n ⟨w,i⟩ Z κ S' a' w'->AtM n w0 σ0 κ R I om oi S' a' w':=by
  rintro S' a' w' ⟨r,s,o,c,f,d,g⟩;exact⟨r,s,o,c,f,hi.call l v m l2 t d,g⟩
 intro S' e x a' w' j;unfold zfr at j;unfold XV;split at j
 ·exact key j
 ·grind
 ·exact key j
 ·let⟨u,r,s,o,c,h1,h2,f,d,g⟩:=j;exact⟨u,r,s,o,c,h1,h2,f,hi.call l v m l2 t d,g⟩
 grind
theorem zu6 {R I:Nat}{om oi:Obj}(f:C.gl w0.w σ0) {stp:yQ C}(d:xP P n κ stp) {ops:Array Oper}{l:List Oper}{K:XE C->St C->Uv ρ}{r:ρ}(h:ZK stp n ops l S K=E r) (hA:AtM n w0 σ0 κ R I om oi S a w) :
    wpList P ops (λx a w=>∃e S',K e S'=E r/\XV n w0 σ0 κ R I om oi S' e x a w) l a w:=by
 let⟨k,Z,i,g,b⟩:=hA.frame f;have:=xa (l2:=[]) (Q':=λx a w=>∃e S',K e S'=E r/\XV n w0 σ0 κ R I om oi S' e x a w) (λa w c=>?_) (λj a w c=>?_) (λa w c=>?_) l (YU i d l h g)
 ·grind
 ·let⟨e,S',h1,h2⟩:=c.rel;exact⟨e,S',h1,b h2⟩
 ·let⟨e,S',h1,h2⟩:=c.rel;grind
 ·exact c.elim
theorem zrs {R I:Nat}{om oi:Obj}(d:C.gl w0.w σ0) {stp:yQ C}{dr:YC C}{lp:ZX}{hs:Nat->Uv Hint}(b:xP P n κ stp) (hdr:vM P n κ dr) (f:xv lp) {i:Nat}{K:XE C->St C->Uv ρ}{r:ρ}(h:ZD stp dr lp n κ.m hs c i _ S K=E r) (hA:AtM n w0 σ0 κ R I om oi S a w) :
    c.wp P (λx a w=>∃e S',K e S'=E r/\XV n w0 σ0 κ R I om oi S' e x a w) a w:=by
 let⟨o,Z,l,j,g⟩:=hA.frame d;refine wp_mono (yS l b hdr f c i _ _ _ _ h _ _ j) λx a w k=>?_
 let⟨e,S',h1,h2⟩:=k.rel;grind
theorem AtM.put{R I:Nat}{om oi:Obj}(h:AtM n w0 σ0 κ R I om oi S a w){d:Nat}{A:AV C.D}(hd:U d n=O)(f:∀Z ν,VR C Z ν v A)(c:∀p:Nat->Prop,A.ok p):AtM n w0 σ0 κ R I om oi (S.put d A) (a.put (E d) v) w:=by
 let⟨L,b,Z,PV,⟨ν,vs,ids,hA⟩,hi,e⟩:=h;exact⟨_,b,Z,PV,⟨ν,vs,ids,hA.put (f _ _) (c _)⟩,hi,e.put (by simpa[UT] using hd) _⟩
theorem AtM.obj{R I:Nat}{om oi:Obj}(h:AtM n w0 σ0 κ R I om oi S a w):w.heap[R]?=E om/\w.heap[I]?=E oi:=by
 let⟨L,b,Z,PV,_,hi,_⟩:=h;exact⟨hi.objAt (m:=PV.length) jE,hi.objAt (m:=PV.length+1) jE⟩
theorem AtM.setI{R I:Nat}{om oi c:Obj}(f:xr oi=M)(d:xr c=M)(h:AtM n w0 σ0 κ R I om oi S a w):AtM n w0 σ0 κ R I om c S a {w with heap:=w.heap.setIfInBounds I c }:=by
 let⟨L,b,Z,PV,hA,hi,e⟩:=h;have:=hi.setObj (r:=I) (o:=oi) (o':=c) (m:=PV.length+1) f d jE;rw[List.set_append_right _ _ Zd] at this;exact⟨L,b,Z,PV,hA,by simpa using this,e⟩
theorem AtM.drew{R I:Nat}{om oi:Obj}(h:AtM n w0 σ0 κ R I om oi S a w):AtM n w0 σ0 κ R I om oi S a w.drew:=by
 let⟨L,b,Z,PV,hA,hi,c⟩:=h;exact⟨L,b,Z,PV,hA,hi.drew,c⟩
theorem AtM.iter{R I:Nat}{om oi:Obj}(h:AtM n w0 σ0 κ R I om oi S a w){d j:Nat}(i:j < κ.m)(hit:zhE d j S=O)(k:(κ.ν0.adr j).a=⟨I,0,H⟩):∃L b,a.eval=opv L b/\opv L b (.tmp d) = .pointer (E ⟨I,0,H⟩):=by
 let⟨L,b,Z,PV,⟨ν,vs,ids,hA⟩,hi,g⟩:=h;refine⟨L,b,g.eval,?_⟩;unfold zhE at hit;simp only[gf] at hit;have c:=hA.env d;split at hit
 ·rename_i f e;have:=ge hit.1;subst this;rw[e] at c;have c:look L b d = .pointer (E ((ν.adr f).a.add 0)):=c;rw[(hA.keep f i hit.2).2.1,k] at c;exact c
 ·cases hit.1
theorem XV.normal{R I:Nat}{om oi:Obj}{S':St C}{e:XE C}(h:XV n w0 σ0 κ R I om oi S' e .normal a w):e = .normal/\AtM n w0 σ0 κ R I om oi S' a w:=by
 cases e<;>first | exact h.elim | exact⟨rfl,h⟩
section
variable {stp:yQ C}{dr:YC C}{lp:ZX}{hs:Nat->Uv Hint}{R I:Nat}{om oi:Obj}{Q:Exit->Act->World->Prop}{y:ρ}{m:MapM}{nc nr j:Nat}
theorem znf (f:C.gl w0.w σ0) (b:xP P n κ stp) (hdr:vM P n κ dr) (g:xv lp) {nx:AV C.D}{K:XE C->St C->Uv ρ}{c:Code}(h:(ZK stp n m.ops1 m.l1 (S.put m.x nx) λe S'=>match e with
    | .normal=>ZD stp dr lp n κ.m hs m.cnd nc _ S' K
    |_=>H)=E y) (hA:AtM n w0 σ0 κ R I om oi (S.put m.x nx) a w)
    (k:∀e S' x a w,K e S'=E y->XV n w0 σ0 κ R I om oi S' e x a w->Exit.then (c.wp P Q) Q x a w):wpList P m.ops1 (Exit.then ((qb m.cnd c).wp P Q) Q) m.l1 a w:=by
 have i:=zu6 f b h hA;have:=xa (l2:=[]) (Q':=Exit.then ((qb m.cnd c).wp P Q) Q) (λa w d=>?_) (λj a w d=>?_) (λa w d=>?_) m.l1 i
 ·grind
 ·let⟨e,S',h1,h2⟩:=d;obtain⟨rfl,h2⟩:=h2.normal;refine wp_seq (wp_mono (zrs f b hdr g h1 h2) λx a w d=>?_);grind
 ·let⟨e,S',h1,h2⟩:=d;cases e<;>first | exact h2.elim | cases h1
 ·let⟨e,S',h1,h2⟩:=d;cases e<;>exact h2.elim
theorem zwM (q:C.gl w0.w σ0) (c:xP P n κ stp) (hdr:vM P n κ dr) (F:xv lp) (V:j < κ.m) (hI:(κ.ν0.adr j).a=⟨I,0,H⟩) {ty:TypeId}{ps:String}{af:Array Edge}(l:m.ops2.toList=⟨E m.y,.entry (.tmp m.it),ty,ps,af,H⟩::m.l2) {k:ByteArray}{K:XE C->St C->Uv ρ}
    (o:∀(L:List (Nat×Value)) (b:Nat->Value) w,w.heap[R]?=E om->w.heap[I]?=E oi->opv L b (.tmp m.it) = .pointer (E ⟨I,0,H⟩)->(execOp (opv L b) ⟨E m.y,.entry (.tmp m.it),ty,ps,af,H⟩).run P w = .ok (.value (.tuple #[.string k,v])) w)
    (h:zhF stp dr lp n hs κ.m nr m j k v K S=E y) (hA:AtM n w0 σ0 κ R I om oi S a w) (r:∀e S' x a w,K e S'=E y->XV n w0 σ0 κ R I om oi S' e x a w->(∀i,x = .exit i->i≠m.b)->Q x a w) :
    (Code.block m.b2 (.seq (.region id2 m.ops2 M) m.rest)).wp P Q a w:=by
 unfold zhF at h;let⟨G,h⟩:=zb h;simp only[gf] at G;refine wp_block (wp_seq (wp_region_list ?_));rw[l];refine wpList_plain rfl λKw s=>?_
 let⟨L,b,z,g⟩:=hA.iter V G.1 hI;let⟨t,D⟩:=hA.obj;unfold X;rw[z,o L b w t D g];show Kw _ w;refine s _ _ ?_;have B:=hA.put (A :=.tup [.str k,ZZ v]) (v :=.tuple #[.string k,v]) G.2 (λZ ν=>⟨[.string k,v],rfl,Rv.str,zbG v,trivial⟩) (λp=>⟨trivial,(YT [v]).1,trivial⟩);have T:=zu6 q c h B;have:=xa (l2:=[]) (Q':=Exit.then (m.rest.wp P (qs m.b2 Q)) (qs m.b2 Q)) (λa w d=>?_) (λch a w d=>?_) (λa w d=>?_) m.l2 T
 ·grind
 · let⟨e,S',h1,h2⟩:=d;obtain⟨rfl,h2⟩:=h2.normal;refine wp_mono (zrs q c hdr F h1 h2) λx a w d=>?_
   let⟨e,S',h1,h2⟩:=d;cases e with
   |normal=>cases x<;>first | exact h2.elim | exact r .normal S' .normal a w h1 h2 (λi e=>by cases e)
   |ret=>cases x<;>first | exact h2.elim | exact r .ret S' .ret a w h1 h2 (λi e=>by cases e)
   |pan u=>cases x<;>first | exact h2.elim | exact r (.pan u) S' (.panic _) a w h1 h2 (λi e=>by cases e)
   |exit i=>
    cases x<;>first | exact h2.elim | skip
    rename_i i';obtain⟨rfl,h2⟩:=h2;have h1:(bif N i m.b2 then K .normal S' else bif N i m.b then H else K (.exit i) S')=E y:=h1;show if i=m.b2 then _ else _
    cases hb:N i m.b2 with
    |true=>rw[hb] at h1;rw[jv (ge hb)];exact r .normal S' .normal a w h1 h2 (λi e=>by cases e)
    |false=>
     rw[hb] at h1;rw[jx (λe=>by rw[e] at hb;simp at hb)];cases f:N i m.b with
     |true=>grind
     |false=>
      rw[f] at h1;exact r (.exit i) S' (.exit i) a w h1 ⟨rfl,h2⟩ λi' e=>by cases e;intro e;rw[e] at f;simp at f
 ·let⟨e,S',h1,h2⟩:=d;cases e<;>first | exact h2.elim | cases h1
 ·let⟨e,S',h1,h2⟩:=d;cases e<;>exact h2.elim
theorem zwN (l:C.gl w0.w σ0) (c:xP P n κ stp) (hdr:vM P n κ dr) (q:xv lp) (F:j < κ.m) (G:(κ.ν0.adr j).a=⟨I,0,H⟩) {id1:Nat}{ty r:TypeId}{ps o:String}{af s:Array Edge}(B:m.ops1.toList=⟨E m.x,.next (.tmp m.it) M,ty,ps,af,H⟩::m.l1) (d:m.ops2.toList=⟨E m.y,.entry (.tmp m.it),r,o,s,H⟩::m.l2)
    {k:ByteArray} {v:Value} {K:XE C->St C->Uv ρ} {f:Obj} {w':World}
    (g:∀(L:List (Nat×Value)) (b:Nat->Value) w,w.heap[R]?=E om->w.heap[I]?=E f->opv L b (.tmp m.it) = .pointer (E ⟨I,0,H⟩)->(execOp (opv L b) ⟨E m.y,.entry (.tmp m.it),r,o,s,H⟩).run P w = .ok (.value (.tuple #[.string k,v])) w)
    (h:mapIter stp dr lp n hs κ.m nc nr m j S k v K=E y) (z:AtM n w0 σ0 κ R I om f S a w')
    (T:∀e S' x a w,K e S'=E y->XV n w0 σ0 κ R I om f S' e x a w->(∀i,x = .exit i->i≠m.b)->Q x a w) :
    wpList P m.ops1 (Exit.then ((qb m.cnd (.block m.b2 (.seq (.region id2 m.ops2 M) m.rest))).wp P Q) Q) m.l1 (a.put (E m.x) (.tuple #[.bool O,.string k,v])) w':=by
 unfold mapIter Vr at h;let⟨D,h⟩:=zb h;simp only[gf] at D;have t:=z.put (A :=.tup [.bool O,.str k,ZZ v]) (v :=.tuple #[.bool O,.string k,v]) D.2 (λZ ν=>⟨[.bool O,.string k,v],rfl,Rv.bool,Rv.str,zbG v,trivial⟩) (λp=>⟨trivial,trivial,(YT [v]).1,trivial⟩);refine znf l c hdr q h t λe S' x a w h1 h2=>?_
 cases e with
 |normal=>
  cases x<;>first | exact h2.elim | skip
  exact zwM l c hdr q F G d g h1 h2 T
 |ret=>cases h1
 |exit i=>cases h1
 |pan u=>cases h1
theorem zwO (d:C.gl w0.w σ0) (c:xP P n κ stp) (hdr:vM P n κ dr) (f:xv lp) {k:Code}{K:XE C->St C->Uv ρ}(h:WV stp dr lp n hs κ.m nc m j K S=E y) (hA:AtM n w0 σ0 κ R I om oi S a w)
    (q:∀S' a w,K .normal S'=E y->AtM n w0 σ0 κ R I om oi S' a w->Q (.exit m.b) a w) :
    wpList P m.ops1 (Exit.then ((qb m.cnd k).wp P Q) Q) m.l1 (a.put (E m.x) (.tuple #[.bool M])) w:=by
 unfold WV Vr at h;let⟨l,h⟩:=zb h;simp only[gf] at l;have g:=hA.put (A :=.tup [.bool M]) (v :=.tuple #[.bool M]) l.2 (λZ ν=>⟨[.bool M],rfl,Rv.bool,trivial⟩) (λp=>⟨trivial,trivial⟩);refine znf d c hdr f h g λe S' x a w h1 h2=>?_
 cases e with
 |exit i=>
  cases x<;>first | exact h2.elim | skip
  obtain⟨rfl,h2⟩:=h2;have o:(bif N i m.b then K .normal S' else H)=E y:=h1;clear h1;cases hb:N i m.b with
  |false=>grind
  |true=>
   rw[hb,Dq] at o;have:=ge hb;subst this;exact q S' a w o h2
 |normal=>cases h1
 |ret=>cases h1
 |pan u=>cases h1
end
end
end
section
variable {C:Cod}{P:Program}{ρ:Type}[Dfr]{κ:Kp}{S:St C}{n:Nat}{w0:Start}{σ0:FS}{a:Act}{w:World}
variable {stp:yQ C}{dr:YC C}{lp:ZX}{hs:Nat->Uv Hint}{R I:Nat}{Q:Exit->Act->World->Prop}{y:ρ}{m:MapM}{nc nr j:Nat}
theorem zkR{L:List (Nat×Value)}(c:Fits n L b a){next:Act->World->Prop}{Q:Exit->Act->World->Prop}{w':World}(h:(execOp (opv L b) o).run P w = .ok (.value v) w')(k:next (a.put o.dst v) w'):o.upon P a next Q ((execOp a.eval o).run P w):=by rw[c.eval,h];exact k
theorem zkS{L:List (Nat×Value)}(c:Fits n L b a){next:Act->World->Prop}{Q:Exit->Act->World->Prop}{w':World}(h:(execOp (opv L b) o).run P w = .ok .skip w')(k:next (a.put o.dst undef) w'):o.upon P a next Q ((execOp a.eval o).run P w):=by rw[c.eval,h];exact k
theorem zcb{k:ByteArray}{mm:Nat}{K:XE C->St C->Uv ρ}(h:mapIter stp dr lp n hs mm nc nr m j S k v K=E y):zhE m.it j S=true:=by
 unfold mapIter Vr at h;let⟨a,h⟩:=zb h;grind
theorem zoB{mm:Nat}{K:XE C->St C->Uv ρ}(h:WV stp dr lp n hs mm nc m j K S=E y):zhE m.it j S=true:=by
 unfold WV Vr at h;let⟨a,h⟩:=zb h;grind
theorem zwP (hgl:C.gl w0.w σ0) (hstp:xP P n κ stp) (hdr:vM P n κ dr) (hlp:xv lp) (hj:j < κ.m) (hI:(κ.ν0.adr j).a=⟨I,0,H⟩) {id1:Nat}{ty ty2:TypeId}{ps ps2:String}{af af2:Array Edge}(hops:m.ops1.toList=⟨E m.x,.next (.tmp m.it) M,ty,ps,af,H⟩::m.l1) (hops2:m.ops2.toList=⟨E m.y,.entry (.tmp m.it),ty2,ps2,af2,H⟩::m.l2)
    {K:XE C->St C->Uv ρ} (h:zhG stp dr lp n hs κ.m nc nr m j K S=E y) (hA:AtM n w0 σ0 κ R I (.map (Xm m.k1 m.k2 m.v1 m.v2) 2) (.mapIter (E R) 2 #[] 2) S a w)
    (hK:∀e S' x a w seen,K e S'=E y->XV n w0 σ0 κ R I (.map (Xm m.k1 m.k2 m.v1 m.v2) 2) (.mapIter (E R) 2 seen 2) S' e x a w->(∀i,x = .exit i->i≠m.b)->Q x a w) :
    (Code.loop (.seq (.region id1 m.ops1 M) (.seq m.cnd (.block m.b2 (.seq (.region id2 m.ops2 M) m.rest))))).wp P (qs m.b Q) a w:=by
 let om:Obj :=.map (Xm m.k1 m.k2 m.v1 m.v2) 2
 let oi:Array Nat->Obj:=λs =>.mapIter (E R) 2 s 2
 let G2:=WV stp dr lp n hs κ.m nc m j K
 let Iv:Act->World->Prop:=λa w=>(∃S,zhG stp dr lp n hs κ.m nc nr m j K S=E y/\AtM n w0 σ0 κ R I om (oi #[]) S a w)\/
  (∃S,mapIter stp dr lp n hs κ.m nc nr m j S m.k2 m.v2 (zca G2 K)=E y/\AtM n w0 σ0 κ R I om (oi #[0]) S a w)\/
  (∃S,mapIter stp dr lp n hs κ.m nc nr m j S m.k1 m.v1 (zca G2 K)=E y/\AtM n w0 σ0 κ R I om (oi #[1]) S a w)\/
  (∃S s,(s = #[0,1]\/s = #[1,0])/\G2 S=E y/\AtM n w0 σ0 κ R I om (oi s) S a w)
 let μ:Act->World->Nat:=λ_ w=>match w.heap[I]? with
  |some (.mapIter _ _ s _)=>2 - s.size
  |_=>0
 have hμ:∀{S:St C} {a w s},AtM n w0 σ0 κ R I om (oi s) S a w->μ a w=2 - s.size:=λ{S a w s} hA=>by
  show(match w.heap[I]? with | some (.mapIter _ _ s _)=>2 - s.size | _=>0)=_;rw[hA.obj.2]
 have other:∀{e:XE C} {S':St C} {x a w s},e ≠.normal->K e S'=E y->XV n w0 σ0 κ R I om (oi s) S' e x a w->(∀i,x = .exit i->i≠m.b)->∀{T:Act->World->Prop},Exit.then T (qs m.b Q) x a w:=by
  intro e S' x a w s hne h1 h2 h3 T;have hq:=hK e S' x a w s h1 h2 h3;cases x with
  |normal=>exact absurd h2.normal.1 hne
  |exit i=>
   show if i=m.b then _ else _
   grind
  |_=>exact hq
 refine wp_loop Iv μ (.inl ⟨S,h,hA⟩) λa w hI0=>wp_seq (wp_region_list ?_)
 rw[hops];refine wpList_plain rfl λKw hKw=>?_
 unfold X
 have round:∀{S:St C} {k:ByteArray} {v:Value} {s:Array Nat} {w':World} {G:St C->Uv ρ},(∀L b w,w.heap[R]?=E om->w.heap[I]?=E (oi s)->opv L b (.tmp m.it) = .pointer (E ⟨I,0,H⟩)->(execOp (opv L b) ⟨E m.y,.entry (.tmp m.it),ty2,ps2,af2,H⟩).run P w = .ok (.value (.tuple #[.string k,v])) w)->
     mapIter stp dr lp n hs κ.m nc nr m j S k v (zca G K)=E y->AtM n w0 σ0 κ R I om (oi s) S a w'->(∀S' a'' w'',G S'=E y->AtM n w0 σ0 κ R I om (oi s) S' a'' w''->Iv a'' w''/\μ a'' w'' < μ a w)->
     Kw (a.put (E m.x) (.tuple #[.bool O,.string k,v])) w':=by
  intro S k v s w' G hrun2 h hA' hG;refine hKw _ _ (zwN (id1:=0) hgl hstp hdr hlp hj hI hops hops2 hrun2 h hA' λe S' x a'' w'' h1 h2 h3=>?_);cases e with
  |normal=>
   cases x<;>first | exact h2.elim | exact hG S' _ _ h1 h2
  |ret=>exact other (by simp) h1 h2 h3
  |exit i=>exact other (by simp) h1 h2 h3
  |pan u=>exact other (by simp) h1 h2 h3
 have ent0:∀s:Array Nat,s.back?=E 0->∀L b w,w.heap[R]?=E om->w.heap[I]?=E (oi s)->opv L b (.tmp m.it) = .pointer (E ⟨I,0,H⟩)->(execOp (opv L b) ⟨E m.y,.entry (.tmp m.it),ty2,ps2,af2,H⟩).run P w = .ok (.value (.tuple #[.string m.k1,m.v1])) w:=
  λs hs L b w h1 h2 h3=>(ziB h3 h2 h1).1 hs
 have ent1:∀s:Array Nat,s.back?=E 1->∀L b w,w.heap[R]?=E om->w.heap[I]?=E (oi s)->opv L b (.tmp m.it) = .pointer (E ⟨I,0,H⟩)->(execOp (opv L b) ⟨E m.y,.entry (.tmp m.it),ty2,ps2,af2,H⟩).run P w = .ok (.value (.tuple #[.string m.k2,m.v2])) w:=
  λs hs L b w h1 h2 h3=>(ziB h3 h2 h1).2 hs
 rcases hI0 with⟨S,h,hA⟩ | ⟨S,h,hA⟩ | ⟨S,h,hA⟩ | ⟨S,s,hs,h,hA⟩
 · let⟨g1,g2⟩:=za5 h;let⟨L,b,hev,hptr⟩:=hA.iter hj (zcb g1) hI;have hm0:=hμ hA;rw[hev];rcases zrp (s:=H) (d:=m.x) (ty:=ty) (ps:=ps) (af:=af) (P:=P) hptr hA.obj.2 hA.obj.1 with e | e
   · rw[e];refine round (ent0 #[0] rfl) g1 (hA.drew.setI rfl rfl) λS' a'' w'' h1 h2=>⟨.inr (.inl ⟨S',h1,h2⟩),?_⟩
     grind
   · rw[e];refine round (ent1 #[1] rfl) g2 (hA.drew.setI rfl rfl) λS' a'' w'' h1 h2=>⟨.inr (.inr (.inl ⟨S',h1,h2⟩)),?_⟩
     grind
 · let⟨L,b,hev,hptr⟩:=hA.iter hj (zcb h) hI;have hm0:=hμ hA;rw[hev,zrq hptr hA.obj.2 hA.obj.1];refine round (ent1 #[0,1] rfl) h (hA.setI rfl rfl) λS' a'' w'' h1 h2=>⟨.inr (.inr (.inr ⟨S',_,.inl rfl,h1,h2⟩)),?_⟩
   grind
 · let⟨L,b,hev,hptr⟩:=hA.iter hj (zcb h) hI;have hm0:=hμ hA;rw[hev,zoA hptr hA.obj.2 hA.obj.1];refine round (ent0 #[1,0] rfl) h (hA.setI rfl rfl) λS' a'' w'' h1 h2=>⟨.inr (.inr (.inr ⟨S',_,.inr rfl,h1,h2⟩)),?_⟩
   grind
 · let⟨L,b,hev,hptr⟩:=hA.iter hj (zoB h) hI;rw[hev,zrr hs hptr hA.obj.2 hA.obj.1];refine hKw _ _ (zwO hgl hstp hdr hlp h hA λS' a w h1 h2=>?_);show if m.b=m.b then _ else _
   rw[jv rfl];exact hK .normal S' .normal a w s h1 h2 λi e=>by cases e
theorem zoC(hgl:C.gl w0.w σ0)(hstp:∀κ,xP P n κ stp)(hdr:∀κ,vM P n κ dr)(hlp:xv lp)(hm:mapM P c=E m){i:Nat}{K:XE C->St C->Uv ρ}{r:ρ}(h:zhH stp dr lp n hs κ.m m i S K=E r)(hA:At n w0 σ0 κ S a w):c.wp P (Zj n w0 σ0 κ K r) a w:=by
 obtain⟨id,id1,id2,ops,et,rfl,V,hkt,hne,⟨ty1,ps1,af1,ty2,ps2,af2,ty3,ps3,af3,ty4,ps4,af4,ty5,ps5,af5,e0⟩,⟨ty6,ps6,af6,e1⟩,⟨ty7,ps7,af7,e2⟩⟩:=zwL hm;unfold zhH at h;split at h
 case h_2=>cases h
 rename_i outs g _ _ _;let⟨hc,h⟩:=zb h;simp only[gf] at hc;let⟨c1,c2,c3,c4,c5,c6,c7,c8⟩:=hc;let⟨F,hx0,h⟩:=gd h;split at h
 case h_2=>cases h
 rename_i j hit;let⟨hjg,h⟩:=zb h;let⟨y0,hy0,ho⟩:=gd h;let⟨L,b,Z,PV,⟨ν,vs,ids,hAb⟩,hi,z⟩:=hA;have l2:m.r < n:=by simpa[UT] using c2
 have l3:m.s < n:=by simpa[UT] using c3
 have l4:m.it < n:=by simpa[UT] using c4
 refine wp_seq (wp_region_list ?_);rw[e0];refine wpList_plain rfl λK1 hK1=>?_
 unfold X;rw[z.eval,zmN];show K1 _ _;refine hK1 _ _ ?_;have hi1:=hi.newObj (o :=.map #[] 0) rfl;have D:=z.put l2 (.map (E w.heap.size));have hr1:∀{L2:List (Nat×Value)},opv ((m.r,.map (E w.heap.size))::L2) b (.tmp m.r) = .map (E w.heap.size):=by
  intro L2;show(bif N m.r m.r then _ else _)=_;simp
 generalize hR:w.heap.size=R at *
 have hb1:=hi1.objAt (m:=0) rfl;refine wpList_plain rfl λK2 hK2=>?_
 unfold X;refine zkS D (zgp V hkt hr1 hb1 rfl) (hK2 _ _ ?_);have hi2:=hi1.setObj (m:=0) (o' :=.map (#[].push {key :=.string m.k1,val:=m.v1,born:=0}) (0+1)) rfl rfl rfl;have hb2:=hi2.objAt (m:=0) rfl;refine wpList_plain rfl λK3 hK3=>?_
 unfold X;refine zkS D (zgp V hkt hr1 hb2 (by simp[Instr.findNow,Instr.sameNow,hne])) (hK3 _ _ ?_);have q:=hi2.setObj (m:=0) (o' :=.map ((#[].push {key :=.string m.k1,val:=m.v1,born:=0}).push {key :=.string m.k2,val:=m.v2,born:=0+1}) (0+1+1)) rfl rfl rfl;have hb3:=q.objAt (m:=0) rfl;refine wpList_plain rfl λK4 hK4=>?_
 unfold X;refine zkR (v :=.map (E R)) D (congrArg (λv=>Result.ok (Next.value v) _) (hr1 (L2:=L))) (hK4 _ _ ?_);have hf2:=D.put l3 (.map (E R));have hs2:opv ((m.s,.map (E R))::(m.r,.map (E R))::L) b (.tmp m.s) = .map (E R):=by
  show(bif N m.s m.s then _ else _)=_;simp
 refine wpList_plain rfl λK5 hK5=>?_
 unfold X;refine zkR hf2 (zkP V hs2 hb3) (hK5 _ _ ?_);have q:Inv w0 σ0 Z (.obj R (.map (Xm m.k1 m.k2 m.v1 m.v2) 2)::PV) _:=q;clear hb3;generalize hw3:({heap:=_,tape:=_,drawn:=_,os:=_,output:=_}:World)=w3 at q |-
 have hi4:=q.newObj (o :=.mapIter (E R) 2 #[] 2) rfl;generalize hI:w3.heap.size=I at *
 have hf3:=hf2.put l4 (.pointer (E ⟨I,0,H⟩));have hAs:=((hAb.put (d:=m.r) (A :=.und) (v :=.map (E R)) trivial trivial).put (d:=m.s) (A :=.und) (v :=.map (E R)) trivial trivial).new (id:=nid m.it 0) (Zf c1) (yP κ m.it 0) (e :=.cell []) (v :=.slice H 0 0) (a:=⟨⟨I,0,H⟩,λ_ =>.slice H 0 0⟩) (us:=[]) (A :=.pc (nid m.it 0) 0) (p :=.cell ⟨I,0,H⟩ []) (u :=.pointer (E ⟨I,0,H⟩)) (d:=m.it) (λν' h1 h2=>⟨(by show Value.pointer (E _) = .pointer (E ((ν'.adr _).add 0));rw[h2];simp[Addr.add,Ent.at]),by show nid m.it 0=nid m.it 0;rfl⟩) rfl rfl (λcs hcs=>by cases hcs;exact⟨trivial,trivial⟩) (by simp[Ent.at,Addr.add]);have hat:AtM n w0 σ0 κ R I (.map (Xm m.k1 m.k2 m.v1 m.v2) 2) (.mapIter (E R) 2 #[] 2) (zkQ m S) (Act.put (Act.put (a.put (E m.r) (.map (E R))) (E m.s) (.map (E R))) (E m.it) (.pointer (E ⟨I,0,H⟩))) (w3.alloc (.mapIter (E R) 2 #[] 2)):=by
  refine⟨_,b,Z,_,hAs,hi4.sub_own λgg k=>?_,hf3⟩;let⟨f1,f2,q1,s1,k1,k2,d1⟩:=k.uncons;let⟨f3,f4,q2,s2,k3,k4,d2⟩:=s1.uncons;have d3:f3.disj f1:=(d1.mono (.refl _) k3).symm;refine Sep.append (A :=.cell ⟨I,0,H⟩ []::PV) (B:=[.obj R _,.obj I _]) (h1:=f4) (h2:=f3.or f1) (.cons (h1:=zc.none) ⟨rfl,λj u hj=>by simp at hj⟩ s2 (zc.none_le _) (.refl _) (zc.none_disj _)) (.cons q2 (Sep.one q1) (zc.le_or _ _) (zc.le_or_right d3) d3) (k4.trans k2) (zc.or_le (k3.trans k2) k1) ?_;exact(zc.or_disj d2 (d1.mono (.refl _) k4)).symm
 let⟨f1,σ1,hg1,hat1,hback⟩:=hat.frame hgl;have hat2:AtM n w0 σ0 κ R I _ _ (g.open F) _ _:=hback (e :=.normal) (x :=.normal) (At.close hx0 hat1);let⟨L2,b2,σ2,PV2,⟨ν2,vs2,ids2,T⟩,hi2',G⟩:=hat2;have h64:=UZ c6;have hmg:=UZ c7;have hj:j < g.es.length:=by simpa[UT] using hjg
 have hIj:(ν2.adr j).a=⟨I,0,H⟩:=by
  have hv:=T.env m.it;rw[hit] at hv;have hv:look L2 b2 m.it = .pointer (E ((ν2.adr j).a.add 0)):=hv;have h3:=hf3.get m.it;have h4:=G.get m.it;rw[h3] at h4;have h5:look ((m.it,.pointer (E ⟨I,0,H⟩))::(m.s,.map (E R))::(m.r,.map (E R))::L) b m.it = .pointer (E ⟨I,0,H⟩):=by
   show(bif N m.it m.it then _ else _)=_;simp
  rw[h5,hv] at h4;simp[Addr.add] at h4;rw[<- h4]
 let f:Kp:=⟨g.es.length,h64,{hdr:=ν2.hdr,adr:=λk=>⟨(ν2.adr k).a,bif U k κ.m && !Z1 ((g.open F).heap k) then(κ.ν0.adr k).sub else(ν2.adr k).sub⟩ }⟩
 have hat3:AtM n w0 σ0 f R I (.map (Xm m.k1 m.k2 m.v1 m.v2) 2) (.mapIter (E R) 2 #[] 2) (g.open F) _ _:=⟨L2,b2,σ2,PV2,⟨ν2,vs2,ids2,T.rekey λk _ _=>⟨rfl,rfl,λz=>by show _=(bif U k κ.m && !Z1 ((g.open F).heap k) then _ else _);rw[z];simp⟩⟩,hi2',G⟩;have hkk:∀k,k < κ.m->ν2.hdr k=κ.ν0.hdr k/\(ν2.adr k).a=(κ.ν0.adr k).a/\(Z1 ((g.open F).heap k)=O->(ν2.adr k).sub=(κ.ν0.adr k).sub):=λk hk=>by
  refine T.keep k hk ((xQ g F k).2 ?_);have hl:k < g.es.length:=Zd
  refine⟨g.es[k],UC hl,?_⟩;have:=Dp.1 c8 g.es[k] (List.mem_iff_getElem?.2 ⟨k,by rw[Da hk,UC hl]⟩);simpa using this
 have y:∀{S':St C} {L b Z PV},zD f S' L b Z PV->zD κ S' L b Z PV:=by
  rintro S' L b Z PV ⟨ν,vs,ids,hA⟩;refine⟨ν,vs,ids,hA.rekey λk hk hs=>?_⟩;have h1:=hA.keep k (Zd:k < g.es.length) hs;have h2:=hkk k hk;refine⟨h1.1.trans h2.1,h1.2.1.trans h2.2.1,λz=>(h1.2.2 z).trans ?_⟩;show(bif U k κ.m && !Z1 ((g.open F).heap k) then(κ.ν0.adr k).sub else(ν2.adr k).sub)=_;have hb:U k κ.m=true:=by rw[UT];exact hk
  rw[hb];cases hx:Z1 ((g.open F).heap k) with
  |false=>rfl
  |true=>exact h2.2.2 hx
 have t:∀{Z PV w om oi},Inv w0 σ0 Z (PV++[.obj R om,.obj I oi]) w->Inv w0 σ0 Z PV w:=λ{Z PV w om oi} hi=>hi.sub_own λgg k=>by
  let⟨q1,q2,s1,s2,k1,k2,d⟩:=k.split;exact s1.mono (.refl _) k1
 have l:∀{S':St C} {a w oi},AtM n w0 σ0 f R I (.map (Xm m.k1 m.k2 m.v1 m.v2) 2) oi S' a w->At n w0 σ0 κ S' a w:=by
  rintro S' a w oi ⟨L,b,Z,PV,hA,hi,z⟩;exact⟨L,b,Z,PV,y hA,t hi,z⟩
 refine wp_block (zwP (κ:=f) (Q:=Zj n w0 σ0 κ K r) hgl (hstp f) (hdr f) hlp hj hIj e1 e2 hy0 hat3 λe S' x a w seen h1 h2 _=>?_);refine Yq h1 ho (x:=x) ?_;unfold XV at h2;unfold zfr;split at h2
 ·exact l h2
 ·exact⟨h2.1,l h2.2⟩
 ·exact l h2
 ·rename_i v chain;let⟨u,L,b,Z,PV,h3,h4,hA,hi,z⟩:=h2;exact⟨u,L,b,Z,PV,h3,h4,y hA,t hi,z⟩
 grind
end
section
variable {C:Cod}{P:Program}{ρ:Type}
noncomputable def zbo(P:Program)(stp:yQ C)(dr:YC C)(lp:ZX)(n:Nat)(hs:Nat->Uv Hint)(mm:Nat):Code->Nat->St C->(XE C->St C->Uv ρ)->Uv ρ
 | .seq a c,i,S,K=>match mapM P a with
  |some m=>zhH stp dr lp n hs mm m (i+1) S λe S'=>match e with
   | .normal=>zbo P stp dr lp n hs mm c (i+1+xS a) S' K
   |e=>K e S'
  |none=>ZD stp dr lp n mm hs a (i+1) _ S λe S'=>match e with
   | .normal=>zbo P stp dr lp n hs mm c (i+1+xS a) S' K
   |e=>K e S'
 |c,i,S,K=>ZD stp dr lp n mm hs c i _ S K
theorem zrt [Dfr] {n:Nat}{κ:Kp}{w0:Start}{σ0:FS}{stp:yQ C}{dr:YC C}{lp:ZX}{hs:Nat->Uv Hint}(d:C.gl w0.w σ0) (b:∀κ,xP P n κ stp) (hdr:∀κ,vM P n κ dr) (f:xv lp) {K:XE C->St C->Uv ρ}{r:ρ} :
    ∀(c:Code) (i:Nat) {S:St C},zbo P stp dr lp n hs κ.m c i S K=E r->∀{a:Act} {w:World},At n w0 σ0 κ S a w->c.wp P (Zj n w0 σ0 κ K r) a w:=by
 intro c
 induction c with
 |seq x c _ q=>
  intro i S h a w hA
  have fin:∀{a w},Code.wp P x (Zj n w0 σ0 κ (λe S'=>match e with
   | .normal=>zbo P stp dr lp n hs κ.m c (i+1+xS x) S' K
   |e=>K e S') r) a w->(qb x c).wp P (Zj n w0 σ0 κ K r) a w:=by
   intro a w h;refine wp_seq (wp_mono h λe a w k=>?_);cases e with
   |normal=>let⟨S',o,g⟩:=k;exact q _ o g
   |exit j=>exact k
   |ret=>exact k
   |panic s=>let⟨v,S',o,g⟩:=k;exact⟨v,S',o,g⟩
   |goto l=>exact k.elim
   |outgrown=>exact k.elim
  unfold zbo at h;split at h
  ·rename_i m p;exact fin (zoC d b hdr f p h hA)
  ·exact fin (yS d (b κ) (hdr κ) f x (i+1) _ _ _ _ h _ _ hA)
 |_=>intro i S h a w hA;exact yS d (b κ) (hdr κ) f _ i _ _ _ _ h _ _ hA
noncomputable def zoD(q:Opts)(Γ:List (Spec C))(lp:ZX)(P:Program)(fn:Func)(nr:Nat)(ins:Sig)(outs:List (XK×Sig))(hs:Nat->Uv Hint)(x:ins.ty C):Uv (zg C outs):=
 match fn.body with
 |none=>H
 |some c=>chk (W ins.ts.length fn.ntmps && (N fn.results.toList.length nr && (W nr 4 && W ins.es.length 64)))
     (zbo P (Y7 q Γ P fn.ntmps) (drw q Γ P fn.ntmps) lp fn.ntmps hs ins.es.length c 0 (ins.open x) λe S=>match e with
       | .ret=>(Wc P S fn.results.toList).bind λAs=>zU ins.es.length outs .ret (xw As S.heap)
       | .normal=>(Wc P S fn.results.toList).bind λAs=>zU ins.es.length outs .ret (xw As S.heap)
       | .pan v=>zU ins.es.length outs (.pan v) (xw [] S.heap)
       |_=>H)
theorem zwQ  {Γ : List (Spec C)} (B : ∀ s ∈ Γ, s.OK P) (hm : P.follows .mixedOrders = O) {lp : ZX} (S : xv lp)   {nr : Nat}   (hs : Nat -> Uv Hint) (hf : P.funcs[f]? = E fn) (hnm : (fn.name == "runtime.NumGoroutine") = M) (Q : fn.body.isNone = M) {F : ins.ty C -> Uv (zg C outs)} (hF : ∀ x, F x = zoD q Γ lp P fn nr ins outs hs x) :
    Spec.OK P ⟨f,nr,ins,outs,F⟩:=by
 refine⟨fn,hf,hnm,Q,?_⟩;intro x r i κ st Z hg PV ν vs ids args o h hA A;have i:zoD q Γ lp P fn nr ins outs hs x=E r:=by rw[<- hF];exact i
 unfold zoD at i;split at i
 ·cases i
 rename_i c hb;let⟨hc,i⟩:=zb i;simp only[gf] at hc;let⟨c1,c4,c2,c3⟩:=hc;have c4:=ge c4;have c2:fn.results.toList.length<=4:=by rw[c4];exact UZ c2
 have o:κ.m=ins.es.length:=o;rw[<- o] at i;have h:args.length=ins.ts.length:=h;have hn:args.length<=fn.ntmps:=by rw[h];exact UZ c1
 have hat:At fn.ntmps st Z κ (ins.open x) {tmps:=args.toArray++qk (fn.ntmps - args.toArray.size) undef,defers:=[]} st.w:=⟨_,_,Z,PV,⟨ν,vs,ids,hA⟩,A.inv,vV hn⟩;refine calls_of_wp hf hb (wp_mono (zrt hg (λκ=>zem B fn.ntmps κ) (λκ=>zgo B hm fn.ntmps κ) S c 0 i hat) ?_);intro e a w p;cases e with
 |normal=>let⟨S',n,d⟩:=p;exact⟨d.defers,zdk c4 c2 n d⟩
 |ret=>let⟨S',n,d⟩:=p;exact⟨d.defers,zdk c4 c2 n d⟩
 |exit j=>let⟨S',n,d⟩:=p;cases n
 |panic T=>
  let⟨v,S',n,d⟩:=p;obtain⟨u,L,b,Z',D,rfl,hp,⟨ν',t,k,d⟩,G,R⟩:=d;refine⟨R.defers,?_⟩;have V:AbsL κ (xw [] S'.heap) ν' t k [] (λ_=>undef) Z' D:=zbS (us:=[]) d trivial trivial;refine YK n λg y hy e' he=>?_
  cases e'<;>first | exact he.elim | skip
  obtain⟨s,z,hz,rfl⟩:=he;let⟨I,PV2,hl,K,h2⟩:=Wb hy ⟨ν',t,k,V⟩ G;exact⟨u,I,PV2,rfl,K,hp.again hl hz,h2⟩
 |goto l=>exact p.elim
 |outgrown=>exact p.elim
end
end Go.Px
