/- Part B1. -/
import Derived.Test.YtlhommikjhhmbaaGreatDoorMs
import Derived.Recover
set_option linter.unusedSimpArgs false
set_option linter.unusedVariables false
set_option linter.unusedSectionVars false
namespace Go.Px
open _root_.Array renaming replicate->qk,getElem?_toList->qB
open Bool renaming false->M,true->O
open Go.Code renaming seq->qb
open Go.Exit renaming inBlock->qs,thenS->qA
open Go.Oper renaming wp->X,upon->qx
open Go.Question renaming forced->qc,cut->qv
open Go.Region renaming wanted->qo
open Go.Result renaming andThen->Y
open Nat renaming beq->N,blt->U,ble->W,add_comm->qy
open _root_.Option renaming some->E,none->H
variable{b:Nat->Value}{c:Code}{f:FuncId}{fn:Func}{id2 r:Nat}{ids:List Nat}{ins:Sig}{k1 k2:ByteArray}{o:Oper}{outs:List (XK × Sig)}{q:Opts}{seen:Array Nat}{v v1 v2:Value}{vs:Nat->List Value}{x:Operand}{ν:Val}
section
variable {P:Program}{ops:Array Oper}
theorem zcZ {a:Act}{w:World}{K K':Act->World->Prop}{Q Q':Exit->Act->World->Prop}(i:∀a w,K a w->K' a w) (hp:∀c a w,Q (.panic c) a w->Q' (.panic c) a w) (l:∀a w,Q .outgrown a w->Q' .outgrown a w)
    (h:o.wp P a w K Q):o.wp P a w K' Q':=by
 unfold X at *
 generalize (execOp a.eval o).run P w=r at *
 cases r with
 |ok n w'=>
  cases n<;>simp only[qx] at h |-<;>
    first
     |exact i _ _ h
     |exact Calls.mono h (λe k g=>by cases e<;>first | exact i _ _ g | exact hp _ _ _ g | exact(let⟨a,w,q⟩:=g;⟨a,w,l _ _ q⟩))
     |exact Rows.mono h (λ_ _ g=>i _ _ g)
 |halt x w'=>cases x<;>simp only[qx] at h |-<;>exact hp _ _ _ h
theorem xc {Q Q':Exit->Act->World->Prop}{l2:List Oper}(g:∀a w,Q .normal a w->wpList P ops Q' l2 a w) (hp:∀c a w,Q (.panic c) a w->Q' (.panic c) a w) (e:∀a w,Q .outgrown a w->Q' .outgrown a w) :
    ∀(i:List Oper) {a:Act} {w:World},wpList P ops Q i a w->wpList P ops Q' (i++l2) a w
 |[],a,w,h=>g _ _ h
 |o::l,a,w,h=>by
  show wpList P ops Q' (o::(l++l2)) a w;unfold wpList at h |-
  cases k:qo o (yielded ops a.tmps) with
  |true=>
   rw[k,jv rfl] at h;rw[jv rfl];rcases h with h | ⟨h1,a2,p,q⟩
   ·exact .inl (zcZ (λa w=>xc g hp e l) hp e h)
   ·exact .inr ⟨h1,a2,p,e _ _ q⟩
  |false=>
   rw[k,jx je] at h;rw[jx je];exact xc g hp e l h
theorem vm{Q:Exit->Act->List Frame->World->Prop}{cs:List Frame}(g:∀a w,¬ Q .outgrown a cs w):∀(l:List Nat) (a:Act) (w:World),wpOps P ops (λe a w=>Q e a cs w) l a w->wpOpsS P ops Q l a cs w
 |[],a,w,h=>h
 |i::l,a,w,h=>by
  unfold wpOps at h;unfold wpOpsS;cases k:ops[i]? with
  |none=>rw[k] at h;exact vm g l a w h
  |some o=>
   rw[k] at h;simp only at h |-
   cases p:qo o (yielded ops a.tmps) with
   |false=>rw[p,jx je] at h;rw[jx je];exact vm g l _ w h
   |true=>
    rw[p,jv rfl] at h;rw[jv rfl];rcases h with h | ⟨_,a2,t,q⟩
    ·have h:=zcZ (λa w=>vm g l a w) (λc a w q=>q) (λa w q=>q) h;unfold X at h;split
     ·rename_i w' s;rw[s] at h;exact(h:False).elim
     ·exact h
    grind
end
section
variable {C:Cod}{P:Program}
theorem zej[Dfr]{Γ:List (Spec C)}(e:∀s∈Γ,s.OK P)(n:Nat)(κ:Kp):xQ P n κ (Y9 q Γ P n):=⟨λw0 σ0 g o S L b Z PV hA=>by show OpA κ P n w0 σ0 o (Y9 q Γ P n o S _ E) L b Z PV;rw[Vn,Option.bind_fun_some'];exact zkN e _ κ w0 σ0 g o S L b Z PV hA,λo S ρ k=>zkQ⟩
def zsW(rv:Value)(u u2:FrameMode):Prop:=(u = .returning/\rv = .nilIface/\u2 = .returning)\/(u = .panicking [{v:=rv,recovered:=false}]/\u2 = .panicking [{v:=rv,recovered:=true}])
def Spec.OKD (P : Program) (s : Spec C) : Prop := ∃ fn, P.funcs[s.f]? = E fn /\ (fn.name == "runtime.NumGoroutine") = M /\ fn.body.isNone = M /\
 ∀(args:List Value) (rv:Value) (u u2:FrameMode),zsW rv u u2->s.OKc (args++[rv]) λw Q=>CallsD P s.f args.toArray u w λe g w'=>g=u2/\Q e w'
def zdC:Op->Bool
 | .call ⟨.builtin .recover,args,_⟩=>args.isEmpty
 |_=>M
def startD(S:St C)(k d0:Nat):St C:={env:=λt=>bif N t d0 then S.env k else bif U t k then S.env t else .und,heap:=S.heap}
def zoG(P:Program)(fn:Func)(m:Nat)(outs:List (XK×Sig)):XE C->St C->U3 (zh C outs):=λe S=>match e with
 | .ret=>(Wd P S fn.results.toList).bind λAs=>zU m outs .ret (xy As S.heap)
 | .normal=>(Wd P S fn.results.toList).bind λAs=>zU m outs .ret (xy As S.heap)
 |_=>H
noncomputable def zb7(q:Opts)(Γ:List (Spec C))(lp:ZW)(P:Program)(fn:Func)(nr:Nat)(ins:Sig)(outs:List (XK×Sig))(hs:Nat->U3 Hint)(x:ins.ty C):U3 (zh C outs):=
 match fn.body with
 |some (.seq (.region _ ops M) c)=>(match ops.toList with
  |o::l=>(match o.guard,o.dst with
   |none,E d0=>chk (zdC o.op && (W ins.ts.length (fn.ntmps+1) && (U d0 fn.ntmps && (N fn.results.toList.length nr && (W nr 4 && (W ins.es.length 64 && U 0 ins.ts.length))))))
       (ZJ (Y9 q Γ P fn.ntmps) fn.ntmps ops l (startD (ins.open x) (ins.ts.length - 1) d0) λe S=>match e with
         | .normal=>ZD (Y9 q Γ P fn.ntmps) (drw q Γ P fn.ntmps) lp fn.ntmps ins.es.length hs c 2 _ S (zoG P fn ins.es.length outs)
         |e=>zoG P fn ins.es.length outs e S)
   |_,_=>H)
  |[]=>H)
 |_=>H
theorem zmV {rv:Value}{u u2:FrameMode}(h:zsW rv u u2) {c0:Frame}{cs:List Frame}(e:c0.mode=u) :
    (recoverD (c0::cs)=H/\rv = .nilIface/\c0={c0 with mode:=u2})\/recoverD (c0::cs)=E (rv,{c0 with mode:=u2}::cs):=by
 rcases h with⟨rfl,rfl,rfl⟩ | ⟨rfl,rfl⟩
 · left;refine⟨?_,rfl,?_⟩
   ·simp only[recoverD,e]
   ·cases c0;grind
 ·right;simp only[recoverD,e]
theorem AbsL.startD {κ:Kp}{S:St C}{Z:FS}{PV:List Priv}{args:List Value}{rv:Value}{d0:Nat}(h:AbsL κ S ν vs ids (yq 0 (args++[rv])) (λ_=>undef) Z PV) :
    AbsL κ (startD S args.length d0) ν vs ids ((d0,rv)::yq 0 args) (λ_=>undef) Z PV:=by
 refine⟨⟨h.nd,h.dom,h.pv,h.cell,λt=>?_,h.one⟩,λt=>?_,h.livec,h.keep⟩
 · show VR C Z ν (bif N t d0 then rv else look (yq 0 args) (λ_=>undef) t) (bif N t d0 then S.env args.length else bif U t args.length then S.env t else .und);cases N t d0 with
   |true=>
    have:=h.env args.length;rw[yr] at this;grind
   |false=>
    simp only[U8];cases e:U t args.length with
    |true=>
     have:=h.env t;rw[yr] at this |-
     rw[Da] at e;grind
    |false=>trivial
 · show(bif N t d0 then S.env args.length else bif U t args.length then S.env t else .und).ok _;cases N t d0 with
   |true=>exact h.live _
   |false=>
    cases U t args.length with
    |true=>exact h.live t
    |false=>trivial
theorem zmW{a:Act}{w:World}(h:zdC o.op=O):(execOp a.eval o).run P w = .ok .recover w:=by
 unfold zdC at h;split at h
 ·rename_i args ts e;have:args = #[]:=by simpa using h
  subst this;simp[execOp,e,resolve,invoke,builtin,UW]
 ·cases h
theorem zrr{κ:Kp}{st:Start}{Z:FS}{nr:Nat}{outs:List (XK×Sig)}{r:zh C outs}{w:World}(h:vk κ st Z nr outs r .outgrown w):False:=by
 let⟨e,S,_,q,_⟩:=XA (K:=λ_ _=>()) (z:=()) rfl h;grind
theorem Vo  {Γ : List (Spec C)} (D : ∀ s ∈ Γ, s.OK P) (hm : P.follows .mixedOrders = O) {lp : ZW} (hlp : xx lp)   {nr : Nat}   (hs : Nat -> U3 Hint) (hf : P.funcs[f]? = E fn) (hnm : (fn.name == "runtime.NumGoroutine") = M) (hbs : fn.body.isNone = M) {F : ins.ty C -> U3 (zh C outs)} (hF : ∀ x, F x = zb7 q Γ lp P fn nr ins outs hs x) :
    Spec.OKD P ⟨f,nr,ins,outs,F⟩:=by
 refine⟨fn,hf,hnm,hbs,?_⟩;intro args rv u u2 K x r h κ st Z V PV ν vs ids B p hA G;have h:zb7 q Γ lp P fn nr ins outs hs x=E r:=jE
 unfold zb7 at h;split at h
 case h_2=>cases h
 rename_i id ops c hb;split at h
 case h_2=>cases h
 rename_i o l A;split at h
 case h_2=>cases h
 rename_i d0 hg hd;let⟨hc,h⟩:=zb h;simp only[gf] at hc;let⟨c1,c2,c3,c4,c5,c6,c7⟩:=hc;have p:(args++[rv]).length=ins.ts.length:=p;have hal:args.length=ins.ts.length - 1:=jE
 have c4:=ge c4;have B:κ.m=ins.es.length:=B;rw[<- B,<- hal] at h;have hn:args.length<=fn.ntmps:=by
  have:=Dg c2;grind
 have hd0:d0 < fn.ntmps:=by simpa[Da] using c3
 have hAd:=AbsL.startD (d0:=d0) hA
 have hat:@At dfr0 C fn.ntmps st Z κ (startD (ins.open x) args.length d0) (Act.put {tmps:=args.toArray++qk (fn.ntmps - args.toArray.size) undef,defers:=[]} (E d0) rv) st.w:=
  ⟨_,_,Z,PV,⟨ν,vs,ids,hAd⟩,G.inv,(vW hn).put hd0 rv⟩
 refine callsD_of_wpS hf hb λc0 cs z=>wpS_seq (wpS_region ?_)
 have hsz:ops.size=l.length+1:=by rw[<- Array.length_toList,A];rfl
 have h0:ops[0]?=E o:=by rw[<- qB,A];rfl
 rw[hsz,List.range_eq_range',List.range'_succ];unfold wpOpsS;rw[h0];have hw:qo o (yielded ops (args.toArray++qk (fn.ntmps - args.toArray.size) undef))=true:=by simp[qo,hg]
 simp only[hw,jq,zmW c1];generalize hQ:bodyPostS P fn c0 cs (λe u' w'=>u'=u2/\vk κ st Z nr outs r e w')=Q;have fin:∀{S':St C} {a':Act} {w':World},zoG P fn κ.m outs .ret S'=E r->@At dfr0 C fn.ntmps st Z κ S' a' w'->∀e,e = .normal\/e = .ret->Q e a' ({c0 with mode:=u2}::cs) w':=by
  intro S' a' w' k g e he;let⟨v,h1,h2⟩:=zdh c4 (by rw[c4];exact Dg c5) k g;rw[<- hQ];rcases he with rfl | rfl<;>exact⟨g.defers,u2,rfl,v,h1,rfl,h2⟩
 have T:∀e a' w',@Zi dfr0 C _ fn.ntmps st Z κ (zoG P fn κ.m outs) r e a' w'->Q e a' ({c0 with mode:=u2}::cs) w':=by
  intro e a' w' t;cases e with
  |normal=>let⟨S',k,g⟩:=t;exact fin k g _ (.inl rfl)
  |ret=>let⟨S',k,g⟩:=t;grind
  |exit j=>let⟨S',k,g⟩:=t;cases k
  |panic ch=>let⟨v,S',k,g⟩:=t;cases k
  |goto l=>exact t.elim
  |outgrown=>exact t.elim
 have main:∀(a1:Act),a1=Act.put {tmps:=args.toArray++qk (fn.ntmps - args.toArray.size) undef,defers:=[]} (E d0) rv->
     wpOpsS P ops (qA (c.wpS P Q) Q) (List.range' (0+1) l.length) a1 ({c0 with mode:=u2}::cs) st.w:=by
  rintro _ rfl;refine vm (λa w i=>?_) _ _ _ ?_
  ·have i:Q .outgrown a ({c0 with mode:=u2}::cs) w:=i;rw[<- hQ] at i;let⟨u',_,i⟩:=i;exact zrr i
  · rw[wpOps_eq_wpList l (0+1) (λj=>by rw[<- qB,A,qy 0 1,qy 1 j];rfl)];have t:=YW V (zej D fn.ntmps κ) l h hat;have:=xc (l2:=[]) (Q':=λe a w=>qA (c.wpS P Q) Q e a ({c0 with mode:=u2}::cs) w) (λa w i=>?_) (λch a w i=>?_) (λa w i=>?_) l t
    ·grind
    ·let⟨S',k,g⟩:=i;refine wpS_of_wp (wp_mono (yT V (zej D fn.ntmps κ) (zgq D hm fn.ntmps κ) hlp c 2 _ _ _ _ k _ _ g) T)
    ·let⟨v,S',k,g⟩:=i;cases k
    ·exact i.elim
 rcases zmV K (cs:=cs) z with⟨e1,e2,e3⟩ | e1
 ·grind
 grind
end
section
variable {C:Cod}{P:Program}{ρ:Type}
def zao:List Oper->U3 (List Oper×Nat)
 |[]=>H
 |[⟨H,.defer ⟨.value (.tmp t),args,_⟩,_,_,_,H⟩]=>bif args.isEmpty then E ([],t) else H
 |o::r=>(zao r).map λp=>(o::p.1,p.2)
theorem zkZ:∀{l g:List Oper}{t:Nat},zao l=E (g,t)->∃o:Oper,l=g++[o]/\o.guard=H/\o.dst=H/\∃ts,o.op = .defer ⟨.value (.tmp t), #[],ts⟩:=by
 intro l
 induction l with
 |nil=>intro g t h;cases h
 |cons o r k=>
  intro g t h;unfold zao at h;split at h
  ·grind
  ·rename_i s args ts ty ps af e;cases i:args.isEmpty with
   |false=>grind
   |true=>
    rw[i,Dy] at h;cases h;have:args = #[]:=by simpa using i
    subst this;cases e;exact⟨_,rfl,rfl,rfl,_,rfl⟩
  ·rename_i o' u _ e;cases e;let⟨p,hp,h⟩:=D9.1 h;grind
def v8(m:Nat):List (AV C.D)->Bool
 |[]=>O
 | .pc k _::r=>U k m && v8 m r
 |_=>M
def zek(S:St C):List (AV C.D)->Bool
 |[]=>O
 | .pc k _::r=>(S.heap k).isSome && zek S r
 |_=>M
def VL(stp:yR C)(dr:YD C)(lp:ZW)(n:Nat)(hs:Nat->U3 Hint):Code->Nat->St C->(XE C->St C->U3 ρ)->(FuncId->List (AV C.D)->XE C->St C->U3 ρ)->U3 ρ
 | .seq (.region id ops M) c,i,S,h,k=>(match zao ops.toList with
  |some (l,t)=>ZJ stp n ops l S λe S'=>(match e with
   | .normal=>(match hs (i+1) with
    |some (.loop g _)=>(g.close 0 S').bind λp=>(match(g.open p).env t with
     | .clo f caps=>chk (v8 g.es.length caps && W g.es.length 64) (ZD stp dr lp n g.es.length hs c (i+2) _ (g.open p) (k f caps))
     |_=>H)
    |_=>H)
   |e=>h e S')
  |none=>ZD stp dr lp n 0 hs (.region id ops M) (i+1) _ S λe S'=>match e with
   | .normal=>VL stp dr lp n hs c (i+2) S' h k
   |e=>h e S')
 | .seq a c,i,S,h,k=>ZD stp dr lp n 0 hs a (i+1) _ S λe S'=>match e with
     | .normal=>VL stp dr lp n hs c (i+1+xT a) S' h k
     |e=>h e S'
 |_,_,_,_,_=>H
def zel(P:Program)(s:Spec C)(fn:Func)(outs:List (XK×Sig))(f:FuncId)(caps:List (AV C.D))(v:AV C.D)(S:St C):U3 (zh C outs):=
 chk (N s.f f && zek S caps) ((YX s.ins S (caps++[v])).bind λz=>zbX s (vB - 1) z.1 z.2.1 z.2.2 λout=>match out with
  | .go S'=>(Wd P (S'.put (vB - 1) .und) fn.results.toList).bind λAs=>zU 0 outs .ret (xy As S'.heap)
  |_=>H)
noncomputable def zhK(q:Opts)(Γ:List (Spec C))(g h:Spec C)(lp:ZW)(P:Program)(fn:Func)(nr:Nat)(ins:Sig)(outs:List (XK×Sig))(hs:Nat->U3 Hint)(x:ins.ty C):U3 (zh C outs):=
 match fn.body with
 |none=>H
 |some c=>chk (W ins.ts.length fn.ntmps && (N fn.results.toList.length nr && (W nr 4 && N ins.es.length 0)))
     (VL (Y9 q Γ P fn.ntmps) (drw q Γ P fn.ntmps) lp fn.ntmps hs c 0 (ins.open x) (λe S=>match e with
       | .ret=>(Wd P S fn.results.toList).bind λAs=>zU 0 outs .ret (xy As S.heap)
       | .pan v=>zU 0 outs (.pan v) (xy [] S.heap)
       |_=>H) λf caps e S=>match e with
       | .ret=>zel P g fn outs f caps .nili S
       | .normal=>zel P g fn outs f caps .nili S
       | .pan v=>zel P h fn outs f caps v S
       |_=>H)
def VM(κ:Kp):List (AV C.D)->List Value->Prop
 |[],[]=>True
 | .pc k off::A,v::V=>(k < κ.m/\v = .pointer (E ((κ.ν0.adr k).add off)))/\VM κ A V
 |_,_=>False
theorem VM.of{Z:FS}{m:Nat}{h64:m<=64}:∀{caps:List (AV C.D)}{V:List Value},v8 m caps=O->VRs C Z ν V caps->VM (⟨m,h64,ν⟩:Kp) caps V
 |[],[],_,_=>trivial
 |A::As,[],_,h=>h.elim
 |[],v::V,_,h=>h.elim
 |A::As,v::V,hp,⟨h1,h2⟩=>by
  cases A<;>first | (simp[v8] at hp;done) | skip
  rename_i k off;simp only[v8,gf] at hp;exact⟨⟨by simpa[Da] using hp.1,h1⟩,VM.of hp.2 h2⟩
theorem zno{Z:FS}{m:Nat}:∀{caps:List (AV C.D)}{V:List Value},v8 m caps=O->VRs C Z ν V caps->∀v∈V,v.oneCell'=O
 |[],[],_,_=>λv i=>by cases i
 |A::As,[],_,h=>h.elim
 |[],v::V,_,h=>h.elim
 |A::As,v::V,hp,⟨h1,h2⟩=>by
  cases A<;>first | (simp[v8] at hp;done) | skip
  simp only[v8,gf] at hp;intro u g;rcases Db.1 g with e | e
  ·rw[e,show v = .pointer _ from h1];rfl
  ·exact zno hp.2 h2 u e
theorem VM.rs{κ:Kp}{S:St C}{L:List (Nat×Value)}{Z:FS}{PV:List Priv}(h:AbsL κ S ν vs ids L b Z PV):∀{caps:List (AV C.D)}{V:List Value},VM κ caps V->zek S caps=O->VRs C Z ν V caps/\AV.oks (λid=>(S.heap id).isSome=O) caps
 |[],[],_,_=>⟨trivial,trivial⟩
 |A::As,[],h,_=>by cases A<;>exact h.elim
 |[],v::V,h,_=>h.elim
 |A::As,v::V,g,e=>by
  cases A<;>first | exact g.elim | skip
  rename_i k off;let⟨⟨h1,h2⟩,i⟩:=g;simp only[zek,gf] at e;let⟨k1,k2⟩:=VM.rs h i e.2;refine⟨⟨?_,k1⟩,⟨e.1,k2⟩⟩;show v = .pointer (E ((ν.adr k).a.add off));rw[h2,(h.keep k h1 e.1).2.1]
theorem AbsL.rekey{κ e:Kp}{S:St C}{L:List (Nat×Value)}{Z:FS}{PV:List Priv}(h:AbsL κ S ν vs ids L b Z PV)(g:∀k,k < e.m->(S.heap k).isSome=O->ν.hdr k=e.ν0.hdr k/\(ν.adr k).a=(e.ν0.adr k).a/\(Z0 (S.heap k)=O->(ν.adr k).sub=(e.ν0.adr k).sub)):AbsL e S ν vs ids L b Z PV:=
 ⟨⟨h.nd,h.dom,h.pv,h.cell,h.env,h.one⟩,h.live,h.livec,g⟩
theorem AbsL.unput2{κ:Kp}{S:St C}{L:List (Nat×Value)}{Z:FS}{PV:List Priv}{d:Nat}(h:AbsL κ S ν vs ids ((d,v)::L) b Z PV):AbsL κ (S.put d .und) ν vs ids L b Z PV:=by
 refine⟨⟨h.nd,h.dom,h.pv,h.cell,λt=>?_,h.one⟩,λt=>?_,h.livec,h.keep⟩
 ·show VR C Z ν _ (upd S.env d .und t);by_cases e:t=d
  ·subst e;rw[zp];trivial
  ·rw[zq e];have:=h.env t;have g:look ((d,v)::L) b t=look L b t:=by
    show(bif N t d then v else look L b t)=_;have:N t d=false:=by
     cases hb:N t d with
     |false=>rfl
     |true=>exact absurd (ge hb) e
    rw[this];rfl
   grind
 ·show(upd S.env d .und t).ok _;by_cases e:t=d
  ·subst e;rw[zp];trivial
  ·rw[zq e];exact h.live t
theorem zoH   {caps : List Value} {w : World} (g : P.funcs[f]? = E fn) (e : (fn.name == "runtime.NumGoroutine") = M) (hb : fn.body.isNone = M) : (invoke (.fn (.func f) caps.toArray) #[]).run P w = .ok (.enter f caps.toArray) w := by
 simp only[invoke];unfold callFunc;simp only[UW,UY,UX,g,e,hb,jk,jp,UU,Array.empty_append]
theorem zk0 {s:Spec C}(hs:s.OKD P) {nr:Nat}{outs:List (XK×Sig)}{caps:List (AV C.D)}{v:AV C.D}{S:St C}{r:zh C outs}(t:zel P s fn outs f caps v S=E r)
    (c4:fn.results.toList.length=nr) (c2:fn.results.toList.length<=4) {κ G:Kp} (hκ:κ.m=0) {st:Start} {σ0:FS} (hgl:C.gl st.w σ0) {L:List (Nat×Value)} {b:Nat->Value} {Z:FS} {PV:List Priv} (hA:zC G S L b Z PV) {w:World} (hi:Inv st σ0 Z PV w) {tmps:Array Value} (T:∀i,tmps.getD i undef=look L b i)
    {V:List Value} (hV:VM G caps V) {rv:Value} (hrv:∀ν:Val,(∀i,(ν.hdr i).oneCell'=O)->VR C Z ν rv v) (hok:∀p:Nat->Prop,v.ok p) {u u2:FrameMode} (hrec:zsW rv u u2) (hu2:settle u2 = .returning) (l:u ≠.run) :
    Leaves P fn tmps (vk κ st σ0 nr outs r) [{target :=.fn (.func f) V.toArray,args:= #[]}] u w:=by
 unfold zel at t;let⟨hc,hr1⟩:=zb t;clear t;simp only[gf] at hc;have hf:=ge hc.1;subst hf;let⟨z,hz,hr2⟩:=gd hr1;rw[ze6] at hr2;let⟨out,ho,t⟩:=gd hr2;let⟨ν,vs,ids,hA⟩:=hA;let⟨k1,k2⟩:=VM.rs hA hV hc.2;let⟨fs,h1,h2,h3,hs⟩:=hs;refine leaves_cons l (zoH h1 h2 h3) ?_;have hvr:VRs C Z ν (V++[rv]) (caps++[v]):=VRs.of (by simp[k1.len]) λj u A l g=>by
  by_cases hj:j < caps.length
  ·rw[De hj] at g;rw[De (by rw[k1.len];exact hj)] at l;exact k1.rel l g
  · rw[Dd Zc] at g;rw[Dd (by rw[k1.len];omega),k1.len] at l;cases hd:j - caps.length with
    |zero=>rw[hd] at g l;simp at g l;subst g;subst l;exact hrv ν hA.one
    |succ m=>grind
 have F:AV.oks (λid=>(S.heap id).isSome=O) (caps++[v]):=AV.oks_iff.2 λA g=>by
  rcases U5.1 g with h | h
  ·exact AV.oks_iff.1 k2 A h
  grind
 have B:=ze3 (hs V rv u u2 hrec) (λh k=>CallsD.mono h λe u' w' hq=>⟨hq.1,k _ _ hq.2⟩) hgl (d:=vB - 1) (S2:=z.1) (bl:=z.2.1) (x:=z.2.2) hz hA hvr F ho hi;refine CallsD.mono B ?_;rintro e u' w' ⟨rfl,hq⟩;cases e with
 |outgrown=>exact hq.elim
 |panicked ch=>grind
 |returned v'=>
  obtain⟨S',Z',PV',rfl,hi',ν',vs',ids',g⟩:=hq;show Leaves P fn tmps _ [] (settle u') w';rw[hu2];have K:zC κ (S'.put (vB - 1) .und) L b Z' PV':=⟨ν',vs',ids',g.unput2.rekey λk hk=>jE⟩;have t:(Wd P (S'.put (vB - 1) .und) fn.results.toList).bind (λAs=>zU κ.m outs .ret (xy As (S'.put (vB - 1) .und).heap))=E r:=by rw[hκ];exact t
  let⟨v,h1,h2⟩:=zna (nr:=nr) c4 c2 t K hi' T;exact⟨v,h1,h2⟩
theorem zrs {stp:yR C}{dr:YD C}{lp:ZW}{n:Nat}{hs:Nat->U3 Hint}{w0:Start}{σ0:FS}(B:C.gl w0.w σ0) (z:∀ [Dfr] κ,xQ P n κ stp) (hdr:∀ [Dfr] κ,vO P n κ dr) (hlp:xx lp) {κ:Kp}(T:κ.m=0)
    {KA:XE C->St C->U3 ρ} {KB:FuncId->List (AV C.D)->XE C->St C->U3 ρ} {r:ρ} {Q:Exit->Act->World->Prop}
    (A:∀e a w,e ≠.normal->@Zi dfr0 C ρ n w0 σ0 κ KA r e a w->Q e a w)
    (hKB:∀(F:Kp) f caps V,VM F caps V->∀e a w,@Zi ⟨[{target :=.fn (.func f) V.toArray,args:= #[]}]⟩ C ρ n w0 σ0 F (KB f caps) r e a w->Q e a w) :
    ∀(c:Code) (i:Nat) (S:St C),VL stp dr lp n hs c i S KA KB=E r->∀(a:Act) (w:World),@At dfr0 C n w0 σ0 κ S a w->c.wp P Q a w:=by
 have plain:∀(x c:Code) (i j:Nat) (S:St C),(∀(S:St C),VL stp dr lp n hs c j S KA KB=E r->∀(a:Act) (w:World),@At dfr0 C n w0 σ0 κ S a w->c.wp P Q a w)->
     (ZD stp dr lp n 0 hs x i _ S λe S'=>match e with
     | .normal=>VL stp dr lp n hs c j S' KA KB
     |e=>KA e S')=E r->∀(a:Act) (w:World),@At dfr0 C n w0 σ0 κ S a w->(qb x c).wp P Q a w:=by
  intro x c i j S K h a w hA;rw[<- T] at h;refine wp_seq (wp_mono (@yT dfr0 κ C n w0 σ0 P stp dr lp hs B (z κ) (hdr κ) hlp x i _ _ _ _ h a w hA) ?_);intro e a w s;cases e with
  |normal=>let⟨S',p,u⟩:=s;exact K _ p _ _ u
  |exit j=>exact A _ _ _ je s
  |ret=>exact A _ _ _ je s
  |panic ch=>exact A _ _ _ je s
  |goto l=>exact s.elim
  |outgrown=>exact s.elim
 intro c
 induction c with
 |seq x c _ K=>
  intro i S h a w hA;cases x with
  |region id ops dw=>
   cases dw with
   |true=>exact plain _ c _ _ S (K _) h a w hA
   |false=>
    unfold VL at h;split at h
    · rename_i l t hl;let⟨o,e1,e2,e3,ts,e4⟩:=zkZ hl;refine wp_seq (wp_region_list ?_);rw[e1];have hx:=@YW dfr0 κ C n w0 σ0 P ρ stp B (z κ) ops l S _ r h a w hA;refine xc (λa w s=>?_) (λch a w s=>?_) (λa w s=>s.elim) l hx
      case refine_2=>
        let⟨v,S',p,u⟩:=s;exact A _ _ _ je ⟨v,S',p,u⟩
      let⟨S',p,u⟩:=s
      have p:(match hs (i+1) with
       |some (.loop g _)=>(g.close 0 S').bind λx0=>(match(g.open x0).env t with
        | .clo f caps=>chk (v8 g.es.length caps && W g.es.length 64) (ZD stp dr lp n g.es.length hs c (i+2) _ (g.open x0) (KB f caps))
        |_=>H)
       |_=>H)=E r:=p
      split at p
      case h_2=>cases p
      rename_i g _ _;let⟨x0,hx0,p⟩:=gd p;rw[<- T] at hx0;let⟨L,b,Z,PV,⟨ν,vs,ids,G⟩,hi,hf⟩:=@At.close dfr0 _ _ _ _ _ _ _ _ _ _ hx0 u;split at p
      case h_2=>cases p
      rename_i f caps hclo;let⟨hc,p⟩:=zb p;simp only[gf] at hc;have h64:=Dg hc.2;have hv:=G.env t;rw[hclo] at hv;let⟨V,hv1,hv2⟩:=hv;rw[zm6 f (zno hc.1 hv2)] at hv1;have hcap:=VM.of (h64:=h64) hc.1 hv2;refine wpList_plain e2 λKw hK=>?_
      unfold X;have hev:(execOp a.eval o).run P w = .ok (.defer {target :=.fn (.func f) V.toArray,args:= #[]}) w:=by
       rw[hf.eval];simp only[execOp,e4,resolve,opv,hv1,Deferred.ofValue,UW,UU,UX];simp
      rw[hev];show Kw _ w;refine hK _ _ ?_;show Exit.then _ Q .normal _ w;have hd:a.defers=[]:=hf.defers;have hsz:=hf.size;have hgt:=hf.get
      let D:Dfr:=⟨[{target :=.fn (.func f) V.toArray,args:= #[]}]⟩
      have hf2:@Fits D n L b (Act.put {a with defers:={target :=.fn (.func f) V.toArray,args:= #[]}::a.defers} o.dst undef):=by
       rw[e3];exact⟨by show _::a.defers=_;rw[hd];rfl,hsz,hgt⟩
      have hA3:@At D C n w0 σ0 ⟨g.es.length,h64,ν⟩ (g.open x0) (Act.put {a with defers:={target :=.fn (.func f) V.toArray,args:= #[]}::a.defers} o.dst undef) w:=
       ⟨L,b,Z,PV,⟨ν,vs,ids,G.rekey λk _ _=>⟨rfl,rfl,λ_=>rfl⟩⟩,hi,hf2⟩
      exact wp_mono (@yT D ⟨g.es.length,h64,ν⟩ C n w0 σ0 P stp dr lp hs B (@z D _) (@hdr D _) hlp c (i+2) _ _ _ _ p _ _ hA3) (hKB _ f caps V hcap)
    ·exact plain _ c _ _ S (K _) h a w hA
  |_=>exact plain _ c _ _ S (K _) h a w hA
 |_=>intro i S h;cases h
theorem zhL  {Γ : List (Spec C)} (hΓ : ∀ s ∈ Γ, s.OK P) {sr sp : Spec C} (hsr : sr.OKD P) (hsp : sp.OKD P) (hm : P.follows .mixedOrders = O) {lp : ZW} (hlp : xx lp)   {nr : Nat}   (hs : Nat -> U3 Hint) (hf : P.funcs[f]? = E fn) (hnm : (fn.name == "runtime.NumGoroutine") = M) (hbs : fn.body.isNone = M) {F : ins.ty C -> U3 (zh C outs)} (hF : ∀ x, F x = zhK q Γ sr sp lp P fn nr ins outs hs x) :
    Spec.OK P ⟨f,nr,ins,outs,F⟩:=by
 refine⟨fn,hf,hnm,hbs,?_⟩;intro x r T κ st Z hg PV ν vs ids args hm' t hA hpre;have T:zhK q Γ sr sp lp P fn nr ins outs hs x=E r:=jE
 unfold zhK at T;split at T
 ·cases T
 rename_i c hb;let⟨hc,T⟩:=zb T;simp only[gf] at hc;let⟨c1,c4,c2,c3⟩:=hc;have c4:=ge c4;have c2:fn.results.toList.length<=4:=by rw[c4];exact Dg c2
 have G:κ.m=0:=by rw[show κ.m=ins.es.length from hm'];exact ge c3
 have t:args.length=ins.ts.length:=t;have hn:args.length<=fn.ntmps:=by rw[t];exact Dg c1
 have hat:@At dfr0 C fn.ntmps st Z κ (ins.open x) {tmps:=args.toArray++qk (fn.ntmps - args.toArray.size) undef,defers:=[]} st.w:=⟨_,_,Z,PV,⟨ν,vs,ids,hA⟩,hpre.inv,vW hn⟩;refine calls_of_wp_defers hf hb (zrs hg (λκ=>zej hΓ fn.ntmps κ) (λκ=>zgq hΓ hm fn.ntmps κ) hlp G ?_ ?_ c 0 _ T _ _ hat)
 · intro e a w hne B;cases e with
   |normal=>grind
   |ret=>
    obtain⟨S',k,i⟩:=B;have hd:a.defers=[]:=i.defers;obtain⟨v,h1,h2⟩:=zdh (κ:=κ) (nr:=nr) c4 c2 (by rw[G];exact k) i;show Leaves P fn a.tmps _ a.defers .returning w;rw[hd];exact⟨v,h1,h2⟩
   |exit j=>let⟨S',k,i⟩:=B;cases k
   |panic ch=>
    let⟨v,S',k,i⟩:=B;obtain⟨u,L,b,Z',PV',rfl,hp,⟨ν',vs',K,i⟩,D,A⟩:=i;have hd:a.defers=[]:=A.defers;show Leaves P fn a.tmps _ a.defers (.panicking _) w;rw[hd];have hav:AbsL κ (xy [] S'.heap) ν' vs' K [] (λ_=>undef) Z' PV':=zbQ (us:=[]) i trivial trivial;have k:zU κ.m outs (.pan v) (xy [] S'.heap)=E r:=jE
    show vk κ st Z nr outs r _ w;refine YL k λg y hy e' he=>?_
    cases e'<;>first | exact he.elim | skip
    obtain⟨s,z,hz,rfl⟩:=he;let⟨σ2,PV2,hl,hi2,h2⟩:=Wc hy ⟨ν',vs',K,hav⟩ D;exact⟨u,σ2,PV2,rfl,hi2,hp.again hl hz,h2⟩
   |goto l=>exact B.elim
   |outgrown=>exact B.elim
 · intro κ' f' caps V hV e a w B;have ret:∀{S':St C},zel P sr fn outs f' caps .nili S'=E r->@At ⟨[{target :=.fn (.func f') V.toArray,args:= #[]}]⟩ C fn.ntmps st Z κ' S' a w->Leaves P fn a.tmps (vk κ st Z nr outs r) a.defers .returning w:=by
     intro S' k i;have hd:=@At.defers ⟨_⟩ _ _ _ _ _ _ _ _ i;let⟨L,b,Z',PV',i,D,A⟩:=i;rw[hd];exact zk0 hsr k c4 c2 G hg i D (@Fits.get ⟨_⟩ _ _ _ _ A) hV (rv :=.nilIface) (λν _=>Rv.nili) (λ_=>trivial) (u2 :=.returning) (.inl ⟨rfl,rfl,rfl⟩) rfl je
   cases e with
   |normal=>let⟨S',k,i⟩:=B;exact ret k i
   |ret=>let⟨S',k,i⟩:=B;exact ret k i
   |exit j=>let⟨S',k,i⟩:=B;cases k
   |panic ch=>
    let⟨v,S',k,i⟩:=B;obtain⟨u,L,b,Z',PV',rfl,hp,i,D,A⟩:=i;have hd:=@Fits.defers ⟨_⟩ _ _ _ _ A;show Leaves P fn a.tmps _ a.defers (.panicking _) w;rw[hd];exact zk0 hsp k c4 c2 G hg i D (@Fits.get ⟨_⟩ _ _ _ _ A) hV (rv:=u) hp.2 (λp=>AV.ok_mono (λ_ h=>h.elim) hp.1) (u2 :=.panicking [{v:=u,recovered:=true}]) (.inr ⟨rfl,rfl⟩) rfl je
   |goto l=>exact B.elim
   |outgrown=>exact B.elim
end
section
variable {P:Program}{w0:Start}{σ0 Z:FS}{PV:List Priv}{w:World}
variable {L:List (Nat×Value)}{bb:Nat->Value}{mt kt et:TypeId}{ty:TypeId}{ps:String}{af:Array Edge}{d:Nat}
theorem zmX:(execOp (opv L bb) ⟨E d,.makeMap mt H,ty,ps,af,H⟩).run P w = .ok (.value (.map (E w.heap.size))) (w.alloc (.map #[] 0)):=by
 simp[execOp,Instr.makeMap,Y]
theorem zgr {es:Array MapEntry}{e:Nat}(s:P.underlying mt=E (.map kt et)) (h:P.underlying kt=E .string) (i:opv L bb x = .map (E r)) (hb:w.heap[r]?=E (.map es e)) (g:Instr.findNow .string (.string k1) es.toList 0=E H) :
    (execOp (opv L bb) ⟨H,.insert mt x (.const (.string k1)) (.const v1),ty,ps,af,H⟩).run P w = .ok .skip {w with heap:=w.heap.setIfInBounds r (.map (es.push {key :=.string k1,val:=v1,born:=e}) (e+1))}:=by
 have l:opv L bb (.const (.string k1)) = .string k1:=rfl;have u:opv L bb (.const v1)=v1:=rfl;have h1:=D5 (P:=P) hb;have h2:=MapKept.run_checkKey (P:=P) (w:=w) h (k :=.string k1) trivial M 9999;have t:=MapKept.run_findKey (P:=P) (w:=w) h g;have p:=MapKept.run_setObj_map (P:=P) (.map (es.push {key :=.string k1,val:=v1,born:=e}) (e+1)) hb;simp[execOp,Instr.mapUpdate,i,l,u,UV s,h1,h2,t,p,Y]
theorem zk1 {es:Array MapEntry}{e:Nat}(h:P.underlying mt=E (.map kt et)) (g:opv L bb x = .map (E r)) (hb:w.heap[r]?=E (.map es e)) :
    (execOp (opv L bb) ⟨E d,.range mt x,ty,ps,af,H⟩).run P w = .ok (.value (.pointer (E ⟨w.heap.size,0,H⟩))) (w.alloc (.mapIter (E r) e #[] e)):=by
 simp[execOp,Instr.range,g,UV h,D5 hb,Y]
theorem yV{m:U3 Nat}{s:Nat}{c:Nat}(hb:w.heap[r]?=E (.mapIter m s seen c)):(getObj r).run P w = .ok (.mapIter m s seen c) w:=by
 simp[getObj,Sem.run,hb]
theorem Xp{m:U3 Nat}{s:Nat}{c:Nat}(o:Obj)(hb:w.heap[r]?=E (.mapIter m s seen c)):(setObj r o).run P w = .ok () {w with heap:=w.heap.setIfInBounds r o}:=by
 simp[setObj,Sem.run,hb]
def Xn(k1 k2:ByteArray)(v1 v2:Value):Array MapEntry:= #[{key :=.string k1,val:=v1,born:=0},{key :=.string k2,val:=v2,born:=1}]
theorem zrt {R I:Nat}{s:U3 Unit}(hx:opv L bb x = .pointer (E ⟨I,0,H⟩)) (hI:w.heap[I]?=E (.mapIter (E R) 2 #[] 2)) (hR:w.heap[R]?=E (.map (Xn k1 k2 v1 v2) 2)) :
    let r:=(execOp (opv L bb) ⟨E d,.next x M,ty,ps,af,H⟩).run P w
    r = .ok (.value (.tuple #[.bool O,.string k1,v1])) {w.drew with heap:=w.drew.heap.setIfInBounds I (.mapIter (E R) 2 #[0] 2)}\/r = .ok (.value (.tuple #[.bool O,.string k2,v2])) {w.drew with heap:=w.drew.heap.setIfInBounds I (.mapIter (E R) 2 #[1] 2)}:=by
 intro r;have hI2:w.drew.heap[I]?=E (.mapIter (E R) 2 #[] 2):=hI;have h2:w.tape w.drawn (.mapNext 2) % 2=0\/w.tape w.drawn (.mapNext 2) % 2=1:=by omega
 rcases h2 with h2 | h2
 ·left;show(execOp (opv L bb) _).run P w=_;simp[execOp,Instr.next,hx,yV hI,D5 hR,Xp _ hI2,Y,Xn,qc,qv,h2]
 ·right;show(execOp (opv L bb) _).run P w=_;simp[execOp,Instr.next,hx,yV hI,D5 hR,Xp _ hI2,Y,Xn,qc,qv,h2]
theorem zru {R I:Nat}(i:opv L bb x = .pointer (E ⟨I,0,H⟩)) (e:w.heap[I]?=E (.mapIter (E R) 2 #[0] 2)) (g:w.heap[R]?=E (.map (Xn k1 k2 v1 v2) 2)) :
    (execOp (opv L bb) ⟨E d,.next x M,ty,ps,af,H⟩).run P w = .ok (.value (.tuple #[.bool O,.string k2,v2])) {w with heap:=w.heap.setIfInBounds I (.mapIter (E R) 2 #[0,1] 2)}:=by
 simp[execOp,Instr.next,i,yV e,D5 g,Xp _ e,Y,Xn,qc];rw[jx (λh=>by have:=h 0 Zc;simp at this)]
theorem zoI {R I:Nat}(i:opv L bb x = .pointer (E ⟨I,0,H⟩)) (e:w.heap[I]?=E (.mapIter (E R) 2 #[1] 2)) (g:w.heap[R]?=E (.map (Xn k1 k2 v1 v2) 2)) :
    (execOp (opv L bb) ⟨E d,.next x M,ty,ps,af,H⟩).run P w = .ok (.value (.tuple #[.bool O,.string k1,v1])) {w with heap:=w.heap.setIfInBounds I (.mapIter (E R) 2 #[1,0] 2)}:=by
 simp[execOp,Instr.next,i,yV e,D5 g,Xp _ e,Y,Xn,qc];rw[jx (λh=>by have:=h 0 Zc;simp at this)]
theorem zrv {R I:Nat}(hs:seen = #[0,1]\/seen = #[1,0]) (i:opv L bb x = .pointer (E ⟨I,0,H⟩)) (g:w.heap[I]?=E (.mapIter (E R) 2 seen 2)) (e:w.heap[R]?=E (.map (Xn k1 k2 v1 v2) 2)) :
    (execOp (opv L bb) ⟨E d,.next x M,ty,ps,af,H⟩).run P w = .ok (.value (.tuple #[.bool M])) w:=by
 rcases hs with rfl | rfl<;>
 (simp[execOp,Instr.next,i,yV g,D5 e,Y,Xn,qc];rw[jx (λh=>by have:=h 0 Zc;simp at this)])
theorem ziK {R I:Nat}(i:opv L bb x = .pointer (E ⟨I,0,H⟩)) (g:w.heap[I]?=E (.mapIter (E R) 2 seen 2)) (e:w.heap[R]?=E (.map (Xn k1 k2 v1 v2) 2)) :
    (seen.back?=E 0->(execOp (opv L bb) ⟨E d,.entry x,ty,ps,af,H⟩).run P w = .ok (.value (.tuple #[.string k1,v1])) w)/\(seen.back?=E 1->(execOp (opv L bb) ⟨E d,.entry x,ty,ps,af,H⟩).run P w = .ok (.value (.tuple #[.string k2,v2])) w):=by
 refine⟨λh=>?_,λh=>?_⟩<;>
 simp[execOp,Instr.entry,i,yV g,h,D5 e,Y,Xn]
end
structure MapM where
 mt:TypeId
 kt:TypeId
 r:Nat
 s:Nat
 it:Nat
 x:Nat
 y:Nat
 b:Nat
 b2:Nat
 k1:ByteArray
 k2:ByteArray
 v1:Value
 v2:Value
 ops1:Array Oper
 ops2:Array Oper
 l1:List Oper
 l2:List Oper
 cnd:Code
 rest:Code
def mapM(P:Program):Code->U3 MapM
 | .seq (.region _ ops M) (.block b (.loop (.seq (.region _ e M) (.seq i (.block b2 (.seq (.region _ g M) h))))))=>
  (match ops.toList,e.toList,g.toList with
  |[⟨E r,.makeMap mt H,_,_,_,H⟩,⟨H,.insert mt1 (.tmp r1) (.const (.string k1)) (.const v1),_,_,_,H⟩,⟨H,.insert mt2 (.tmp r2) (.const (.string k2)) (.const v2),_,_,_,H⟩,⟨E s,.move (.tmp r3),_,_,_,H⟩,⟨E it,.range mt3 (.tmp s1),_,_,_,H⟩],
   ⟨E x,.next (.tmp i1) M,_,_,_,H⟩::l1,⟨E y,.entry (.tmp i2),_,_,_,H⟩::l2=>
   (match P.underlying mt with
   |some (.map kt _)=>(match P.underlying kt with
    |some .string=>chk (N mt1 mt && (N mt2 mt && (N mt3 mt && (N r1 r && (N r2 r && (N r3 r && (N s1 s && (N i1 it && (N i2 it && !(k2 == k1)))))))))) (E ⟨mt,kt,r,s,it,x,y,b,b2,k1,k2,v1,v2,e,g,l1,l2,i,h⟩)
    |_=>H)
   |_=>H)
  |_,_,_=>H)
 |_=>H
theorem zwP {P:Program}{m:MapM}(h:mapM P c=E m):∃id id1 id2 ops et,c = .seq (.region id ops M) (.block m.b (.loop (.seq (.region id1 m.ops1 M) (.seq m.cnd (.block m.b2 (.seq (.region id2 m.ops2 M) m.rest))))))/\
    P.underlying m.mt=E (.map m.kt et)/\P.underlying m.kt=E .string/\(m.k2 == m.k1)=M/\
    (∃F K p ty2 G z ty3 T D e A V l u i,ops.toList=[⟨E m.r,.makeMap m.mt H,F,K,p,H⟩,⟨H,.insert m.mt (.tmp m.r) (.const (.string m.k1)) (.const m.v1),ty2,G,z,H⟩,⟨H,.insert m.mt (.tmp m.r) (.const (.string m.k2)) (.const m.v2),ty3,T,D,H⟩,⟨E m.s,.move (.tmp m.r),e,A,V,H⟩,⟨E m.it,.range m.mt (.tmp m.s),l,u,i,H⟩])/\
    (∃ty ps af,m.ops1.toList=⟨E m.x,.next (.tmp m.it) M,ty,ps,af,H⟩::m.l1)/\∃ty ps af,m.ops2.toList=⟨E m.y,.entry (.tmp m.it),ty,ps,af,H⟩::m.l2:=by
 unfold mapM at h;split at h
 case h_2=>cases h
 split at h
 case h_2=>cases h
 rename_i e1 e2 e3;split at h
 case h_2=>cases h
 rename_i kt et hmt;split at h
 case h_2=>cases h
 rename_i B;let⟨hc,h⟩:=zb h;simp only[gf,Dw] at hc;let⟨k,a2,a3,a4,a5,a6,a7,t,a9,g⟩:=hc;have k:=ge k;have a2:=ge a2;have a3:=ge a3;have a4:=ge a4;have a5:=ge a5;have a6:=ge a6;have a7:=ge a7;have t:=ge t;have a9:=ge a9;cases h;subst k;subst a2;subst a3;subst a4;subst a5;subst a6;subst a7;subst t;subst a9;exact⟨_,_,_,_,et,rfl,hmt,B,g,⟨_,_,_,_,_,_,_,_,_,_,_,_,_,_,_,e1⟩,⟨_,_,_,e2⟩,⟨_,_,_,e3⟩⟩
section
variable {C:Cod}{P:Program}{ρ:Type}
def zhM(e j:Nat)(S:St C):Bool:=(match S.env e with
 | .pc j' 0=>N j' j
 |_=>M) && (S.heap j).isSome
section
variable (stp:yR C)(dr:YD C)(lp:ZW)(n:Nat)(hs:Nat->U3 Hint)(mm nc nr:Nat)(m:MapM)(j:Nat)
def Vp(S:St C)(nx:AV C.D)(K:XE C->St C->U3 ρ):U3 ρ:=
 chk (zhM m.it j S && U m.x n) (ZJ stp n m.ops1 m.l1 (S.put m.x nx) λe S'=>match e with
  | .normal=>ZD stp dr lp n mm hs m.cnd nc _ S' K
  |_=>H)
def zhN(k:ByteArray)(v:Value)(K:XE C->St C->U3 ρ)(S1:St C):U3 ρ:=
 chk (zhM m.it j S1 && U m.y n) (ZJ stp n m.ops2 m.l2 (S1.put m.y (.tup [.str k,ZY v])) λe S2=>match e with
  | .normal=>ZD stp dr lp n mm hs m.rest nr _ S2 λe g=>match e with
   | .exit i=>bif N i m.b2 then K .normal g else bif N i m.b then H else K (.exit i) g
   |e=>K e g
  |_=>H)
def mapIter(S:St C)(k:ByteArray)(v:Value)(K:XE C->St C->U3 ρ):U3 ρ:=
 Vp stp dr lp n hs mm nc m j S (.tup [.bool O,.str k,ZY v]) λe S1=>match e with
  | .normal=>zhN stp dr lp n hs mm nr m j k v K S1
  |_=>H
def WX(K:XE C->St C->U3 ρ)(S:St C):U3 ρ:=
 Vp stp dr lp n hs mm nc m j S (.tup [.bool M]) λe S'=>match e with
  | .exit i=>bif N i m.b then K .normal S' else H
  |_=>H
def zb8(f:St C->U3 ρ)(K:XE C->St C->U3 ρ):XE C->St C->U3 ρ:=λe S=>match e with
 | .normal=>f S
 |e=>K e S
noncomputable def zhO(K:XE C->St C->U3 ρ)(S:St C):U3 ρ:=
 yh (mapIter stp dr lp n hs mm nc nr m j S m.k1 m.v1 (zb8 (λS=>mapIter stp dr lp n hs mm nc nr m j S m.k2 m.v2 (zb8 (WX stp dr lp n hs mm nc m j K) K)) K))
  (mapIter stp dr lp n hs mm nc nr m j S m.k2 m.v2 (zb8 (λS=>mapIter stp dr lp n hs mm nc nr m j S m.k1 m.v1 (zb8 (WX stp dr lp n hs mm nc m j K) K)) K))
end
def zk2(m:MapM)(S:St C):St C:=
 {env:=upd (upd (upd S.env m.r .und) m.s .und) m.it (.pc (nid m.it 0) 0),heap:=upd S.heap (nid m.it 0) (E (.cell []))}
noncomputable def zhP(stp:yR C)(dr:YD C)(lp:ZW)(n:Nat)(hs:Nat->U3 Hint)(mm:Nat)(m:MapM)(i:Nat)(S:St C)(K:XE C->St C->U3 ρ):U3 ρ:=match hs i,hs (i+1) with
 |some (.cut outs),E (.loop g _)=>chk (isNone (S.heap (nid m.it 0)) && (U m.r n && (U m.s n && (U m.it n && (W mm (nid m.it 0) && (W g.es.length 64 && (W mm g.es.length && (g.es.take mm).all λe=> !e.isGone)))))))
     ((g.close mm (zk2 m S)).bind λh=>(match(g.open h).env m.it with
       | .pc j 0=>chk (U j g.es.length) ((zhO stp dr lp n hs g.es.length (i+7) (i+7+xT m.cnd+3) m j (λe S'=>zU mm outs e S') (g.open h)).bind λy=>zT outs y K)
       |_=>H))
 |_,_=>H
section
variable [Dfr]{κ:Kp}{S:St C}{n:Nat}{w0:Start}{σ0:FS}{a:Act}{w:World}
def AtM(n:Nat)(w0:Start)(σ0:FS)(κ:Kp)(R I:Nat)(om oi:Obj)(S:St C)(a:Act)(w:World):Prop:=∃L b Z PV,zC κ S L b Z PV/\Inv w0 σ0 Z (PV++[.obj R om,.obj I oi]) w/\Fits n L b a
def zAR(n:Nat)(w0:Start)(σ0:FS)(κ:Kp)(R I:Nat)(om oi:Obj)(v:AV C.D)(S:St C)(e:List PanicEntry)(a:Act)(w:World):Prop:=∃u L b Z PV,e=[{v:=u,recovered:=false}]/\Xy C Z u v/\zC κ S L b Z PV/\Inv w0 σ0 Z (PV++[.obj R om,.obj I oi]) w/\Fits n L b a
def XW(n:Nat)(w0:Start)(σ0:FS)(κ:Kp)(R I:Nat)(om oi:Obj)(S:St C)(e:XE C)(x:Exit)(a:Act)(w:World):Prop:=match e,x with
 | .normal,.normal=>AtM n w0 σ0 κ R I om oi S a w
 | .exit i,.exit j=>i=j/\AtM n w0 σ0 κ R I om oi S a w
 | .ret,.ret=>AtM n w0 σ0 κ R I om oi S a w
 | .pan v,.panic g=>zAR n w0 σ0 κ R I om oi v S g a w
 |_,_=>False
theorem Zi.rel{K:XE C->St C->U3 ρ}{r:ρ}{x:Exit}(h:Zi n w0 σ0 κ K r x a w):∃e S',K e S'=E r/\zfq n w0 σ0 κ S' e x a w:=by
 cases x with
 |normal=>let⟨S',h1,h2⟩:=h;exact⟨.normal,S',h1,h2⟩
 |exit i=>let⟨S',h1,h2⟩:=h;exact⟨.exit i,S',h1,rfl,h2⟩
 |ret=>let⟨S',h1,h2⟩:=h;exact⟨.ret,S',h1,h2⟩
 |panic g=>let⟨v,S',h1,h2⟩:=h;exact⟨.pan v,S',h1,h2⟩
 |goto l=>exact h.elim
 |outgrown=>exact h.elim
theorem AtM.frame{R I:Nat}{om oi:Obj}(G:C.gl w0.w σ0)(h:AtM n w0 σ0 κ R I om oi S a w):∃p Z,C.gl w Z/\At n ⟨w,p⟩ Z κ S a w/\∀{S':St C}{e x a' w'},zfq n ⟨w,p⟩ Z κ S' e x a' w'->XW n w0 σ0 κ R I om oi S' e x a' w':=by
 let⟨L,b,Z,PV,hA,hi,hf⟩:=h;let⟨gg,t,A⟩:=hi.own;let⟨p,f2,s1,V,z,l2,T⟩:=t.split;have F:Inv ⟨w,p⟩ Z Z PV w:=Inv.start hi.sub s1 (A.sub.mono z) (A.mono z).apart;refine⟨p,Z,C.glm hi.le hi.ext G,⟨L,b,Z,PV,hA,F,hf⟩,?_⟩;have key:∀{S':St C} {a' w'},At n ⟨w,p⟩ Z κ S' a' w'->AtM n w0 σ0 κ R I om oi S' a' w':=by
  rintro S' a' w' ⟨K,B,D,i,g,k,l⟩;exact⟨K,B,D,i,g,hi.call A V z l2 T k,l⟩
 intro S' e x a' w' s;unfold zfq at s;unfold XW;split at s
 ·exact key s
 ·grind
 ·exact key s
 ·let⟨u,K,B,D,i,h1,h2,g,k,l⟩:=s;exact⟨u,K,B,D,i,h1,h2,g,hi.call A V z l2 T k,l⟩
 grind
theorem zvb {R I:Nat}{om oi:Obj}(p:C.gl w0.w σ0) {stp:yR C}(i:xQ P n κ stp) {ops:Array Oper}{l:List Oper}{K:XE C->St C->U3 ρ}{r:ρ}(h:ZJ stp n ops l S K=E r) (hA:AtM n w0 σ0 κ R I om oi S a w) :
    wpList P ops (λx a w=>∃e S',K e S'=E r/\XW n w0 σ0 κ R I om oi S' e x a w) l a w:=by
 let⟨z,Z,t,s,g⟩:=hA.frame p;have:=xc (l2:=[]) (Q':=λx a w=>∃e S',K e S'=E r/\XW n w0 σ0 κ R I om oi S' e x a w) (λa w k=>?_) (λu a w k=>?_) (λa w k=>?_) l (YW t i l h s)
 ·grind
 ·let⟨e,S',h1,h2⟩:=k.rel;exact⟨e,S',h1,g h2⟩
 ·let⟨e,S',h1,h2⟩:=k.rel;grind
 ·exact k.elim
theorem zrw {R I:Nat}{om oi:Obj}(l:C.gl w0.w σ0) {stp:yR C}{dr:YD C}{lp:ZW}{hs:Nat->U3 Hint}(g:xQ P n κ stp) (hdr:vO P n κ dr) (p:xx lp) {i:Nat}{K:XE C->St C->U3 ρ}{r:ρ}(h:ZD stp dr lp n κ.m hs c i _ S K=E r) (hA:AtM n w0 σ0 κ R I om oi S a w) :
    c.wp P (λx a w=>∃e S',K e S'=E r/\XW n w0 σ0 κ R I om oi S' e x a w) a w:=by
 let⟨z,Z,t,s,k⟩:=hA.frame l;refine wp_mono (yT t g hdr p c i _ _ _ _ h _ _ s) λx a w u=>?_
 let⟨e,S',h1,h2⟩:=u.rel;grind
theorem AtM.put{R I:Nat}{om oi:Obj}(h:AtM n w0 σ0 κ R I om oi S a w){d:Nat}{A:AV C.D}(hd:U d n=O)(i:∀Z ν,VR C Z ν v A)(e:∀p:Nat->Prop,A.ok p):AtM n w0 σ0 κ R I om oi (S.put d A) (a.put (E d) v) w:=by
 let⟨L,b,Z,PV,⟨ν,vs,ids,hA⟩,hi,g⟩:=h;exact⟨_,b,Z,PV,⟨ν,vs,ids,hA.put (i _ _) (e _)⟩,hi,g.put (by simpa[Da] using hd) _⟩
theorem AtM.obj{R I:Nat}{om oi:Obj}(h:AtM n w0 σ0 κ R I om oi S a w):w.heap[R]?=E om/\w.heap[I]?=E oi:=by
 let⟨L,b,Z,PV,_,hi,_⟩:=h;exact⟨hi.objAt (m:=PV.length) jE,hi.objAt (m:=PV.length+1) jE⟩
theorem AtM.setI{R I:Nat}{om oi e:Obj}(i:xv oi=M)(g:xv e=M)(h:AtM n w0 σ0 κ R I om oi S a w):AtM n w0 σ0 κ R I om e S a {w with heap:=w.heap.setIfInBounds I e }:=by
 let⟨L,b,Z,PV,hA,hi,k⟩:=h;have:=hi.setObj (r:=I) (o:=oi) (o':=e) (m:=PV.length+1) i g jE;rw[List.set_append_right _ _ Zc] at this;exact⟨L,b,Z,PV,hA,by simpa using this,k⟩
theorem AtM.drew{R I:Nat}{om oi:Obj}(h:AtM n w0 σ0 κ R I om oi S a w):AtM n w0 σ0 κ R I om oi S a w.drew:=by
 let⟨L,b,Z,PV,hA,hi,e⟩:=h;exact⟨L,b,Z,PV,hA,hi.drew,e⟩
theorem AtM.iter{R I:Nat}{om oi:Obj}(h:AtM n w0 σ0 κ R I om oi S a w){i j:Nat}(l:j < κ.m)(hit:zhM i j S=O)(s:(κ.ν0.adr j).a=⟨I,0,H⟩):∃L b,a.eval=opv L b/\opv L b (.tmp i) = .pointer (E ⟨I,0,H⟩):=by
 let⟨L,b,Z,PV,⟨ν,vs,ids,hA⟩,hi,p⟩:=h;refine⟨L,b,p.eval,?_⟩;unfold zhM at hit;simp only[gf] at hit;have g:=hA.env i;split at hit
 ·rename_i k e;have:=ge hit.1;subst this;rw[e] at g;have g:look L b i = .pointer (E ((ν.adr k).a.add 0)):=g;rw[(hA.keep k l hit.2).2.1,s] at g;exact g
 ·cases hit.1
theorem XW.normal{R I:Nat}{om oi:Obj}{S':St C}{e:XE C}(h:XW n w0 σ0 κ R I om oi S' e .normal a w):e = .normal/\AtM n w0 σ0 κ R I om oi S' a w:=by
 cases e<;>first | exact h.elim | exact⟨rfl,h⟩
section
variable {stp:yR C}{dr:YD C}{lp:ZW}{hs:Nat->U3 Hint}{R I:Nat}{om oi:Obj}{Q:Exit->Act->World->Prop}{y:ρ}{m:MapM}{nc nr j:Nat}
theorem znp (l:C.gl w0.w σ0) (g:xQ P n κ stp) (hdr:vO P n κ dr) (p:xx lp) {nx:AV C.D}{K:XE C->St C->U3 ρ}{i:Code}(h:(ZJ stp n m.ops1 m.l1 (S.put m.x nx) λe S'=>match e with
    | .normal=>ZD stp dr lp n κ.m hs m.cnd nc _ S' K
    |_=>H)=E y) (hA:AtM n w0 σ0 κ R I om oi (S.put m.x nx) a w)
    (t:∀e S' x a w,K e S'=E y->XW n w0 σ0 κ R I om oi S' e x a w->Exit.then (i.wp P Q) Q x a w):wpList P m.ops1 (Exit.then ((qb m.cnd i).wp P Q) Q) m.l1 a w:=by
 have s:=zvb l g h hA;have:=xc (l2:=[]) (Q':=Exit.then ((qb m.cnd i).wp P Q) Q) (λa w k=>?_) (λu a w k=>?_) (λa w k=>?_) m.l1 s
 ·grind
 ·let⟨e,S',h1,h2⟩:=k;obtain⟨rfl,h2⟩:=h2.normal;refine wp_seq (wp_mono (zrw l g hdr p h1 h2) λx a w k=>?_);grind
 ·let⟨e,S',h1,h2⟩:=k;cases e<;>first | exact h2.elim | cases h1
 ·let⟨e,S',h1,h2⟩:=k;cases e<;>exact h2.elim
theorem zwQ (F:C.gl w0.w σ0) (g:xQ P n κ stp) (hdr:vO P n κ dr) (V:xx lp) (hj:j < κ.m) (hI:(κ.ν0.adr j).a=⟨I,0,H⟩) {ty:TypeId}{ps:String}{af:Array Edge}(t:m.ops2.toList=⟨E m.y,.entry (.tmp m.it),ty,ps,af,H⟩::m.l2) {k:ByteArray}{K:XE C->St C->U3 ρ}
    (z:∀(L:List (Nat×Value)) (b:Nat->Value) w,w.heap[R]?=E om->w.heap[I]?=E oi->opv L b (.tmp m.it) = .pointer (E ⟨I,0,H⟩)->(execOp (opv L b) ⟨E m.y,.entry (.tmp m.it),ty,ps,af,H⟩).run P w = .ok (.value (.tuple #[.string k,v])) w)
    (h:zhN stp dr lp n hs κ.m nr m j k v K S=E y) (hA:AtM n w0 σ0 κ R I om oi S a w) (D:∀e S' x a w,K e S'=E y->XW n w0 σ0 κ R I om oi S' e x a w->(∀i,x = .exit i->i≠m.b)->Q x a w) :
    (Code.block m.b2 (.seq (.region id2 m.ops2 M) m.rest)).wp P Q a w:=by
 unfold zhN at h;let⟨G,h⟩:=zb h;simp only[gf] at G;refine wp_block (wp_seq (wp_region_list ?_));rw[t];refine wpList_plain rfl λKw hKw=>?_
 let⟨L,b,hev,B⟩:=hA.iter hj G.1 hI;let⟨ho1,T⟩:=hA.obj;unfold X;rw[hev,z L b w ho1 T B];show Kw _ w;refine hKw _ _ ?_;have hA1:=hA.put (A :=.tup [.str k,ZY v]) (v :=.tuple #[.string k,v]) G.2 (λZ ν=>⟨[.string k,v],rfl,Rv.str,zbE v,trivial⟩) (λp=>⟨trivial,(YV [v]).1,trivial⟩);have hx:=zvb F g h hA1;have:=xc (l2:=[]) (Q':=Exit.then (m.rest.wp P (qs m.b2 Q)) (qs m.b2 Q)) (λa w l=>?_) (λch a w l=>?_) (λa w l=>?_) m.l2 hx
 ·grind
 · let⟨e,S',h1,h2⟩:=l;obtain⟨rfl,h2⟩:=h2.normal;refine wp_mono (zrw F g hdr V h1 h2) λx a w l=>?_
   let⟨e,S',h1,h2⟩:=l;cases e with
   |normal=>cases x<;>first | exact h2.elim | exact D .normal S' .normal a w h1 h2 (λi e=>by cases e)
   |ret=>cases x<;>first | exact h2.elim | exact D .ret S' .ret a w h1 h2 (λi e=>by cases e)
   |pan u=>cases x<;>first | exact h2.elim | exact D (.pan u) S' (.panic _) a w h1 h2 (λi e=>by cases e)
   |exit i=>
    cases x<;>first | exact h2.elim | skip
    rename_i i';obtain⟨rfl,h2⟩:=h2;have h1:(bif N i m.b2 then K .normal S' else bif N i m.b then H else K (.exit i) S')=E y:=h1;show if i=m.b2 then _ else _
    cases hb:N i m.b2 with
    |true=>rw[hb] at h1;rw[jv (ge hb)];exact D .normal S' .normal a w h1 h2 (λi e=>by cases e)
    |false=>
     rw[hb] at h1;rw[jx (λe=>by rw[e] at hb;simp at hb)];cases s:N i m.b with
     |true=>grind
     |false=>
      rw[s] at h1;exact D (.exit i) S' (.exit i) a w h1 ⟨rfl,h2⟩ λi' e=>by cases e;intro e;rw[e] at s;simp at s
 ·let⟨e,S',h1,h2⟩:=l;cases e<;>first | exact h2.elim | cases h1
 ·let⟨e,S',h1,h2⟩:=l;cases e<;>exact h2.elim
theorem zwR (F:C.gl w0.w σ0) (g:xQ P n κ stp) (hdr:vO P n κ dr) (G:xx lp) (hj:j < κ.m) (hI:(κ.ν0.adr j).a=⟨I,0,H⟩) {id1:Nat}{ty B:TypeId}{ps z:String}{af D:Array Edge}(hops:m.ops1.toList=⟨E m.x,.next (.tmp m.it) M,ty,ps,af,H⟩::m.l1) (s:m.ops2.toList=⟨E m.y,.entry (.tmp m.it),B,z,D,H⟩::m.l2)
    {k:ByteArray} {v:Value} {K:XE C->St C->U3 ρ} {t:Obj} {w':World}
    (l:∀(L:List (Nat×Value)) (b:Nat->Value) w,w.heap[R]?=E om->w.heap[I]?=E t->opv L b (.tmp m.it) = .pointer (E ⟨I,0,H⟩)->(execOp (opv L b) ⟨E m.y,.entry (.tmp m.it),B,z,D,H⟩).run P w = .ok (.value (.tuple #[.string k,v])) w)
    (h:mapIter stp dr lp n hs κ.m nc nr m j S k v K=E y) (V:AtM n w0 σ0 κ R I om t S a w')
    (hK:∀e S' x a w,K e S'=E y->XW n w0 σ0 κ R I om t S' e x a w->(∀i,x = .exit i->i≠m.b)->Q x a w) :
    wpList P m.ops1 (Exit.then ((qb m.cnd (.block m.b2 (.seq (.region id2 m.ops2 M) m.rest))).wp P Q) Q) m.l1 (a.put (E m.x) (.tuple #[.bool O,.string k,v])) w':=by
 unfold mapIter Vp at h;let⟨hc,h⟩:=zb h;simp only[gf] at hc;have T:=V.put (A :=.tup [.bool O,.str k,ZY v]) (v :=.tuple #[.bool O,.string k,v]) hc.2 (λZ ν=>⟨[.bool O,.string k,v],rfl,Rv.bool,Rv.str,zbE v,trivial⟩) (λp=>⟨trivial,trivial,(YV [v]).1,trivial⟩);refine znp F g hdr G h T λe S' x a w h1 h2=>?_
 cases e with
 |normal=>
  cases x<;>first | exact h2.elim | skip
  exact zwQ F g hdr G hj hI s l h1 h2 hK
 |ret=>cases h1
 |exit i=>cases h1
 |pan u=>cases h1
theorem zwS (l:C.gl w0.w σ0) (g:xQ P n κ stp) (hdr:vO P n κ dr) (t:xx lp) {s:Code}{K:XE C->St C->U3 ρ}(h:WX stp dr lp n hs κ.m nc m j K S=E y) (hA:AtM n w0 σ0 κ R I om oi S a w)
    (D:∀S' a w,K .normal S'=E y->AtM n w0 σ0 κ R I om oi S' a w->Q (.exit m.b) a w) :
    wpList P m.ops1 (Exit.then ((qb m.cnd s).wp P Q) Q) m.l1 (a.put (E m.x) (.tuple #[.bool M])) w:=by
 unfold WX Vp at h;let⟨B,h⟩:=zb h;simp only[gf] at B;have k:=hA.put (A :=.tup [.bool M]) (v :=.tuple #[.bool M]) B.2 (λZ ν=>⟨[.bool M],rfl,Rv.bool,trivial⟩) (λp=>⟨trivial,trivial⟩);refine znp l g hdr t h k λe S' x a w h1 h2=>?_
 cases e with
 |exit i=>
  cases x<;>first | exact h2.elim | skip
  obtain⟨rfl,h2⟩:=h2;have z:(bif N i m.b then K .normal S' else H)=E y:=h1;clear h1;cases hb:N i m.b with
  |false=>grind
  |true=>
   rw[hb,Dy] at z;have:=ge hb;subst this;exact D S' a w z h2
 |normal=>cases h1
 |ret=>cases h1
 |pan u=>cases h1
end
end
end
section
variable {C:Cod}{P:Program}{ρ:Type}[Dfr]{κ:Kp}{S:St C}{n:Nat}{w0:Start}{σ0:FS}{a:Act}{w:World}
variable {stp:yR C}{dr:YD C}{lp:ZW}{hs:Nat->U3 Hint}{R I:Nat}{Q:Exit->Act->World->Prop}{y:ρ}{m:MapM}{nc nr j:Nat}
theorem zk3{L:List (Nat×Value)}(e:Fits n L b a){next:Act->World->Prop}{Q:Exit->Act->World->Prop}{w':World}(h:(execOp (opv L b) o).run P w = .ok (.value v) w')(k:next (a.put o.dst v) w'):o.upon P a next Q ((execOp a.eval o).run P w):=by rw[e.eval,h];exact k
theorem zk4{L:List (Nat×Value)}(e:Fits n L b a){next:Act->World->Prop}{Q:Exit->Act->World->Prop}{w':World}(h:(execOp (opv L b) o).run P w = .ok .skip w')(k:next (a.put o.dst undef) w'):o.upon P a next Q ((execOp a.eval o).run P w):=by rw[e.eval,h];exact k
theorem zb9{k:ByteArray}{mm:Nat}{K:XE C->St C->U3 ρ}(h:mapIter stp dr lp n hs mm nc nr m j S k v K=E y):zhM m.it j S=true:=by
 unfold mapIter Vp at h;let⟨e,h⟩:=zb h;grind
theorem zoJ{mm:Nat}{K:XE C->St C->U3 ρ}(h:WX stp dr lp n hs mm nc m j K S=E y):zhM m.it j S=true:=by
 unfold WX Vp at h;let⟨e,h⟩:=zb h;grind
theorem zwT (hgl:C.gl w0.w σ0) (hstp:xQ P n κ stp) (hdr:vO P n κ dr) (hlp:xx lp) (hj:j < κ.m) (hI:(κ.ν0.adr j).a=⟨I,0,H⟩) {id1:Nat}{ty ty2:TypeId}{ps ps2:String}{af af2:Array Edge}(hops:m.ops1.toList=⟨E m.x,.next (.tmp m.it) M,ty,ps,af,H⟩::m.l1) (hops2:m.ops2.toList=⟨E m.y,.entry (.tmp m.it),ty2,ps2,af2,H⟩::m.l2)
    {K:XE C->St C->U3 ρ} (h:zhO stp dr lp n hs κ.m nc nr m j K S=E y) (hA:AtM n w0 σ0 κ R I (.map (Xn m.k1 m.k2 m.v1 m.v2) 2) (.mapIter (E R) 2 #[] 2) S a w)
    (hK:∀e S' x a w seen,K e S'=E y->XW n w0 σ0 κ R I (.map (Xn m.k1 m.k2 m.v1 m.v2) 2) (.mapIter (E R) 2 seen 2) S' e x a w->(∀i,x = .exit i->i≠m.b)->Q x a w) :
    (Code.loop (.seq (.region id1 m.ops1 M) (.seq m.cnd (.block m.b2 (.seq (.region id2 m.ops2 M) m.rest))))).wp P (qs m.b Q) a w:=by
 let om:Obj :=.map (Xn m.k1 m.k2 m.v1 m.v2) 2
 let oi:Array Nat->Obj:=λs =>.mapIter (E R) 2 s 2
 let G2:=WX stp dr lp n hs κ.m nc m j K
 let Iv:Act->World->Prop:=λa w=>(∃S,zhO stp dr lp n hs κ.m nc nr m j K S=E y/\AtM n w0 σ0 κ R I om (oi #[]) S a w)\/
  (∃S,mapIter stp dr lp n hs κ.m nc nr m j S m.k2 m.v2 (zb8 G2 K)=E y/\AtM n w0 σ0 κ R I om (oi #[0]) S a w)\/
  (∃S,mapIter stp dr lp n hs κ.m nc nr m j S m.k1 m.v1 (zb8 G2 K)=E y/\AtM n w0 σ0 κ R I om (oi #[1]) S a w)\/
  (∃S s,(s = #[0,1]\/s = #[1,0])/\G2 S=E y/\AtM n w0 σ0 κ R I om (oi s) S a w)
 let μ:Act->World->Nat:=λ_ w=>match w.heap[I]? with
  |some (.mapIter _ _ s _)=>2 - s.size
  |_=>0
 have hμ:∀{S:St C} {a w s},AtM n w0 σ0 κ R I om (oi s) S a w->μ a w=2 - s.size:=λ{S a w s} hA=>by
  show(match w.heap[I]? with | some (.mapIter _ _ s _)=>2 - s.size | _=>0)=_;rw[hA.obj.2]
 have other:∀{e:XE C} {S':St C} {x a w s},e ≠.normal->K e S'=E y->XW n w0 σ0 κ R I om (oi s) S' e x a w->(∀i,x = .exit i->i≠m.b)->∀{T:Act->World->Prop},Exit.then T (qs m.b Q) x a w:=by
  intro e S' x a w s hne h1 h2 h3 T;have hq:=hK e S' x a w s h1 h2 h3;cases x with
  |normal=>exact absurd h2.normal.1 hne
  |exit i=>
   show if i=m.b then _ else _
   grind
  |_=>exact hq
 refine wp_loop Iv μ (.inl ⟨S,h,hA⟩) λa w hI0=>wp_seq (wp_region_list ?_)
 rw[hops];refine wpList_plain rfl λKw hKw=>?_
 unfold X
 have round:∀{S:St C} {k:ByteArray} {v:Value} {s:Array Nat} {w':World} {G:St C->U3 ρ},(∀L b w,w.heap[R]?=E om->w.heap[I]?=E (oi s)->opv L b (.tmp m.it) = .pointer (E ⟨I,0,H⟩)->(execOp (opv L b) ⟨E m.y,.entry (.tmp m.it),ty2,ps2,af2,H⟩).run P w = .ok (.value (.tuple #[.string k,v])) w)->
     mapIter stp dr lp n hs κ.m nc nr m j S k v (zb8 G K)=E y->AtM n w0 σ0 κ R I om (oi s) S a w'->(∀S' a'' w'',G S'=E y->AtM n w0 σ0 κ R I om (oi s) S' a'' w''->Iv a'' w''/\μ a'' w'' < μ a w)->
     Kw (a.put (E m.x) (.tuple #[.bool O,.string k,v])) w':=by
  intro S k v s w' G hrun2 h hA' hG;refine hKw _ _ (zwR (id1:=0) hgl hstp hdr hlp hj hI hops hops2 hrun2 h hA' λe S' x a'' w'' h1 h2 h3=>?_);cases e with
  |normal=>
   cases x<;>first | exact h2.elim | exact hG S' _ _ h1 h2
  |ret=>exact other (by simp) h1 h2 h3
  |exit i=>exact other (by simp) h1 h2 h3
  |pan u=>exact other (by simp) h1 h2 h3
 have ent0:∀s:Array Nat,s.back?=E 0->∀L b w,w.heap[R]?=E om->w.heap[I]?=E (oi s)->opv L b (.tmp m.it) = .pointer (E ⟨I,0,H⟩)->(execOp (opv L b) ⟨E m.y,.entry (.tmp m.it),ty2,ps2,af2,H⟩).run P w = .ok (.value (.tuple #[.string m.k1,m.v1])) w:=
  λs hs L b w h1 h2 h3=>(ziK h3 h2 h1).1 hs
 have ent1:∀s:Array Nat,s.back?=E 1->∀L b w,w.heap[R]?=E om->w.heap[I]?=E (oi s)->opv L b (.tmp m.it) = .pointer (E ⟨I,0,H⟩)->(execOp (opv L b) ⟨E m.y,.entry (.tmp m.it),ty2,ps2,af2,H⟩).run P w = .ok (.value (.tuple #[.string m.k2,m.v2])) w:=
  λs hs L b w h1 h2 h3=>(ziK h3 h2 h1).2 hs
 rcases hI0 with⟨S,h,hA⟩ | ⟨S,h,hA⟩ | ⟨S,h,hA⟩ | ⟨S,s,hs,h,hA⟩
 · let⟨g1,g2⟩:=za2 h;let⟨L,b,hev,hptr⟩:=hA.iter hj (zb9 g1) hI;have hm0:=hμ hA;rw[hev];rcases zrt (s:=H) (d:=m.x) (ty:=ty) (ps:=ps) (af:=af) (P:=P) hptr hA.obj.2 hA.obj.1 with e | e
   · rw[e];refine round (ent0 #[0] rfl) g1 (hA.drew.setI rfl rfl) λS' a'' w'' h1 h2=>⟨.inr (.inl ⟨S',h1,h2⟩),?_⟩
     grind
   · rw[e];refine round (ent1 #[1] rfl) g2 (hA.drew.setI rfl rfl) λS' a'' w'' h1 h2=>⟨.inr (.inr (.inl ⟨S',h1,h2⟩)),?_⟩
     grind
 · let⟨L,b,hev,hptr⟩:=hA.iter hj (zb9 h) hI;have hm0:=hμ hA;rw[hev,zru hptr hA.obj.2 hA.obj.1];refine round (ent1 #[0,1] rfl) h (hA.setI rfl rfl) λS' a'' w'' h1 h2=>⟨.inr (.inr (.inr ⟨S',_,.inl rfl,h1,h2⟩)),?_⟩
   grind
 · let⟨L,b,hev,hptr⟩:=hA.iter hj (zb9 h) hI;have hm0:=hμ hA;rw[hev,zoI hptr hA.obj.2 hA.obj.1];refine round (ent0 #[1,0] rfl) h (hA.setI rfl rfl) λS' a'' w'' h1 h2=>⟨.inr (.inr (.inr ⟨S',_,.inr rfl,h1,h2⟩)),?_⟩
   grind
 · let⟨L,b,hev,hptr⟩:=hA.iter hj (zoJ h) hI;rw[hev,zrv hs hptr hA.obj.2 hA.obj.1];refine hKw _ _ (zwS hgl hstp hdr hlp h hA λS' a w h1 h2=>?_);show if m.b=m.b then _ else _
   rw[jv rfl];exact hK .normal S' .normal a w s h1 h2 λi e=>by cases e
theorem zoK(hgl:C.gl w0.w σ0)(hstp:∀κ,xQ P n κ stp)(hdr:∀κ,vO P n κ dr)(hlp:xx lp)(hm:mapM P c=E m){i:Nat}{K:XE C->St C->U3 ρ}{r:ρ}(h:zhP stp dr lp n hs κ.m m i S K=E r)(hA:At n w0 σ0 κ S a w):c.wp P (Zi n w0 σ0 κ K r) a w:=by
 obtain⟨id,id1,id2,ops,et,rfl,hmt,hkt,hne,⟨ty1,ps1,af1,ty2,ps2,af2,ty3,ps3,af3,ty4,ps4,af4,ty5,ps5,af5,e0⟩,⟨ty6,ps6,af6,e1⟩,⟨ty7,ps7,af7,e2⟩⟩:=zwP hm;unfold zhP at h;split at h
 case h_2=>cases h
 rename_i outs g _ _ _;let⟨hc,h⟩:=zb h;simp only[gf] at hc;let⟨c1,c2,c3,c4,c5,c6,c7,c8⟩:=hc;let⟨V,hx0,h⟩:=gd h;split at h
 case h_2=>cases h
 rename_i j hit;let⟨hjg,h⟩:=zb h;let⟨y0,hy0,ho⟩:=gd h;let⟨L,b,Z,PV,⟨ν,vs,ids,hAb⟩,hi,G⟩:=hA;have l2:m.r < n:=by simpa[Da] using c2
 have l3:m.s < n:=by simpa[Da] using c3
 have l4:m.it < n:=by simpa[Da] using c4
 refine wp_seq (wp_region_list ?_);rw[e0];refine wpList_plain rfl λK1 hK1=>?_
 unfold X;rw[G.eval,zmX];show K1 _ _;refine hK1 _ _ ?_;have hi1:=hi.newObj (o :=.map #[] 0) rfl;have T:=G.put l2 (.map (E w.heap.size));have hr1:∀{L2:List (Nat×Value)},opv ((m.r,.map (E w.heap.size))::L2) b (.tmp m.r) = .map (E w.heap.size):=by
  intro L2;show(bif N m.r m.r then _ else _)=_;simp
 generalize hR:w.heap.size=R at *
 have hb1:=hi1.objAt (m:=0) rfl;refine wpList_plain rfl λK2 hK2=>?_
 unfold X;refine zk4 T (zgr hmt hkt hr1 hb1 rfl) (hK2 _ _ ?_);have hi2:=hi1.setObj (m:=0) (o' :=.map (#[].push {key :=.string m.k1,val:=m.v1,born:=0}) (0+1)) rfl rfl rfl;have hb2:=hi2.objAt (m:=0) rfl;refine wpList_plain rfl λK3 hK3=>?_
 unfold X;refine zk4 T (zgr hmt hkt hr1 hb2 (by simp[Instr.findNow,Instr.sameNow,hne])) (hK3 _ _ ?_);have t:=hi2.setObj (m:=0) (o' :=.map ((#[].push {key :=.string m.k1,val:=m.v1,born:=0}).push {key :=.string m.k2,val:=m.v2,born:=0+1}) (0+1+1)) rfl rfl rfl;have hb3:=t.objAt (m:=0) rfl;refine wpList_plain rfl λK4 hK4=>?_
 unfold X;refine zk3 (v :=.map (E R)) T (congrArg (λv=>Result.ok (Next.value v) _) (hr1 (L2:=L))) (hK4 _ _ ?_);have hf2:=T.put l3 (.map (E R));have hs2:opv ((m.s,.map (E R))::(m.r,.map (E R))::L) b (.tmp m.s) = .map (E R):=by
  show(bif N m.s m.s then _ else _)=_;simp
 refine wpList_plain rfl λK5 hK5=>?_
 unfold X;refine zk3 hf2 (zk1 hmt hs2 hb3) (hK5 _ _ ?_);have t:Inv w0 σ0 Z (.obj R (.map (Xn m.k1 m.k2 m.v1 m.v2) 2)::PV) _:=t;clear hb3;generalize hw3:({heap:=_,tape:=_,drawn:=_,os:=_,output:=_}:World)=w3 at t |-
 have hi4:=t.newObj (o :=.mapIter (E R) 2 #[] 2) rfl;generalize hI:w3.heap.size=I at *
 have hf3:=hf2.put l4 (.pointer (E ⟨I,0,H⟩));have hAs:=((hAb.put (d:=m.r) (A :=.und) (v :=.map (E R)) trivial trivial).put (d:=m.s) (A :=.und) (v :=.map (E R)) trivial trivial).new (id:=nid m.it 0) (Ze c1) (yQ κ m.it 0) (e :=.cell []) (v :=.slice H 0 0) (a:=⟨⟨I,0,H⟩,λ_ =>.slice H 0 0⟩) (us:=[]) (A :=.pc (nid m.it 0) 0) (p :=.cell ⟨I,0,H⟩ []) (u :=.pointer (E ⟨I,0,H⟩)) (d:=m.it) (λν' h1 h2=>⟨(by show Value.pointer (E _) = .pointer (E ((ν'.adr _).add 0));rw[h2];simp[Addr.add,Ent.at]),by show nid m.it 0=nid m.it 0;rfl⟩) rfl rfl (λcs hcs=>by cases hcs;exact⟨trivial,trivial⟩) (by simp[Ent.at,Addr.add]);have hat:AtM n w0 σ0 κ R I (.map (Xn m.k1 m.k2 m.v1 m.v2) 2) (.mapIter (E R) 2 #[] 2) (zk2 m S) (Act.put (Act.put (a.put (E m.r) (.map (E R))) (E m.s) (.map (E R))) (E m.it) (.pointer (E ⟨I,0,H⟩))) (w3.alloc (.mapIter (E R) 2 #[] 2)):=by
  refine⟨_,b,Z,_,hAs,hi4.sub_own λgg k=>?_,hf3⟩;let⟨f1,f2,q1,s1,k1,k2,d1⟩:=k.uncons;let⟨f3,f4,q2,s2,k3,k4,d2⟩:=s1.uncons;have d3:f3.disj f1:=(d1.mono (.refl _) k3).symm;refine Sep.append (A :=.cell ⟨I,0,H⟩ []::PV) (B:=[.obj R _,.obj I _]) (h1:=f4) (h2:=f3.or f1) (.cons (h1:=zc.none) ⟨rfl,λj u hj=>by simp at hj⟩ s2 (zc.none_le _) (.refl _) (zc.none_disj _)) (.cons q2 (Sep.one q1) (zc.le_or _ _) (zc.le_or_right d3) d3) (k4.trans k2) (zc.or_le (k3.trans k2) k1) ?_;exact(zc.or_disj d2 (d1.mono (.refl _) k4)).symm
 let⟨f1,σ1,hg1,hat1,hback⟩:=hat.frame hgl;have hat2:AtM n w0 σ0 κ R I _ _ (g.open V) _ _:=hback (e :=.normal) (x :=.normal) (At.close hx0 hat1);let⟨L2,b2,σ2,PV2,⟨ν2,vs2,ids2,hA2⟩,hi2',hf2'⟩:=hat2;have h64:=Dg c6;have hmg:=Dg c7;have hj:j < g.es.length:=by simpa[Da] using hjg
 have hIj:(ν2.adr j).a=⟨I,0,H⟩:=by
  have hv:=hA2.env m.it;rw[hit] at hv;have hv:look L2 b2 m.it = .pointer (E ((ν2.adr j).a.add 0)):=hv;have h3:=hf3.get m.it;have h4:=hf2'.get m.it;rw[h3] at h4;have h5:look ((m.it,.pointer (E ⟨I,0,H⟩))::(m.s,.map (E R))::(m.r,.map (E R))::L) b m.it = .pointer (E ⟨I,0,H⟩):=by
   show(bif N m.it m.it then _ else _)=_;simp
  rw[h5,hv] at h4;simp[Addr.add] at h4;rw[<- h4]
 let l:Kp:=⟨g.es.length,h64,{hdr:=ν2.hdr,adr:=λk=>⟨(ν2.adr k).a,bif U k κ.m && !Z0 ((g.open V).heap k) then(κ.ν0.adr k).sub else(ν2.adr k).sub⟩ }⟩
 have hat3:AtM n w0 σ0 l R I (.map (Xn m.k1 m.k2 m.v1 m.v2) 2) (.mapIter (E R) 2 #[] 2) (g.open V) _ _:=⟨L2,b2,σ2,PV2,⟨ν2,vs2,ids2,hA2.rekey λk _ _=>⟨rfl,rfl,λG=>by show _=(bif U k κ.m && !Z0 ((g.open V).heap k) then _ else _);rw[G];simp⟩⟩,hi2',hf2'⟩;have hkk:∀k,k < κ.m->ν2.hdr k=κ.ν0.hdr k/\(ν2.adr k).a=(κ.ν0.adr k).a/\(Z0 ((g.open V).heap k)=O->(ν2.adr k).sub=(κ.ν0.adr k).sub):=λk hk=>by
  refine hA2.keep k hk ((xR g V k).2 ?_);have hl:k < g.es.length:=Zc
  refine⟨g.es[k],UJ hl,?_⟩;have:=Dx.1 c8 g.es[k] (List.mem_iff_getElem?.2 ⟨k,by rw[Dh hk,UJ hl]⟩);simpa using this
 have F:∀{S':St C} {L b Z PV},zC l S' L b Z PV->zC κ S' L b Z PV:=by
  rintro S' L b Z PV ⟨ν,vs,ids,hA⟩;refine⟨ν,vs,ids,hA.rekey λk hk hs=>?_⟩;have h1:=hA.keep k (Zc:k < g.es.length) hs;have h2:=hkk k hk;refine⟨h1.1.trans h2.1,h1.2.1.trans h2.2.1,λG=>(h1.2.2 G).trans ?_⟩;show(bif U k κ.m && !Z0 ((g.open V).heap k) then(κ.ν0.adr k).sub else(ν2.adr k).sub)=_;have hb:U k κ.m=true:=by rw[Da];exact hk
  rw[hb];cases hx:Z0 ((g.open V).heap k) with
  |false=>rfl
  |true=>exact h2.2.2 hx
 have D:∀{Z PV w om oi},Inv w0 σ0 Z (PV++[.obj R om,.obj I oi]) w->Inv w0 σ0 Z PV w:=λ{Z PV w om oi} hi=>hi.sub_own λgg k=>by
  let⟨q1,q2,s1,s2,k1,k2,d⟩:=k.split;exact s1.mono (.refl _) k1
 have z:∀{S':St C} {a w oi},AtM n w0 σ0 l R I (.map (Xn m.k1 m.k2 m.v1 m.v2) 2) oi S' a w->At n w0 σ0 κ S' a w:=by
  rintro S' a w oi ⟨L,b,Z,PV,hA,hi,G⟩;exact⟨L,b,Z,PV,F hA,D hi,G⟩
 refine wp_block (zwT (κ:=l) (Q:=Zi n w0 σ0 κ K r) hgl (hstp l) (hdr l) hlp hj hIj e1 e2 hy0 hat3 λe S' x a w seen h1 h2 _=>?_);refine Yr h1 ho (x:=x) ?_;unfold XW at h2;unfold zfq;split at h2
 ·exact z h2
 ·exact⟨h2.1,z h2.2⟩
 ·exact z h2
 ·rename_i v chain;let⟨u,L,b,Z,PV,h3,h4,hA,hi,G⟩:=h2;exact⟨u,L,b,Z,PV,h3,h4,F hA,D hi,G⟩
 grind
end
section
variable {C:Cod}{P:Program}{ρ:Type}
noncomputable def zbm(P:Program)(stp:yR C)(dr:YD C)(lp:ZW)(n:Nat)(hs:Nat->U3 Hint)(mm:Nat):Code->Nat->St C->(XE C->St C->U3 ρ)->U3 ρ
 | .seq a c,i,S,K=>match mapM P a with
  |some m=>zhP stp dr lp n hs mm m (i+1) S λe S'=>match e with
   | .normal=>zbm P stp dr lp n hs mm c (i+1+xT a) S' K
   |e=>K e S'
  |none=>ZD stp dr lp n mm hs a (i+1) _ S λe S'=>match e with
   | .normal=>zbm P stp dr lp n hs mm c (i+1+xT a) S' K
   |e=>K e S'
 |c,i,S,K=>ZD stp dr lp n mm hs c i _ S K
theorem zrx [Dfr] {n:Nat}{κ:Kp}{w0:Start}{σ0:FS}{stp:yR C}{dr:YD C}{lp:ZW}{hs:Nat->U3 Hint}(p:C.gl w0.w σ0) (g:∀κ,xQ P n κ stp) (hdr:∀κ,vO P n κ dr) (s:xx lp) {K:XE C->St C->U3 ρ}{r:ρ} :
    ∀(c:Code) (i:Nat) {S:St C},zbm P stp dr lp n hs κ.m c i S K=E r->∀{a:Act} {w:World},At n w0 σ0 κ S a w->c.wp P (Zi n w0 σ0 κ K r) a w:=by
 intro c
 induction c with
 |seq x c _ z=>
  intro i S h a w hA
  have fin:∀{a w},Code.wp P x (Zi n w0 σ0 κ (λe S'=>match e with
   | .normal=>zbm P stp dr lp n hs κ.m c (i+1+xT x) S' K
   |e=>K e S') r) a w->(qb x c).wp P (Zi n w0 σ0 κ K r) a w:=by
   intro a w h;refine wp_seq (wp_mono h λe a w t=>?_);cases e with
   |normal=>let⟨S',u,k⟩:=t;exact z _ u k
   |exit j=>exact t
   |ret=>exact t
   |panic B=>let⟨v,S',u,k⟩:=t;exact⟨v,S',u,k⟩
   |goto l=>exact t.elim
   |outgrown=>exact t.elim
  unfold zbm at h;split at h
  ·rename_i m A;exact fin (zoK p g hdr s A h hA)
  ·exact fin (yT p (g κ) (hdr κ) s x (i+1) _ _ _ _ h _ _ hA)
 |_=>intro i S h a w hA;exact yT p (g κ) (hdr κ) s _ i _ _ _ _ h _ _ hA
noncomputable def zoL(q:Opts)(Γ:List (Spec C))(lp:ZW)(P:Program)(fn:Func)(nr:Nat)(ins:Sig)(outs:List (XK×Sig))(hs:Nat->U3 Hint)(x:ins.ty C):U3 (zh C outs):=
 match fn.body with
 |none=>H
 |some c=>chk (W ins.ts.length fn.ntmps && (N fn.results.toList.length nr && (W nr 4 && W ins.es.length 64)))
     (zbm P (Y9 q Γ P fn.ntmps) (drw q Γ P fn.ntmps) lp fn.ntmps hs ins.es.length c 0 (ins.open x) λe S=>match e with
       | .ret=>(Wd P S fn.results.toList).bind λAs=>zU ins.es.length outs .ret (xy As S.heap)
       | .normal=>(Wd P S fn.results.toList).bind λAs=>zU ins.es.length outs .ret (xy As S.heap)
       | .pan v=>zU ins.es.length outs (.pan v) (xy [] S.heap)
       |_=>H)
theorem zwU  {Γ : List (Spec C)} (K : ∀ s ∈ Γ, s.OK P) (hm : P.follows .mixedOrders = O) {lp : ZW} (hlp : xx lp)   {nr : Nat}   (hs : Nat -> U3 Hint) (hf : P.funcs[f]? = E fn) (hnm : (fn.name == "runtime.NumGoroutine") = M) (hbs : fn.body.isNone = M) {F : ins.ty C -> U3 (zh C outs)} (hF : ∀ x, F x = zoL q Γ lp P fn nr ins outs hs x) :
    Spec.OK P ⟨f,nr,ins,outs,F⟩:=by
 refine⟨fn,hf,hnm,hbs,?_⟩;intro x r k κ st Z hg PV ν vs ids args A i hA G;have k:zoL q Γ lp P fn nr ins outs hs x=E r:=by rw[<- hF];exact k
 unfold zoL at k;split at k
 ·cases k
 rename_i c hb;let⟨hc,k⟩:=zb k;simp only[gf] at hc;let⟨c1,c4,c2,c3⟩:=hc;have c4:=ge c4;have c2:fn.results.toList.length<=4:=by rw[c4];exact Dg c2
 have A:κ.m=ins.es.length:=A;rw[<- A] at k;have i:args.length=ins.ts.length:=i;have hn:args.length<=fn.ntmps:=by rw[i];exact Dg c1
 have hat:At fn.ntmps st Z κ (ins.open x) {tmps:=args.toArray++qk (fn.ntmps - args.toArray.size) undef,defers:=[]} st.w:=⟨_,_,Z,PV,⟨ν,vs,ids,hA⟩,G.inv,vW hn⟩;refine calls_of_wp hf hb (wp_mono (zrx hg (λκ=>zej K fn.ntmps κ) (λκ=>zgq K hm fn.ntmps κ) hlp c 0 k hat) ?_);intro e a w B;cases e with
 |normal=>let⟨S',t,h⟩:=B;exact⟨h.defers,zdh c4 c2 t h⟩
 |ret=>let⟨S',t,h⟩:=B;exact⟨h.defers,zdh c4 c2 t h⟩
 |exit j=>let⟨S',t,h⟩:=B;cases t
 |panic T=>
  let⟨v,S',t,h⟩:=B;obtain⟨u,L,b,Z',PV',rfl,hp,⟨ν',D,p,h⟩,hi',hf'⟩:=h;refine⟨hf'.defers,?_⟩;have hav:AbsL κ (xy [] S'.heap) ν' D p [] (λ_=>undef) Z' PV':=zbQ (us:=[]) h trivial trivial;refine YL t λg y hy e' he=>?_
  cases e'<;>first | exact he.elim | skip
  obtain⟨s,z,hz,rfl⟩:=he;let⟨V,PV2,hl,hi2,h2⟩:=Wc hy ⟨ν',D,p,hav⟩ hi';exact⟨u,V,PV2,rfl,hi2,hp.again hl hz,h2⟩
 |goto l=>exact B.elim
 |outgrown=>exact B.elim
end
end Go.Px
