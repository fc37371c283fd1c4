/- Part B1. -/
import Derived.Test.YtnkjgenigoecjaaGreatDoorMs
import Derived.Recover
set_option linter.unusedSimpArgs false
set_option linter.unusedVariables false
set_option linter.unusedSectionVars false
namespace Go.Px
open _root_.Array renaming replicate->qk,getElem?_toList->qB
open Bool renaming false->M,true->O
open Go.Code renaming seq->qb
open Go.Exit renaming inBlock->qs,thenS->qA
open Go.Oper renaming wp->X,upon->qx
open Go.Question renaming forced->qc,cut->qv
open Go.Region renaming wanted->qo
open Go.Result renaming andThen->Y
open Nat renaming beq->N,blt->U,ble->W,add_comm->qy
open _root_.Option renaming some->E,none->H
variable{b:Nat->Value}{c:Code}{f:FuncId}{fn:Func}{id2 r:Nat}{ids:List Nat}{ins:Sig}{k1 k2:ByteArray}{o:Oper}{outs:List (XK × Sig)}{q:Opts}{seen:Array Nat}{v v1 v2:Value}{vs:Nat->List Value}{x:Operand}{ν:Val}
section
variable {P:Program}{ops:Array Oper}
theorem zcZ {a:Act}{w:World}{K K':Act->World->Prop}{Q Q':Exit->Act->World->Prop}(hK:∀a w,K a w->K' a w) (hp:∀c a w,Q (.panic c) a w->Q' (.panic c) a w) (ho:∀a w,Q .outgrown a w->Q' .outgrown a w)
    (h:o.wp P a w K Q):o.wp P a w K' Q':=by
 unfold X at *
 generalize (execOp a.eval o).run P w=r at *
 cases r with
 |ok n w'=>
  cases n<;>simp only[qx] at h |-<;>
    first
     |exact hK _ _ h
     |exact Calls.mono h (λe w'' he=>by cases e<;>first | exact hK _ _ he | exact hp _ _ _ he | exact(let⟨a,w,q⟩:=he;⟨a,w,ho _ _ q⟩))
     |exact Rows.mono h (λ_ _ he=>hK _ _ he)
 |halt x w'=>cases x<;>simp only[qx] at h |-<;>exact hp _ _ _ h
theorem Y9 {Q Q':Exit->Act->World->Prop}{l2:List Oper}(hn:∀a w,Q .normal a w->wpList P ops Q' l2 a w) (hp:∀c a w,Q (.panic c) a w->Q' (.panic c) a w) (ho:∀a w,Q .outgrown a w->Q' .outgrown a w) :
    ∀(l1:List Oper) {a:Act} {w:World},wpList P ops Q l1 a w->wpList P ops Q' (l1++l2) a w
 |[],a,w,h=>hn _ _ h
 |o::l,a,w,h=>by
  show wpList P ops Q' (o::(l++l2)) a w;unfold wpList at h |-
  cases hw:qo o (yielded ops a.tmps) with
  |true=>
   rw[hw,jv rfl] at h;rw[jv rfl];rcases h with h | ⟨h1,a2,w2,q⟩
   ·exact .inl (zcZ (λa w=>Y9 hn hp ho l) hp ho h)
   ·exact .inr ⟨h1,a2,w2,ho _ _ q⟩
  |false=>
   rw[hw,jx (by simp)] at h;rw[jx (by simp)];exact Y9 hn hp ho l h
theorem vf{Q:Exit->Act->List Frame->World->Prop}{cs:List Frame}(hl:∀a w,¬ Q .outgrown a cs w):∀(l:List Nat) (a:Act) (w:World),wpOps P ops (λe a w=>Q e a cs w) l a w->wpOpsS P ops Q l a cs w
 |[],a,w,h=>h
 |i::l,a,w,h=>by
  unfold wpOps at h;unfold wpOpsS;cases ho:ops[i]? with
  |none=>rw[ho] at h;exact vf hl l a w h
  |some o=>
   rw[ho] at h;simp only at h |-
   cases hw:qo o (yielded ops a.tmps) with
   |false=>rw[hw,jx (by simp)] at h;rw[jx (by simp)];exact vf hl l _ w h
   |true=>
    rw[hw,jv rfl] at h;rw[jv rfl];rcases h with h | ⟨_,a2,w2,q⟩
    ·have h:=zcZ (λa w=>vf hl l a w) (λc a w q=>q) (λa w q=>q) h;unfold X at h;split
     ·rename_i w' hr;rw[hr] at h;exact(h:False).elim
     ·exact h
    grind
end
section
variable {C:Cod}{P:Program}
theorem zej[Dfr]{Γ:List (Spec C)}(hΓ:∀s∈Γ,s.OK P)(n:Nat)(κ:Kp):xP P n κ (Y6 q Γ P n):=⟨λw0 σ0 hgl o S L b Z PV hA=>by show OpA κ P n w0 σ0 o (Y6 q Γ P n o S _ E) L b Z PV;rw[Vk,Option.bind_fun_some'];exact zk1 hΓ _ κ w0 σ0 hgl o S L b Z PV hA,λo S ρ k=>zk4⟩
def ztI(rv:Value)(u u2:FrameMode):Prop:=(u = .returning/\rv = .nilIface/\u2 = .returning)\/(u = .panicking [{v:=rv,recovered:=false}]/\u2 = .panicking [{v:=rv,recovered:=true}])
def Spec.OKD (P : Program) (s : Spec C) : Prop := ∃ fn, P.funcs[s.f]? = E fn /\ (fn.name == "runtime.NumGoroutine") = M /\ fn.body.isNone = M /\
 ∀(args:List Value) (rv:Value) (u u2:FrameMode),ztI rv u u2->s.OKc (args++[rv]) λw Q=>CallsD P s.f args.toArray u w λe u' w'=>u'=u2/\Q e w'
def zdC:Op->Bool
 | .call ⟨.builtin .recover,args,_⟩=>args.isEmpty
 |_=>M
def startD(S:St C)(k d0:Nat):St C:={env:=λt=>bif N t d0 then S.env k else bif U t k then S.env t else .und,heap:=S.heap}
def zoR(P:Program)(fn:Func)(m:Nat)(outs:List (XK×Sig)):XE C->St C->U7 (zf C outs):=λe S=>match e with
 | .ret=>(w9 P S fn.results.toList).bind λAs=>zT m outs .ret (xx As S.heap)
 | .normal=>(w9 P S fn.results.toList).bind λAs=>zT m outs .ret (xx As S.heap)
 |_=>H
noncomputable def zb6(q:Opts)(Γ:List (Spec C))(lp:ZW)(P:Program)(fn:Func)(nr:Nat)(ins:Sig)(outs:List (XK×Sig))(hs:Nat->U7 Hint)(x:ins.ty C):U7 (zf C outs):=
 match fn.body with
 |some (.seq (.region _ ops M) c)=>(match ops.toList with
  |o::l=>(match o.guard,o.dst with
   |none,E d0=>chk (zdC o.op && (W ins.ts.length (fn.ntmps+1) && (U d0 fn.ntmps && (N fn.results.toList.length nr && (W nr 4 && (W ins.es.length 64 && U 0 ins.ts.length))))))
       (ZJ (Y6 q Γ P fn.ntmps) fn.ntmps ops l (startD (ins.open x) (ins.ts.length - 1) d0) λe S=>match e with
         | .normal=>ZC (Y6 q Γ P fn.ntmps) (drw q Γ P fn.ntmps) lp fn.ntmps ins.es.length hs c 2 _ S (zoR P fn ins.es.length outs)
         |e=>zoR P fn ins.es.length outs e S)
   |_,_=>H)
  |[]=>H)
 |_=>H
theorem zm9 {rv:Value}{u u2:FrameMode}(h:ztI rv u u2) {c0:Frame}{cs:List Frame}(hm:c0.mode=u) :
    (recoverD (c0::cs)=H/\rv = .nilIface/\c0={c0 with mode:=u2})\/recoverD (c0::cs)=E (rv,{c0 with mode:=u2}::cs):=by
 rcases h with⟨rfl,rfl,rfl⟩ | ⟨rfl,rfl⟩
 · left;refine⟨?_,rfl,?_⟩
   ·simp only[recoverD,hm]
   ·cases c0;grind
 ·right;simp only[recoverD,hm]
theorem AbsL.startD {κ:Kp}{S:St C}{Z:FS}{PV:List Priv}{args:List Value}{rv:Value}{d0:Nat}(h:AbsL κ S ν vs ids (yo 0 (args++[rv])) (λ_=>undef) Z PV) :
    AbsL κ (startD S args.length d0) ν vs ids ((d0,rv)::yo 0 args) (λ_=>undef) Z PV:=by
 refine⟨⟨h.nd,h.dom,h.pv,h.cell,λt=>?_,h.one⟩,λt=>?_,h.livec,h.keep⟩
 · show VR C Z ν (bif N t d0 then rv else look (yo 0 args) (λ_=>undef) t) (bif N t d0 then S.env args.length else bif U t args.length then S.env t else .und);cases N t d0 with
   |true=>
    have:=h.env args.length;rw[yp] at this;grind
   |false=>
    simp only[UC];cases e:U t args.length with
    |true=>
     have:=h.env t;rw[yp] at this |-
     rw[Dd] at e;grind
    |false=>trivial
 · show(bif N t d0 then S.env args.length else bif U t args.length then S.env t else .und).ok _;cases N t d0 with
   |true=>exact h.live _
   |false=>
    cases U t args.length with
    |true=>exact h.live t
    |false=>trivial
theorem zna{a:Act}{w:World}(h:zdC o.op=O):(execOp a.eval o).run P w = .ok .recover w:=by
 unfold zdC at h;split at h
 ·rename_i args ts e;have:args = #[]:=by simpa using h
  subst this;simp[execOp,e,resolve,invoke,builtin,UZ]
 ·cases h
theorem zsi{κ:Kp}{st:Start}{Z:FS}{nr:Nat}{outs:List (XK×Sig)}{r:zf C outs}{w:World}(h:vd κ st Z nr outs r .outgrown w):False:=by
 let⟨e,S,_,q,_⟩:=XA (K:=λ_ _=>()) (z:=()) rfl h;grind
theorem Vl  {Γ : List (Spec C)} (hΓ : ∀ s ∈ Γ, s.OK P) (hm : P.follows .mixedOrders = O) {lp : ZW} (hlp : xw lp)   {nr : Nat}   (hs : Nat -> U7 Hint) (hf : P.funcs[f]? = E fn) (hnm : (fn.name == "runtime.NumGoroutine") = M) (hbs : fn.body.isNone = M) {F : ins.ty C -> U7 (zf C outs)} (hF : ∀ x, F x = zb6 q Γ lp P fn nr ins outs hs x) :
    Spec.OKD P ⟨f,nr,ins,outs,F⟩:=by
 refine⟨fn,hf,hnm,hbs,?_⟩;intro args rv u u2 hrec x r hr κ st Z hgl PV ν vs ids hκ hargs hA hpre;have hr:zb6 q Γ lp P fn nr ins outs hs x=E r:=by grind
 unfold zb6 at hr;split at hr
 case h_2=>cases hr
 rename_i id ops c hb;split at hr
 case h_2=>cases hr
 rename_i o l hol;split at hr
 case h_2=>cases hr
 rename_i d0 hg hd;let⟨hc,hr⟩:=zb hr;simp only[gf] at hc;let⟨c1,c2,c3,c4,c5,c6,c7⟩:=hc;have hargs:(args++[rv]).length=ins.ts.length:=hargs;have hal:args.length=ins.ts.length - 1:=by grind
 have c4:=ge c4;have hκ:κ.m=ins.es.length:=hκ;rw[<- hκ,<- hal] at hr;have hn:args.length<=fn.ntmps:=by
  have:=Dj c2;grind
 have hd0:d0 < fn.ntmps:=by simpa[Dd] using c3
 have hAd:=AbsL.startD (d0:=d0) hA
 have hat:@At dfr0 C fn.ntmps st Z κ (startD (ins.open x) args.length d0) (Act.put {tmps:=args.toArray++qk (fn.ntmps - args.toArray.size) undef,defers:=[]} (E d0) rv) st.w:=
  ⟨_,_,Z,PV,⟨ν,vs,ids,hAd⟩,hpre.inv,(vO hn).put hd0 rv⟩
 refine callsD_of_wpS hf hb λc0 cs hmode=>wpS_seq (wpS_region ?_)
 have hsz:ops.size=l.length+1:=by rw[<- Array.length_toList,hol];rfl
 have h0:ops[0]?=E o:=by rw[<- qB,hol];rfl
 rw[hsz,List.range_eq_range',List.range'_succ];unfold wpOpsS;rw[h0];have hw:qo o (yielded ops (args.toArray++qk (fn.ntmps - args.toArray.size) undef))=true:=by simp[qo,hg]
 simp only[hw,jq,zna c1];generalize hQ:bodyPostS P fn c0 cs (λe u' w'=>u'=u2/\vd κ st Z nr outs r e w')=Q;have fin:∀{S':St C} {a':Act} {w':World},zoR P fn κ.m outs .ret S'=E r->@At dfr0 C fn.ntmps st Z κ S' a' w'->∀e,e = .normal\/e = .ret->Q e a' ({c0 with mode:=u2}::cs) w':=by
  intro S' a' w' hk hA' e he;let⟨v,h1,h2⟩:=zdh c4 (by rw[c4];exact Dj c5) hk hA';rw[<- hQ];rcases he with rfl | rfl<;>exact⟨hA'.defers,u2,rfl,v,h1,rfl,h2⟩
 have post:∀e a' w',@Zi dfr0 C _ fn.ntmps st Z κ (zoR P fn κ.m outs) r e a' w'->Q e a' ({c0 with mode:=u2}::cs) w':=by
  intro e a' w' hx;cases e with
  |normal=>let⟨S',hk,hA'⟩:=hx;exact fin hk hA' _ (.inl rfl)
  |ret=>let⟨S',hk,hA'⟩:=hx;grind
  |exit j=>let⟨S',hk,hA'⟩:=hx;cases hk
  |panic ch=>let⟨v,S',hk,hA'⟩:=hx;cases hk
  |goto l=>exact hx.elim
  |outgrown=>exact hx.elim
 have main:∀(a1:Act),a1=Act.put {tmps:=args.toArray++qk (fn.ntmps - args.toArray.size) undef,defers:=[]} (E d0) rv->
     wpOpsS P ops (qA (c.wpS P Q) Q) (List.range' (0+1) l.length) a1 ({c0 with mode:=u2}::cs) st.w:=by
  rintro _ rfl;refine vf (λa w hq=>?_) _ _ _ ?_
  ·have hq:Q .outgrown a ({c0 with mode:=u2}::cs) w:=hq;rw[<- hQ] at hq;let⟨u',_,hq⟩:=hq;exact zsi hq
  · rw[wpOps_eq_wpList l (0+1) (λj=>by rw[<- qB,hol,qy 0 1,qy 1 j];rfl)];have hx:=YS hgl (zej hΓ fn.ntmps κ) l hr hat;have:=Y9 (l2:=[]) (Q':=λe a w=>qA (c.wpS P Q) Q e a ({c0 with mode:=u2}::cs) w) (λa w hq=>?_) (λch a w hq=>?_) (λa w hq=>?_) l hx
    ·grind
    ·let⟨S',hk,hA'⟩:=hq;refine wpS_of_wp (wp_mono (yO hgl (zej hΓ fn.ntmps κ) (zgq hΓ hm fn.ntmps κ) hlp c 2 _ _ _ _ hk _ _ hA') post)
    ·let⟨v,S',hk,hA'⟩:=hq;cases hk
    ·exact hq.elim
 rcases zm9 hrec (cs:=cs) hmode with⟨e1,e2,e3⟩ | e1
 ·grind
 grind
end
section
variable {C:Cod}{P:Program}{ρ:Type}
def zal:List Oper->U7 (List Oper×Nat)
 |[]=>H
 |[⟨H,.defer ⟨.value (.tmp t),args,_⟩,_,_,_,H⟩]=>bif args.isEmpty then E ([],t) else H
 |o::r=>(zal r).map λp=>(o::p.1,p.2)
theorem zld:∀{l l':List Oper}{t:Nat},zal l=E (l',t)->∃o:Oper,l=l'++[o]/\o.guard=H/\o.dst=H/\∃ts,o.op = .defer ⟨.value (.tmp t), #[],ts⟩:=by
 intro l
 induction l with
 |nil=>intro l' t h;cases h
 |cons o r ih=>
  intro l' t h;unfold zal at h;split at h
  ·grind
  ·rename_i t' args ts ty ps af e;cases ha:args.isEmpty with
   |false=>grind
   |true=>
    rw[ha,D1] at h;cases h;have:args = #[]:=by simpa using ha
    subst this;cases e;exact⟨_,rfl,rfl,rfl,_,rfl⟩
  ·rename_i o' r' _ e;cases e;let⟨p,hp,h⟩:=DB.1 h;grind
def vU(m:Nat):List (AV C.D)->Bool
 |[]=>O
 | .pc k _::r=>U k m && vU m r
 |_=>M
def zek(S:St C):List (AV C.D)->Bool
 |[]=>O
 | .pc k _::r=>(S.heap k).isSome && zek S r
 |_=>M
def VH(stp:yM C)(dr:Yz C)(lp:ZW)(n:Nat)(hs:Nat->U7 Hint):Code->Nat->St C->(XE C->St C->U7 ρ)->(FuncId->List (AV C.D)->XE C->St C->U7 ρ)->U7 ρ
 | .seq (.region id ops M) c,i,S,KA,KB=>(match zal ops.toList with
  |some (l,t)=>ZJ stp n ops l S λe S'=>(match e with
   | .normal=>(match hs (i+1) with
    |some (.loop g _)=>(g.close 0 S').bind λx0=>(match(g.open x0).env t with
     | .clo f caps=>chk (vU g.es.length caps && W g.es.length 64) (ZC stp dr lp n g.es.length hs c (i+2) _ (g.open x0) (KB f caps))
     |_=>H)
    |_=>H)
   |e=>KA e S')
  |none=>ZC stp dr lp n 0 hs (.region id ops M) (i+1) _ S λe S'=>match e with
   | .normal=>VH stp dr lp n hs c (i+2) S' KA KB
   |e=>KA e S')
 | .seq a c,i,S,KA,KB=>ZC stp dr lp n 0 hs a (i+1) _ S λe S'=>match e with
     | .normal=>VH stp dr lp n hs c (i+1+xS a) S' KA KB
     |e=>KA e S'
 |_,_,_,_,_=>H
def zel(P:Program)(s:Spec C)(fn:Func)(outs:List (XK×Sig))(f:FuncId)(caps:List (AV C.D))(v:AV C.D)(S:St C):U7 (zf C outs):=
 chk (N s.f f && zek S caps) ((YT s.ins S (caps++[v])).bind λz=>zbW s (vB - 1) z.1 z.2.1 z.2.2 λout=>match out with
  | .go S'=>(w9 P (S'.put (vB - 1) .und) fn.results.toList).bind λAs=>zT 0 outs .ret (xx As S'.heap)
  |_=>H)
noncomputable def zhK(q:Opts)(Γ:List (Spec C))(sr sp:Spec C)(lp:ZW)(P:Program)(fn:Func)(nr:Nat)(ins:Sig)(outs:List (XK×Sig))(hs:Nat->U7 Hint)(x:ins.ty C):U7 (zf C outs):=
 match fn.body with
 |none=>H
 |some c=>chk (W ins.ts.length fn.ntmps && (N fn.results.toList.length nr && (W nr 4 && N ins.es.length 0)))
     (VH (Y6 q Γ P fn.ntmps) (drw q Γ P fn.ntmps) lp fn.ntmps hs c 0 (ins.open x) (λe S=>match e with
       | .ret=>(w9 P S fn.results.toList).bind λAs=>zT 0 outs .ret (xx As S.heap)
       | .pan v=>zT 0 outs (.pan v) (xx [] S.heap)
       |_=>H) λf caps e S=>match e with
       | .ret=>zel P sr fn outs f caps .nili S
       | .normal=>zel P sr fn outs f caps .nili S
       | .pan v=>zel P sp fn outs f caps v S
       |_=>H)
def VI(κ:Kp):List (AV C.D)->List Value->Prop
 |[],[]=>True
 | .pc k off::A,v::V=>(k < κ.m/\v = .pointer (E ((κ.ν0.adr k).add off)))/\VI κ A V
 |_,_=>False
theorem VI.of{Z:FS}{m:Nat}{h64:m<=64}:∀{caps:List (AV C.D)}{V:List Value},vU m caps=O->VRs C Z ν V caps->VI (⟨m,h64,ν⟩:Kp) caps V
 |[],[],_,_=>trivial
 |A::As,[],_,h=>h.elim
 |[],v::V,_,h=>h.elim
 |A::As,v::V,hp,⟨h1,h2⟩=>by
  cases A<;>first | (simp[vU] at hp;done) | skip
  rename_i k off;simp only[vU,gf] at hp;exact⟨⟨by simpa[Dd] using hp.1,h1⟩,VI.of hp.2 h2⟩
theorem znC{Z:FS}{m:Nat}:∀{caps:List (AV C.D)}{V:List Value},vU m caps=O->VRs C Z ν V caps->∀v∈V,v.oneCell'=O
 |[],[],_,_=>λv hv=>by cases hv
 |A::As,[],_,h=>h.elim
 |[],v::V,_,h=>h.elim
 |A::As,v::V,hp,⟨h1,h2⟩=>by
  cases A<;>first | (simp[vU] at hp;done) | skip
  simp only[vU,gf] at hp;intro u hu;rcases De.1 hu with e | e
  ·rw[e,show v = .pointer _ from h1];rfl
  ·exact znC hp.2 h2 u e
theorem VI.rs{κ:Kp}{S:St C}{L:List (Nat×Value)}{Z:FS}{PV:List Priv}(h:AbsL κ S ν vs ids L b Z PV):∀{caps:List (AV C.D)}{V:List Value},VI κ caps V->zek S caps=O->VRs C Z ν V caps/\AV.oks (λid=>(S.heap id).isSome=O) caps
 |[],[],_,_=>⟨trivial,trivial⟩
 |A::As,[],h,_=>by cases A<;>exact h.elim
 |[],v::V,h,_=>h.elim
 |A::As,v::V,hc,hl=>by
  cases A<;>first | exact hc.elim | skip
  rename_i k off;let⟨⟨h1,h2⟩,h3⟩:=hc;simp only[zek,gf] at hl;let⟨k1,k2⟩:=VI.rs h h3 hl.2;refine⟨⟨?_,k1⟩,⟨hl.1,k2⟩⟩;show v = .pointer (E ((ν.adr k).a.add off));rw[h2,(h.keep k h1 hl.1).2.1]
theorem AbsL.rekey{κ κ':Kp}{S:St C}{L:List (Nat×Value)}{Z:FS}{PV:List Priv}(h:AbsL κ S ν vs ids L b Z PV)(hk:∀k,k < κ'.m->(S.heap k).isSome=O->ν.hdr k=κ'.ν0.hdr k/\(ν.adr k).a=(κ'.ν0.adr k).a/\(Z0 (S.heap k)=O->(ν.adr k).sub=(κ'.ν0.adr k).sub)):AbsL κ' S ν vs ids L b Z PV:=
 ⟨⟨h.nd,h.dom,h.pv,h.cell,h.env,h.one⟩,h.live,h.livec,hk⟩
theorem AbsL.unput2{κ:Kp}{S:St C}{L:List (Nat×Value)}{Z:FS}{PV:List Priv}{d:Nat}(h:AbsL κ S ν vs ids ((d,v)::L) b Z PV):AbsL κ (S.put d .und) ν vs ids L b Z PV:=by
 refine⟨⟨h.nd,h.dom,h.pv,h.cell,λt=>?_,h.one⟩,λt=>?_,h.livec,h.keep⟩
 ·show VR C Z ν _ (upd S.env d .und t);by_cases e:t=d
  ·subst e;rw[zp];trivial
  ·rw[zq e];have:=h.env t;have e2:look ((d,v)::L) b t=look L b t:=by
    show(bif N t d then v else look L b t)=_;have:N t d=false:=by
     cases hb:N t d with
     |false=>rfl
     |true=>exact absurd (ge hb) e
    rw[this];rfl
   grind
 ·show(upd S.env d .und t).ok _;by_cases e:t=d
  ·subst e;rw[zp];trivial
  ·rw[zq e];exact h.live t
theorem zoS   {caps : List Value} {w : World} (hf : P.funcs[f]? = E fn) (hnm : (fn.name == "runtime.NumGoroutine") = M) (hb : fn.body.isNone = M) : (invoke (.fn (.func f) caps.toArray) #[]).run P w = .ok (.enter f caps.toArray) w := by
 simp only[invoke];unfold callFunc;simp only[UZ,Db,Da,hf,hnm,hb,jk,jp,UX,Array.empty_append]
theorem zle {s:Spec C}(hs:s.OKD P) {nr:Nat}{outs:List (XK×Sig)}{caps:List (AV C.D)}{v:AV C.D}{S:St C}{r:zf C outs}(hr:zel P s fn outs f caps v S=E r)
    (c4:fn.results.toList.length=nr) (c2:fn.results.toList.length<=4) {κ κ':Kp} (hκ:κ.m=0) {st:Start} {σ0:FS} (hgl:C.gl st.w σ0) {L:List (Nat×Value)} {b:Nat->Value} {Z:FS} {PV:List Priv} (hA:zy κ' S L b Z PV) {w:World} (hi:Inv st σ0 Z PV w) {tmps:Array Value} (hget:∀i,tmps.getD i undef=look L b i)
    {V:List Value} (hV:VI κ' caps V) {rv:Value} (hrv:∀ν:Val,(∀i,(ν.hdr i).oneCell'=O)->VR C Z ν rv v) (hok:∀p:Nat->Prop,v.ok p) {u u2:FrameMode} (hrec:ztI rv u u2) (hu2:settle u2 = .returning) (hu:u ≠.run) :
    Leaves P fn tmps (vd κ st σ0 nr outs r) [{target :=.fn (.func f) V.toArray,args:= #[]}] u w:=by
 unfold zel at hr;let⟨hc,hr1⟩:=zb hr;clear hr;simp only[gf] at hc;have hf:=ge hc.1;subst hf;let⟨z,hz,hr2⟩:=gd hr1;rw[ze8] at hr2;let⟨out,ho,hr⟩:=gd hr2;let⟨ν,vs,ids,hA⟩:=hA;let⟨k1,k2⟩:=VI.rs hA hV hc.2;let⟨fs,h1,h2,h3,hs⟩:=hs;refine leaves_cons hu (zoS h1 h2 h3) ?_;have hvr:VRs C Z ν (V++[rv]) (caps++[v]):=VRs.of (by simp[k1.len]) λj u A hu hA'=>by
  by_cases hj:j < caps.length
  ·rw[Dh hj] at hA';rw[Dh (by rw[k1.len];exact hj)] at hu;exact k1.rel hu hA'
  · rw[Dg (by omega)] at hA';rw[Dg (by rw[k1.len];omega),k1.len] at hu;cases hd:j - caps.length with
    |zero=>rw[hd] at hA' hu;simp at hA' hu;subst hA';subst hu;exact hrv ν hA.one
    |succ m=>grind
 have hlive:AV.oks (λid=>(S.heap id).isSome=O) (caps++[v]):=AV.oks_iff.2 λA hA'=>by
  rcases U9.1 hA' with h | h
  ·exact AV.oks_iff.1 k2 A h
  grind
 have hcall:=ze5 (hs V rv u u2 hrec) (λh k=>CallsD.mono h λe u' w' hq=>⟨hq.1,k _ _ hq.2⟩) hgl (d:=vB - 1) (S2:=z.1) (bl:=z.2.1) (x:=z.2.2) hz hA hvr hlive ho hi;refine CallsD.mono hcall ?_;rintro e u' w' ⟨rfl,hq⟩;cases e with
 |outgrown=>exact hq.elim
 |panicked ch=>grind
 |returned v'=>
  obtain⟨S',Z',PV',rfl,hi',ν',vs',ids',hA'⟩:=hq;show Leaves P fn tmps _ [] (settle u') w';rw[hu2];have hfin:zy κ (S'.put (vB - 1) .und) L b Z' PV':=⟨ν',vs',ids',hA'.unput2.rekey λk hk=>by grind⟩;have hr:(w9 P (S'.put (vB - 1) .und) fn.results.toList).bind (λAs=>zT κ.m outs .ret (xx As (S'.put (vB - 1) .und).heap))=E r:=by rw[hκ];exact hr
  let⟨v,h1,h2⟩:=zno (nr:=nr) c4 c2 hr hfin hi' hget;exact⟨v,h1,h2⟩
theorem zsj {stp:yM C}{dr:Yz C}{lp:ZW}{n:Nat}{hs:Nat->U7 Hint}{w0:Start}{σ0:FS}(hgl:C.gl w0.w σ0) (hstp:∀ [Dfr] κ,xP P n κ stp) (hdr:∀ [Dfr] κ,vG P n κ dr) (hlp:xw lp) {κ:Kp}(hκ:κ.m=0)
    {KA:XE C->St C->U7 ρ} {KB:FuncId->List (AV C.D)->XE C->St C->U7 ρ} {r:ρ} {Q:Exit->Act->World->Prop}
    (hKA:∀e a w,e ≠.normal->@Zi dfr0 C ρ n w0 σ0 κ KA r e a w->Q e a w)
    (hKB:∀(κ':Kp) f caps V,VI κ' caps V->∀e a w,@Zi ⟨[{target :=.fn (.func f) V.toArray,args:= #[]}]⟩ C ρ n w0 σ0 κ' (KB f caps) r e a w->Q e a w) :
    ∀(c:Code) (i:Nat) (S:St C),VH stp dr lp n hs c i S KA KB=E r->∀(a:Act) (w:World),@At dfr0 C n w0 σ0 κ S a w->c.wp P Q a w:=by
 have plain:∀(x c:Code) (i j:Nat) (S:St C),(∀(S:St C),VH stp dr lp n hs c j S KA KB=E r->∀(a:Act) (w:World),@At dfr0 C n w0 σ0 κ S a w->c.wp P Q a w)->
     (ZC stp dr lp n 0 hs x i _ S λe S'=>match e with
     | .normal=>VH stp dr lp n hs c j S' KA KB
     |e=>KA e S')=E r->∀(a:Act) (w:World),@At dfr0 C n w0 σ0 κ S a w->(qb x c).wp P Q a w:=by
  intro x c i j S ih h a w hA;rw[<- hκ] at h;refine wp_seq (wp_mono (@yO dfr0 κ C n w0 σ0 P stp dr lp hs hgl (hstp κ) (hdr κ) hlp x i _ _ _ _ h a w hA) ?_);intro e a w hq;cases e with
  |normal=>let⟨S',hk,hA'⟩:=hq;exact ih _ hk _ _ hA'
  |exit j=>exact hKA _ _ _ (by simp) hq
  |ret=>exact hKA _ _ _ (by simp) hq
  |panic ch=>exact hKA _ _ _ (by simp) hq
  |goto l=>exact hq.elim
  |outgrown=>exact hq.elim
 intro c
 induction c with
 |seq x c _ ih=>
  intro i S h a w hA;cases x with
  |region id ops dw=>
   cases dw with
   |true=>exact plain _ c _ _ S (ih _) h a w hA
   |false=>
    unfold VH at h;split at h
    · rename_i l t hl;let⟨o,e1,e2,e3,ts,e4⟩:=zld hl;refine wp_seq (wp_region_list ?_);rw[e1];have hx:=@YS dfr0 κ C n w0 σ0 P ρ stp hgl (hstp κ) ops l S _ r h a w hA;refine Y9 (λa w hq=>?_) (λch a w hq=>?_) (λa w hq=>hq.elim) l hx
      case refine_2=>
        let⟨v,S',hk,hA'⟩:=hq;exact hKA _ _ _ (by simp) ⟨v,S',hk,hA'⟩
      let⟨S',hk,hA'⟩:=hq
      have hk:(match hs (i+1) with
       |some (.loop g _)=>(g.close 0 S').bind λx0=>(match(g.open x0).env t with
        | .clo f caps=>chk (vU g.es.length caps && W g.es.length 64) (ZC stp dr lp n g.es.length hs c (i+2) _ (g.open x0) (KB f caps))
        |_=>H)
       |_=>H)=E r:=hk
      split at hk
      case h_2=>cases hk
      rename_i g _ _;let⟨x0,hx0,hk⟩:=gd hk;rw[<- hκ] at hx0;let⟨L,b,Z,PV,⟨ν,vs,ids,hA2⟩,hi,hf⟩:=@At.close dfr0 _ _ _ _ _ _ _ _ _ _ hx0 hA';split at hk
      case h_2=>cases hk
      rename_i f caps hclo;let⟨hc,hk⟩:=zb hk;simp only[gf] at hc;have h64:=Dj hc.2;have hv:=hA2.env t;rw[hclo] at hv;let⟨V,hv1,hv2⟩:=hv;rw[znk f (znC hc.1 hv2)] at hv1;have hcap:=VI.of (h64:=h64) hc.1 hv2;refine wpList_plain e2 λKw hK=>?_
      unfold X;have hev:(execOp a.eval o).run P w = .ok (.defer {target :=.fn (.func f) V.toArray,args:= #[]}) w:=by
       rw[hf.eval];simp only[execOp,e4,resolve,opv,hv1,Deferred.ofValue,UZ,UX,Da];simp
      rw[hev];show Kw _ w;refine hK _ _ ?_;show Exit.then _ Q .normal _ w;have hd:a.defers=[]:=hf.defers;have hsz:=hf.size;have hgt:=hf.get
      let D:Dfr:=⟨[{target :=.fn (.func f) V.toArray,args:= #[]}]⟩
      have hf2:@Fits D n L b (Act.put {a with defers:={target :=.fn (.func f) V.toArray,args:= #[]}::a.defers} o.dst undef):=by
       rw[e3];exact⟨by show _::a.defers=_;rw[hd];rfl,hsz,hgt⟩
      have hA3:@At D C n w0 σ0 ⟨g.es.length,h64,ν⟩ (g.open x0) (Act.put {a with defers:={target :=.fn (.func f) V.toArray,args:= #[]}::a.defers} o.dst undef) w:=
       ⟨L,b,Z,PV,⟨ν,vs,ids,hA2.rekey λk _ _=>⟨rfl,rfl,λ_=>rfl⟩⟩,hi,hf2⟩
      exact wp_mono (@yO D ⟨g.es.length,h64,ν⟩ C n w0 σ0 P stp dr lp hs hgl (@hstp D _) (@hdr D _) hlp c (i+2) _ _ _ _ hk _ _ hA3) (hKB _ f caps V hcap)
    ·exact plain _ c _ _ S (ih _) h a w hA
  |_=>exact plain _ c _ _ S (ih _) h a w hA
 |_=>intro i S h;cases h
theorem zhL  {Γ : List (Spec C)} (hΓ : ∀ s ∈ Γ, s.OK P) {sr sp : Spec C} (hsr : sr.OKD P) (hsp : sp.OKD P) (hm : P.follows .mixedOrders = O) {lp : ZW} (hlp : xw lp)   {nr : Nat}   (hs : Nat -> U7 Hint) (hf : P.funcs[f]? = E fn) (hnm : (fn.name == "runtime.NumGoroutine") = M) (hbs : fn.body.isNone = M) {F : ins.ty C -> U7 (zf C outs)} (hF : ∀ x, F x = zhK q Γ sr sp lp P fn nr ins outs hs x) :
    Spec.OK P ⟨f,nr,ins,outs,F⟩:=by
 refine⟨fn,hf,hnm,hbs,?_⟩;intro x r hr κ st Z hg PV ν vs ids args hm' hargs hA hpre;have hr:zhK q Γ sr sp lp P fn nr ins outs hs x=E r:=by grind
 unfold zhK at hr;split at hr
 ·cases hr
 rename_i c hb;let⟨hc,hr⟩:=zb hr;simp only[gf] at hc;let⟨c1,c4,c2,c3⟩:=hc;have c4:=ge c4;have c2:fn.results.toList.length<=4:=by rw[c4];exact Dj c2
 have hκ:κ.m=0:=by rw[show κ.m=ins.es.length from hm'];exact ge c3
 have hargs:args.length=ins.ts.length:=hargs;have hn:args.length<=fn.ntmps:=by rw[hargs];exact Dj c1
 have hat:@At dfr0 C fn.ntmps st Z κ (ins.open x) {tmps:=args.toArray++qk (fn.ntmps - args.toArray.size) undef,defers:=[]} st.w:=⟨_,_,Z,PV,⟨ν,vs,ids,hA⟩,hpre.inv,vO hn⟩;refine calls_of_wp_defers hf hb (zsj hg (λκ=>zej hΓ fn.ntmps κ) (λκ=>zgq hΓ hm fn.ntmps κ) hlp hκ ?_ ?_ c 0 _ hr _ _ hat)
 · intro e a w hne hx;cases e with
   |normal=>grind
   |ret=>
    obtain⟨S',hk,hA'⟩:=hx;have hd:a.defers=[]:=hA'.defers;obtain⟨v,h1,h2⟩:=zdh (κ:=κ) (nr:=nr) c4 c2 (by rw[hκ];exact hk) hA';show Leaves P fn a.tmps _ a.defers .returning w;rw[hd];exact⟨v,h1,h2⟩
   |exit j=>let⟨S',hk,hA'⟩:=hx;cases hk
   |panic ch=>
    let⟨v,S',hk,hA'⟩:=hx;obtain⟨u,L,b,Z',PV',rfl,hp,⟨ν',vs',ids',hA'⟩,hi',hf'⟩:=hA';have hd:a.defers=[]:=hf'.defers;show Leaves P fn a.tmps _ a.defers (.panicking _) w;rw[hd];have hav:AbsL κ (xx [] S'.heap) ν' vs' ids' [] (λ_=>undef) Z' PV':=zbP (us:=[]) hA' trivial trivial;have hk:zT κ.m outs (.pan v) (xx [] S'.heap)=E r:=by grind
    show vd κ st Z nr outs r _ w;refine YG hk λg y hy e' he=>?_
    cases e'<;>first | exact he.elim | skip
    obtain⟨s,z,hz,rfl⟩:=he;let⟨σ2,PV2,hl,hi2,h2⟩:=w8 hy ⟨ν',vs',ids',hav⟩ hi';exact⟨u,σ2,PV2,rfl,hi2,hp.again hl hz,h2⟩
   |goto l=>exact hx.elim
   |outgrown=>exact hx.elim
 · intro κ' f' caps V hV e a w hx;have ret:∀{S':St C},zel P sr fn outs f' caps .nili S'=E r->@At ⟨[{target :=.fn (.func f') V.toArray,args:= #[]}]⟩ C fn.ntmps st Z κ' S' a w->Leaves P fn a.tmps (vd κ st Z nr outs r) a.defers .returning w:=by
     intro S' hk hA';have hd:=@At.defers ⟨_⟩ _ _ _ _ _ _ _ _ hA';let⟨L,b,Z',PV',hA',hi',hf'⟩:=hA';rw[hd];exact zle hsr hk c4 c2 hκ hg hA' hi' (@Fits.get ⟨_⟩ _ _ _ _ hf') hV (rv :=.nilIface) (λν _=>Rv.nili) (λ_=>trivial) (u2 :=.returning) (.inl ⟨rfl,rfl,rfl⟩) rfl (by simp)
   cases e with
   |normal=>let⟨S',hk,hA'⟩:=hx;exact ret hk hA'
   |ret=>let⟨S',hk,hA'⟩:=hx;exact ret hk hA'
   |exit j=>let⟨S',hk,hA'⟩:=hx;cases hk
   |panic ch=>
    let⟨v,S',hk,hA'⟩:=hx;obtain⟨u,L,b,Z',PV',rfl,hp,hA',hi',hf'⟩:=hA';have hd:=@Fits.defers ⟨_⟩ _ _ _ _ hf';show Leaves P fn a.tmps _ a.defers (.panicking _) w;rw[hd];exact zle hsp hk c4 c2 hκ hg hA' hi' (@Fits.get ⟨_⟩ _ _ _ _ hf') hV (rv:=u) hp.2 (λp=>AV.ok_mono (λ_ h=>h.elim) hp.1) (u2 :=.panicking [{v:=u,recovered:=true}]) (.inr ⟨rfl,rfl⟩) rfl (by simp)
   |goto l=>exact hx.elim
   |outgrown=>exact hx.elim
end
section
variable {P:Program}{w0:Start}{σ0 Z:FS}{PV:List Priv}{w:World}
variable {L:List (Nat×Value)}{bb:Nat->Value}{mt kt et:TypeId}{ty:TypeId}{ps:String}{af:Array Edge}{d:Nat}
theorem znb:(execOp (opv L bb) ⟨E d,.makeMap mt H,ty,ps,af,H⟩).run P w = .ok (.value (.map (E w.heap.size))) (w.alloc (.map #[] 0)):=by
 simp[execOp,Instr.makeMap,Y]
theorem zgr {es:Array MapEntry}{clock:Nat}(hm:P.underlying mt=E (.map kt et)) (hk:P.underlying kt=E .string) (hx:opv L bb x = .map (E r)) (hb:w.heap[r]?=E (.map es clock)) (hnew:Instr.findNow .string (.string k1) es.toList 0=E H) :
    (execOp (opv L bb) ⟨H,.insert mt x (.const (.string k1)) (.const v1),ty,ps,af,H⟩).run P w = .ok .skip {w with heap:=w.heap.setIfInBounds r (.map (es.push {key :=.string k1,val:=v1,born:=clock}) (clock+1))}:=by
 have hc:opv L bb (.const (.string k1)) = .string k1:=rfl;have hv:opv L bb (.const v1)=v1:=rfl;have h1:=D7 (P:=P) hb;have h2:=MapKept.run_checkKey (P:=P) (w:=w) hk (k :=.string k1) trivial M 9999;have h3:=MapKept.run_findKey (P:=P) (w:=w) hk hnew;have h4:=MapKept.run_setObj_map (P:=P) (.map (es.push {key :=.string k1,val:=v1,born:=clock}) (clock+1)) hb;simp[execOp,Instr.mapUpdate,hx,hc,hv,UY hm,h1,h2,h3,h4,Y]
theorem zlf {es:Array MapEntry}{clock:Nat}(hm:P.underlying mt=E (.map kt et)) (hx:opv L bb x = .map (E r)) (hb:w.heap[r]?=E (.map es clock)) :
    (execOp (opv L bb) ⟨E d,.range mt x,ty,ps,af,H⟩).run P w = .ok (.value (.pointer (E ⟨w.heap.size,0,H⟩))) (w.alloc (.mapIter (E r) clock #[] clock)):=by
 simp[execOp,Instr.range,hx,UY hm,D7 hb,Y]
theorem yR{m:U7 Nat}{s:Nat}{c:Nat}(hb:w.heap[r]?=E (.mapIter m s seen c)):(getObj r).run P w = .ok (.mapIter m s seen c) w:=by
 simp[getObj,Sem.run,hb]
theorem Xp{m:U7 Nat}{s:Nat}{c:Nat}(o:Obj)(hb:w.heap[r]?=E (.mapIter m s seen c)):(setObj r o).run P w = .ok () {w with heap:=w.heap.setIfInBounds r o}:=by
 simp[setObj,Sem.run,hb]
def Xn(k1 k2:ByteArray)(v1 v2:Value):Array MapEntry:= #[{key :=.string k1,val:=v1,born:=0},{key :=.string k2,val:=v2,born:=1}]
theorem zsk {R I:Nat}{s:U7 Unit}(hx:opv L bb x = .pointer (E ⟨I,0,H⟩)) (hI:w.heap[I]?=E (.mapIter (E R) 2 #[] 2)) (hR:w.heap[R]?=E (.map (Xn k1 k2 v1 v2) 2)) :
    let r:=(execOp (opv L bb) ⟨E d,.next x M,ty,ps,af,H⟩).run P w
    r = .ok (.value (.tuple #[.bool O,.string k1,v1])) {w.drew with heap:=w.drew.heap.setIfInBounds I (.mapIter (E R) 2 #[0] 2)}\/r = .ok (.value (.tuple #[.bool O,.string k2,v2])) {w.drew with heap:=w.drew.heap.setIfInBounds I (.mapIter (E R) 2 #[1] 2)}:=by
 intro r;have hI2:w.drew.heap[I]?=E (.mapIter (E R) 2 #[] 2):=hI;have h2:w.tape w.drawn (.mapNext 2) % 2=0\/w.tape w.drawn (.mapNext 2) % 2=1:=by omega
 rcases h2 with h2 | h2
 ·left;show(execOp (opv L bb) _).run P w=_;simp[execOp,Instr.next,hx,yR hI,D7 hR,Xp _ hI2,Y,Xn,qc,qv,h2]
 ·right;show(execOp (opv L bb) _).run P w=_;simp[execOp,Instr.next,hx,yR hI,D7 hR,Xp _ hI2,Y,Xn,qc,qv,h2]
theorem zsl {R I:Nat}(hx:opv L bb x = .pointer (E ⟨I,0,H⟩)) (hI:w.heap[I]?=E (.mapIter (E R) 2 #[0] 2)) (hR:w.heap[R]?=E (.map (Xn k1 k2 v1 v2) 2)) :
    (execOp (opv L bb) ⟨E d,.next x M,ty,ps,af,H⟩).run P w = .ok (.value (.tuple #[.bool O,.string k2,v2])) {w with heap:=w.heap.setIfInBounds I (.mapIter (E R) 2 #[0,1] 2)}:=by
 simp[execOp,Instr.next,hx,yR hI,D7 hR,Xp _ hI,Y,Xn,qc];rw[jx (λh=>by have:=h 0 (by omega);simp at this)]
theorem zoT {R I:Nat}(hx:opv L bb x = .pointer (E ⟨I,0,H⟩)) (hI:w.heap[I]?=E (.mapIter (E R) 2 #[1] 2)) (hR:w.heap[R]?=E (.map (Xn k1 k2 v1 v2) 2)) :
    (execOp (opv L bb) ⟨E d,.next x M,ty,ps,af,H⟩).run P w = .ok (.value (.tuple #[.bool O,.string k1,v1])) {w with heap:=w.heap.setIfInBounds I (.mapIter (E R) 2 #[1,0] 2)}:=by
 simp[execOp,Instr.next,hx,yR hI,D7 hR,Xp _ hI,Y,Xn,qc];rw[jx (λh=>by have:=h 0 (by omega);simp at this)]
theorem zsm {R I:Nat}(hs:seen = #[0,1]\/seen = #[1,0]) (hx:opv L bb x = .pointer (E ⟨I,0,H⟩)) (hI:w.heap[I]?=E (.mapIter (E R) 2 seen 2)) (hR:w.heap[R]?=E (.map (Xn k1 k2 v1 v2) 2)) :
    (execOp (opv L bb) ⟨E d,.next x M,ty,ps,af,H⟩).run P w = .ok (.value (.tuple #[.bool M])) w:=by
 rcases hs with rfl | rfl<;>
 (simp[execOp,Instr.next,hx,yR hI,D7 hR,Y,Xn,qc];rw[jx (λh=>by have:=h 0 (by omega);simp at this)])
theorem ziI {R I:Nat}(hx:opv L bb x = .pointer (E ⟨I,0,H⟩)) (hI:w.heap[I]?=E (.mapIter (E R) 2 seen 2)) (hR:w.heap[R]?=E (.map (Xn k1 k2 v1 v2) 2)) :
    (seen.back?=E 0->(execOp (opv L bb) ⟨E d,.entry x,ty,ps,af,H⟩).run P w = .ok (.value (.tuple #[.string k1,v1])) w)/\(seen.back?=E 1->(execOp (opv L bb) ⟨E d,.entry x,ty,ps,af,H⟩).run P w = .ok (.value (.tuple #[.string k2,v2])) w):=by
 refine⟨λh=>?_,λh=>?_⟩<;>
 simp[execOp,Instr.entry,hx,yR hI,h,D7 hR,Y,Xn]
end
structure MapM where
 mt:TypeId
 kt:TypeId
 r:Nat
 s:Nat
 it:Nat
 x:Nat
 y:Nat
 b:Nat
 b2:Nat
 k1:ByteArray
 k2:ByteArray
 v1:Value
 v2:Value
 ops1:Array Oper
 ops2:Array Oper
 l1:List Oper
 l2:List Oper
 cnd:Code
 rest:Code
def mapM(P:Program):Code->U7 MapM
 | .seq (.region _ ops M) (.block b (.loop (.seq (.region _ ops1 M) (.seq cnd (.block b2 (.seq (.region _ ops2 M) rest))))))=>
  (match ops.toList,ops1.toList,ops2.toList with
  |[⟨E r,.makeMap mt H,_,_,_,H⟩,⟨H,.insert mt1 (.tmp r1) (.const (.string k1)) (.const v1),_,_,_,H⟩,⟨H,.insert mt2 (.tmp r2) (.const (.string k2)) (.const v2),_,_,_,H⟩,⟨E s,.move (.tmp r3),_,_,_,H⟩,⟨E it,.range mt3 (.tmp s1),_,_,_,H⟩],
   ⟨E x,.next (.tmp i1) M,_,_,_,H⟩::l1,⟨E y,.entry (.tmp i2),_,_,_,H⟩::l2=>
   (match P.underlying mt with
   |some (.map kt _)=>(match P.underlying kt with
    |some .string=>chk (N mt1 mt && (N mt2 mt && (N mt3 mt && (N r1 r && (N r2 r && (N r3 r && (N s1 s && (N i1 it && (N i2 it && !(k2 == k1)))))))))) (E ⟨mt,kt,r,s,it,x,y,b,b2,k1,k2,v1,v2,ops1,ops2,l1,l2,cnd,rest⟩)
    |_=>H)
   |_=>H)
  |_,_,_=>H)
 |_=>H
theorem zxO {P:Program}{m:MapM}(h:mapM P c=E m):∃id id1 id2 ops et,c = .seq (.region id ops M) (.block m.b (.loop (.seq (.region id1 m.ops1 M) (.seq m.cnd (.block m.b2 (.seq (.region id2 m.ops2 M) m.rest))))))/\
    P.underlying m.mt=E (.map m.kt et)/\P.underlying m.kt=E .string/\(m.k2 == m.k1)=M/\
    (∃ty1 ps1 af1 ty2 ps2 af2 ty3 ps3 af3 ty4 ps4 af4 ty5 ps5 af5,ops.toList=[⟨E m.r,.makeMap m.mt H,ty1,ps1,af1,H⟩,⟨H,.insert m.mt (.tmp m.r) (.const (.string m.k1)) (.const m.v1),ty2,ps2,af2,H⟩,⟨H,.insert m.mt (.tmp m.r) (.const (.string m.k2)) (.const m.v2),ty3,ps3,af3,H⟩,⟨E m.s,.move (.tmp m.r),ty4,ps4,af4,H⟩,⟨E m.it,.range m.mt (.tmp m.s),ty5,ps5,af5,H⟩])/\
    (∃ty ps af,m.ops1.toList=⟨E m.x,.next (.tmp m.it) M,ty,ps,af,H⟩::m.l1)/\∃ty ps af,m.ops2.toList=⟨E m.y,.entry (.tmp m.it),ty,ps,af,H⟩::m.l2:=by
 unfold mapM at h;split at h
 case h_2=>cases h
 split at h
 case h_2=>cases h
 rename_i e1 e2 e3;split at h
 case h_2=>cases h
 rename_i kt et hmt;split at h
 case h_2=>cases h
 rename_i hkt;let⟨hc,h⟩:=zb h;simp only[gf,Dz] at hc;let⟨a1,a2,a3,a4,a5,a6,a7,a8,a9,a10⟩:=hc;have a1:=ge a1;have a2:=ge a2;have a3:=ge a3;have a4:=ge a4;have a5:=ge a5;have a6:=ge a6;have a7:=ge a7;have a8:=ge a8;have a9:=ge a9;cases h;subst a1;subst a2;subst a3;subst a4;subst a5;subst a6;subst a7;subst a8;subst a9;exact⟨_,_,_,_,et,rfl,hmt,hkt,a10,⟨_,_,_,_,_,_,_,_,_,_,_,_,_,_,_,e1⟩,⟨_,_,_,e2⟩,⟨_,_,_,e3⟩⟩
section
variable {C:Cod}{P:Program}{ρ:Type}
def zhM(it j:Nat)(S:St C):Bool:=(match S.env it with
 | .pc j' 0=>N j' j
 |_=>M) && (S.heap j).isSome
section
variable (stp:yM C)(dr:Yz C)(lp:ZW)(n:Nat)(hs:Nat->U7 Hint)(mm nc nr:Nat)(m:MapM)(j:Nat)
def Vm(S:St C)(nx:AV C.D)(K:XE C->St C->U7 ρ):U7 ρ:=
 chk (zhM m.it j S && U m.x n) (ZJ stp n m.ops1 m.l1 (S.put m.x nx) λe S'=>match e with
  | .normal=>ZC stp dr lp n mm hs m.cnd nc _ S' K
  |_=>H)
def zhN(k:ByteArray)(v:Value)(K:XE C->St C->U7 ρ)(S1:St C):U7 ρ:=
 chk (zhM m.it j S1 && U m.y n) (ZJ stp n m.ops2 m.l2 (S1.put m.y (.tup [.str k,ZY v])) λe S2=>match e with
  | .normal=>ZC stp dr lp n mm hs m.rest nr _ S2 λe S3=>match e with
   | .exit i=>bif N i m.b2 then K .normal S3 else bif N i m.b then H else K (.exit i) S3
   |e=>K e S3
  |_=>H)
def mapIter(S:St C)(k:ByteArray)(v:Value)(K:XE C->St C->U7 ρ):U7 ρ:=
 Vm stp dr lp n hs mm nc m j S (.tup [.bool O,.str k,ZY v]) λe S1=>match e with
  | .normal=>zhN stp dr lp n hs mm nr m j k v K S1
  |_=>H
def WQ(K:XE C->St C->U7 ρ)(S:St C):U7 ρ:=
 Vm stp dr lp n hs mm nc m j S (.tup [.bool M]) λe S'=>match e with
  | .exit i=>bif N i m.b then K .normal S' else H
  |_=>H
def zb7(f:St C->U7 ρ)(K:XE C->St C->U7 ρ):XE C->St C->U7 ρ:=λe S=>match e with
 | .normal=>f S
 |e=>K e S
noncomputable def zhO(K:XE C->St C->U7 ρ)(S:St C):U7 ρ:=
 Yc (mapIter stp dr lp n hs mm nc nr m j S m.k1 m.v1 (zb7 (λS=>mapIter stp dr lp n hs mm nc nr m j S m.k2 m.v2 (zb7 (WQ stp dr lp n hs mm nc m j K) K)) K))
  (mapIter stp dr lp n hs mm nc nr m j S m.k2 m.v2 (zb7 (λS=>mapIter stp dr lp n hs mm nc nr m j S m.k1 m.v1 (zb7 (WQ stp dr lp n hs mm nc m j K) K)) K))
end
def zlg(m:MapM)(S:St C):St C:=
 {env:=upd (upd (upd S.env m.r .und) m.s .und) m.it (.pc (nid m.it 0) 0),heap:=upd S.heap (nid m.it 0) (E (.cell []))}
noncomputable def zhP(stp:yM C)(dr:Yz C)(lp:ZW)(n:Nat)(hs:Nat->U7 Hint)(mm:Nat)(m:MapM)(i:Nat)(S:St C)(K:XE C->St C->U7 ρ):U7 ρ:=match hs i,hs (i+1) with
 |some (.cut outs),E (.loop g _)=>chk (isNone (S.heap (nid m.it 0)) && (U m.r n && (U m.s n && (U m.it n && (W mm (nid m.it 0) && (W g.es.length 64 && (W mm g.es.length && (g.es.take mm).all λe=> !e.isGone)))))))
     ((g.close mm (zlg m S)).bind λx0=>(match(g.open x0).env m.it with
       | .pc j 0=>chk (U j g.es.length) ((zhO stp dr lp n hs g.es.length (i+7) (i+7+xS m.cnd+3) m j (λe S'=>zT mm outs e S') (g.open x0)).bind λy=>zR outs y K)
       |_=>H))
 |_,_=>H
section
variable [Dfr]{κ:Kp}{S:St C}{n:Nat}{w0:Start}{σ0:FS}{a:Act}{w:World}
def AtM(n:Nat)(w0:Start)(σ0:FS)(κ:Kp)(R I:Nat)(om oi:Obj)(S:St C)(a:Act)(w:World):Prop:=∃L b Z PV,zy κ S L b Z PV/\Inv w0 σ0 Z (PV++[.obj R om,.obj I oi]) w/\Fits n L b a
def zBG(n:Nat)(w0:Start)(σ0:FS)(κ:Kp)(R I:Nat)(om oi:Obj)(v:AV C.D)(S:St C)(chain:List PanicEntry)(a:Act)(w:World):Prop:=∃u L b Z PV,chain=[{v:=u,recovered:=false}]/\Xy C Z u v/\zy κ S L b Z PV/\Inv w0 σ0 Z (PV++[.obj R om,.obj I oi]) w/\Fits n L b a
def XX(n:Nat)(w0:Start)(σ0:FS)(κ:Kp)(R I:Nat)(om oi:Obj)(S:St C)(e:XE C)(x:Exit)(a:Act)(w:World):Prop:=match e,x with
 | .normal,.normal=>AtM n w0 σ0 κ R I om oi S a w
 | .exit i,.exit j=>i=j/\AtM n w0 σ0 κ R I om oi S a w
 | .ret,.ret=>AtM n w0 σ0 κ R I om oi S a w
 | .pan v,.panic chain=>zBG n w0 σ0 κ R I om oi v S chain a w
 |_,_=>False
theorem Zi.rel{K:XE C->St C->U7 ρ}{r:ρ}{x:Exit}(h:Zi n w0 σ0 κ K r x a w):∃e S',K e S'=E r/\zfs n w0 σ0 κ S' e x a w:=by
 cases x with
 |normal=>let⟨S',h1,h2⟩:=h;exact⟨.normal,S',h1,h2⟩
 |exit i=>let⟨S',h1,h2⟩:=h;exact⟨.exit i,S',h1,rfl,h2⟩
 |ret=>let⟨S',h1,h2⟩:=h;exact⟨.ret,S',h1,h2⟩
 |panic ch=>let⟨v,S',h1,h2⟩:=h;exact⟨.pan v,S',h1,h2⟩
 |goto l=>exact h.elim
 |outgrown=>exact h.elim
theorem AtM.frame{R I:Nat}{om oi:Obj}(hgl:C.gl w0.w σ0)(h:AtM n w0 σ0 κ R I om oi S a w):∃f1 Z,C.gl w Z/\At n ⟨w,f1⟩ Z κ S a w/\∀{S':St C}{e x a' w'},zfs n ⟨w,f1⟩ Z κ S' e x a' w'->XX n w0 σ0 κ R I om oi S' e x a' w':=by
 let⟨L,b,Z,PV,hA,hi,hf⟩:=h;let⟨gg,hsep,hg⟩:=hi.own;let⟨f1,f2,s1,s2,l1,l2,dd⟩:=hsep.split;have hin:Inv ⟨w,f1⟩ Z Z PV w:=Inv.start hi.sub s1 (hg.sub.mono l1) (hg.mono l1).apart;refine⟨f1,Z,C.glm hi.le hi.ext hgl,⟨L,b,Z,PV,hA,hin,hf⟩,?_⟩;have key:∀{S':St C} {a' w'},At n ⟨w,f1⟩ Z κ S' a' w'->AtM n w0 σ0 κ R I om oi S' a' w':=by
  rintro S' a' w' ⟨L',b',Z',PV',hA',hi',hf'⟩;exact⟨L',b',Z',PV',hA',hi.call hg s2 l1 l2 dd hi',hf'⟩
 intro S' e x a' w' hx;unfold zfs at hx;unfold XX;split at hx
 ·exact key hx
 ·grind
 ·exact key hx
 ·let⟨u,L',b',Z',PV',h1,h2,hA',hi',hf'⟩:=hx;exact⟨u,L',b',Z',PV',h1,h2,hA',hi.call hg s2 l1 l2 dd hi',hf'⟩
 grind
theorem zvR {R I:Nat}{om oi:Obj}(hgl:C.gl w0.w σ0) {stp:yM C}(hstp:xP P n κ stp) {ops:Array Oper}{l:List Oper}{K:XE C->St C->U7 ρ}{r:ρ}(h:ZJ stp n ops l S K=E r) (hA:AtM n w0 σ0 κ R I om oi S a w) :
    wpList P ops (λx a w=>∃e S',K e S'=E r/\XX n w0 σ0 κ R I om oi S' e x a w) l a w:=by
 let⟨f1,Z,hg,hat,hback⟩:=hA.frame hgl;have:=Y9 (l2:=[]) (Q':=λx a w=>∃e S',K e S'=E r/\XX n w0 σ0 κ R I om oi S' e x a w) (λa w hq=>?_) (λch a w hq=>?_) (λa w hq=>?_) l (YS hg hstp l h hat)
 ·grind
 ·let⟨e,S',h1,h2⟩:=hq.rel;exact⟨e,S',h1,hback h2⟩
 ·let⟨e,S',h1,h2⟩:=hq.rel;grind
 ·exact hq.elim
theorem zsn {R I:Nat}{om oi:Obj}(hgl:C.gl w0.w σ0) {stp:yM C}{dr:Yz C}{lp:ZW}{hs:Nat->U7 Hint}(hstp:xP P n κ stp) (hdr:vG P n κ dr) (hlp:xw lp) {i:Nat}{K:XE C->St C->U7 ρ}{r:ρ}(h:ZC stp dr lp n κ.m hs c i _ S K=E r) (hA:AtM n w0 σ0 κ R I om oi S a w) :
    c.wp P (λx a w=>∃e S',K e S'=E r/\XX n w0 σ0 κ R I om oi S' e x a w) a w:=by
 let⟨f1,Z,hg,hat,hback⟩:=hA.frame hgl;refine wp_mono (yO hg hstp hdr hlp c i _ _ _ _ h _ _ hat) λx a w hq=>?_
 let⟨e,S',h1,h2⟩:=hq.rel;grind
theorem AtM.put{R I:Nat}{om oi:Obj}(h:AtM n w0 σ0 κ R I om oi S a w){d:Nat}{A:AV C.D}(hd:U d n=O)(hv:∀Z ν,VR C Z ν v A)(hok:∀p:Nat->Prop,A.ok p):AtM n w0 σ0 κ R I om oi (S.put d A) (a.put (E d) v) w:=by
 let⟨L,b,Z,PV,⟨ν,vs,ids,hA⟩,hi,hf⟩:=h;exact⟨_,b,Z,PV,⟨ν,vs,ids,hA.put (hv _ _) (hok _)⟩,hi,hf.put (by simpa[Dd] using hd) _⟩
theorem AtM.obj{R I:Nat}{om oi:Obj}(h:AtM n w0 σ0 κ R I om oi S a w):w.heap[R]?=E om/\w.heap[I]?=E oi:=by
 let⟨L,b,Z,PV,_,hi,_⟩:=h;exact⟨hi.objAt (m:=PV.length) (by grind),hi.objAt (m:=PV.length+1) (by grind)⟩
theorem AtM.setI{R I:Nat}{om oi oi':Obj}(ho:xu oi=M)(ho':xu oi'=M)(h:AtM n w0 σ0 κ R I om oi S a w):AtM n w0 σ0 κ R I om oi' S a {w with heap:=w.heap.setIfInBounds I oi' }:=by
 let⟨L,b,Z,PV,hA,hi,hf⟩:=h;have:=hi.setObj (r:=I) (o:=oi) (o':=oi') (m:=PV.length+1) ho ho' (by grind);rw[List.set_append_right _ _ (by omega)] at this;exact⟨L,b,Z,PV,hA,by simpa using this,hf⟩
theorem AtM.drew{R I:Nat}{om oi:Obj}(h:AtM n w0 σ0 κ R I om oi S a w):AtM n w0 σ0 κ R I om oi S a w.drew:=by
 let⟨L,b,Z,PV,hA,hi,hf⟩:=h;exact⟨L,b,Z,PV,hA,hi.drew,hf⟩
theorem AtM.iter{R I:Nat}{om oi:Obj}(h:AtM n w0 σ0 κ R I om oi S a w){it j:Nat}(hj:j < κ.m)(hit:zhM it j S=O)(hI:(κ.ν0.adr j).a=⟨I,0,H⟩):∃L b,a.eval=opv L b/\opv L b (.tmp it) = .pointer (E ⟨I,0,H⟩):=by
 let⟨L,b,Z,PV,⟨ν,vs,ids,hA⟩,hi,hf⟩:=h;refine⟨L,b,hf.eval,?_⟩;unfold zhM at hit;simp only[gf] at hit;have hv:=hA.env it;split at hit
 ·rename_i j' e;have:=ge hit.1;subst this;rw[e] at hv;have hv:look L b it = .pointer (E ((ν.adr j').a.add 0)):=hv;rw[(hA.keep j' hj hit.2).2.1,hI] at hv;exact hv
 ·cases hit.1
theorem XX.normal{R I:Nat}{om oi:Obj}{S':St C}{e:XE C}(h:XX n w0 σ0 κ R I om oi S' e .normal a w):e = .normal/\AtM n w0 σ0 κ R I om oi S' a w:=by
 cases e<;>first | exact h.elim | exact⟨rfl,h⟩
section
variable {stp:yM C}{dr:Yz C}{lp:ZW}{hs:Nat->U7 Hint}{R I:Nat}{om oi:Obj}{Q:Exit->Act->World->Prop}{y:ρ}{m:MapM}{nc nr j:Nat}
theorem znD (hgl:C.gl w0.w σ0) (hstp:xP P n κ stp) (hdr:vG P n κ dr) (hlp:xw lp) {nx:AV C.D}{K:XE C->St C->U7 ρ}{rst:Code}(h:(ZJ stp n m.ops1 m.l1 (S.put m.x nx) λe S'=>match e with
    | .normal=>ZC stp dr lp n κ.m hs m.cnd nc _ S' K
    |_=>H)=E y) (hA:AtM n w0 σ0 κ R I om oi (S.put m.x nx) a w)
    (hK:∀e S' x a w,K e S'=E y->XX n w0 σ0 κ R I om oi S' e x a w->Exit.then (rst.wp P Q) Q x a w):wpList P m.ops1 (Exit.then ((qb m.cnd rst).wp P Q) Q) m.l1 a w:=by
 have hx:=zvR hgl hstp h hA;have:=Y9 (l2:=[]) (Q':=Exit.then ((qb m.cnd rst).wp P Q) Q) (λa w hq=>?_) (λch a w hq=>?_) (λa w hq=>?_) m.l1 hx
 ·grind
 ·let⟨e,S',h1,h2⟩:=hq;obtain⟨rfl,h2⟩:=h2.normal;refine wp_seq (wp_mono (zsn hgl hstp hdr hlp h1 h2) λx a w hq=>?_);grind
 ·let⟨e,S',h1,h2⟩:=hq;cases e<;>first | exact h2.elim | cases h1
 ·let⟨e,S',h1,h2⟩:=hq;cases e<;>exact h2.elim
theorem zxP (hgl:C.gl w0.w σ0) (hstp:xP P n κ stp) (hdr:vG P n κ dr) (hlp:xw lp) (hj:j < κ.m) (hI:(κ.ν0.adr j).a=⟨I,0,H⟩) {ty:TypeId}{ps:String}{af:Array Edge}(hops:m.ops2.toList=⟨E m.y,.entry (.tmp m.it),ty,ps,af,H⟩::m.l2) {k:ByteArray}{K:XE C->St C->U7 ρ}
    (hrun:∀(L:List (Nat×Value)) (b:Nat->Value) w,w.heap[R]?=E om->w.heap[I]?=E oi->opv L b (.tmp m.it) = .pointer (E ⟨I,0,H⟩)->(execOp (opv L b) ⟨E m.y,.entry (.tmp m.it),ty,ps,af,H⟩).run P w = .ok (.value (.tuple #[.string k,v])) w)
    (h:zhN stp dr lp n hs κ.m nr m j k v K S=E y) (hA:AtM n w0 σ0 κ R I om oi S a w) (hK:∀e S' x a w,K e S'=E y->XX n w0 σ0 κ R I om oi S' e x a w->(∀i,x = .exit i->i≠m.b)->Q x a w) :
    (Code.block m.b2 (.seq (.region id2 m.ops2 M) m.rest)).wp P Q a w:=by
 unfold zhN at h;let⟨hc,h⟩:=zb h;simp only[gf] at hc;refine wp_block (wp_seq (wp_region_list ?_));rw[hops];refine wpList_plain rfl λKw hKw=>?_
 let⟨L,b,hev,hptr⟩:=hA.iter hj hc.1 hI;let⟨ho1,ho2⟩:=hA.obj;unfold X;rw[hev,hrun L b w ho1 ho2 hptr];show Kw _ w;refine hKw _ _ ?_;have hA1:=hA.put (A :=.tup [.str k,ZY v]) (v :=.tuple #[.string k,v]) hc.2 (λZ ν=>⟨[.string k,v],rfl,Rv.str,zbD v,trivial⟩) (λp=>⟨trivial,(YR [v]).1,trivial⟩);have hx:=zvR hgl hstp h hA1;have:=Y9 (l2:=[]) (Q':=Exit.then (m.rest.wp P (qs m.b2 Q)) (qs m.b2 Q)) (λa w hq=>?_) (λch a w hq=>?_) (λa w hq=>?_) m.l2 hx
 ·grind
 · let⟨e,S',h1,h2⟩:=hq;obtain⟨rfl,h2⟩:=h2.normal;refine wp_mono (zsn hgl hstp hdr hlp h1 h2) λx a w hq=>?_
   let⟨e,S',h1,h2⟩:=hq;cases e with
   |normal=>cases x<;>first | exact h2.elim | exact hK .normal S' .normal a w h1 h2 (λi e=>by cases e)
   |ret=>cases x<;>first | exact h2.elim | exact hK .ret S' .ret a w h1 h2 (λi e=>by cases e)
   |pan u=>cases x<;>first | exact h2.elim | exact hK (.pan u) S' (.panic _) a w h1 h2 (λi e=>by cases e)
   |exit i=>
    cases x<;>first | exact h2.elim | skip
    rename_i i';obtain⟨rfl,h2⟩:=h2;have h1:(bif N i m.b2 then K .normal S' else bif N i m.b then H else K (.exit i) S')=E y:=h1;show if i=m.b2 then _ else _
    cases hb:N i m.b2 with
    |true=>rw[hb] at h1;rw[jv (ge hb)];exact hK .normal S' .normal a w h1 h2 (λi e=>by cases e)
    |false=>
     rw[hb] at h1;rw[jx (λe=>by rw[e] at hb;simp at hb)];cases hb2:N i m.b with
     |true=>grind
     |false=>
      rw[hb2] at h1;exact hK (.exit i) S' (.exit i) a w h1 ⟨rfl,h2⟩ λi' e=>by cases e;intro e;rw[e] at hb2;simp at hb2
 ·let⟨e,S',h1,h2⟩:=hq;cases e<;>first | exact h2.elim | cases h1
 ·let⟨e,S',h1,h2⟩:=hq;cases e<;>exact h2.elim
theorem zxQ (hgl:C.gl w0.w σ0) (hstp:xP P n κ stp) (hdr:vG P n κ dr) (hlp:xw lp) (hj:j < κ.m) (hI:(κ.ν0.adr j).a=⟨I,0,H⟩) {id1:Nat}{ty ty2:TypeId}{ps ps2:String}{af af2:Array Edge}(hops:m.ops1.toList=⟨E m.x,.next (.tmp m.it) M,ty,ps,af,H⟩::m.l1) (hops2:m.ops2.toList=⟨E m.y,.entry (.tmp m.it),ty2,ps2,af2,H⟩::m.l2)
    {k:ByteArray} {v:Value} {K:XE C->St C->U7 ρ} {oi':Obj} {w':World}
    (hrun2:∀(L:List (Nat×Value)) (b:Nat->Value) w,w.heap[R]?=E om->w.heap[I]?=E oi'->opv L b (.tmp m.it) = .pointer (E ⟨I,0,H⟩)->(execOp (opv L b) ⟨E m.y,.entry (.tmp m.it),ty2,ps2,af2,H⟩).run P w = .ok (.value (.tuple #[.string k,v])) w)
    (h:mapIter stp dr lp n hs κ.m nc nr m j S k v K=E y) (hA':AtM n w0 σ0 κ R I om oi' S a w')
    (hK:∀e S' x a w,K e S'=E y->XX n w0 σ0 κ R I om oi' S' e x a w->(∀i,x = .exit i->i≠m.b)->Q x a w) :
    wpList P m.ops1 (Exit.then ((qb m.cnd (.block m.b2 (.seq (.region id2 m.ops2 M) m.rest))).wp P Q) Q) m.l1 (a.put (E m.x) (.tuple #[.bool O,.string k,v])) w':=by
 unfold mapIter Vm at h;let⟨hc,h⟩:=zb h;simp only[gf] at hc;have hA1:=hA'.put (A :=.tup [.bool O,.str k,ZY v]) (v :=.tuple #[.bool O,.string k,v]) hc.2 (λZ ν=>⟨[.bool O,.string k,v],rfl,Rv.bool,Rv.str,zbD v,trivial⟩) (λp=>⟨trivial,trivial,(YR [v]).1,trivial⟩);refine znD hgl hstp hdr hlp h hA1 λe S' x a w h1 h2=>?_
 cases e with
 |normal=>
  cases x<;>first | exact h2.elim | skip
  exact zxP hgl hstp hdr hlp hj hI hops2 hrun2 h1 h2 hK
 |ret=>cases h1
 |exit i=>cases h1
 |pan u=>cases h1
theorem zxR (hgl:C.gl w0.w σ0) (hstp:xP P n κ stp) (hdr:vG P n κ dr) (hlp:xw lp) {rst:Code}{K:XE C->St C->U7 ρ}(h:WQ stp dr lp n hs κ.m nc m j K S=E y) (hA:AtM n w0 σ0 κ R I om oi S a w)
    (hK:∀S' a w,K .normal S'=E y->AtM n w0 σ0 κ R I om oi S' a w->Q (.exit m.b) a w) :
    wpList P m.ops1 (Exit.then ((qb m.cnd rst).wp P Q) Q) m.l1 (a.put (E m.x) (.tuple #[.bool M])) w:=by
 unfold WQ Vm at h;let⟨hc,h⟩:=zb h;simp only[gf] at hc;have hA1:=hA.put (A :=.tup [.bool M]) (v :=.tuple #[.bool M]) hc.2 (λZ ν=>⟨[.bool M],rfl,Rv.bool,trivial⟩) (λp=>⟨trivial,trivial⟩);refine znD hgl hstp hdr hlp h hA1 λe S' x a w h1 h2=>?_
 cases e with
 |exit i=>
  cases x<;>first | exact h2.elim | skip
  obtain⟨rfl,h2⟩:=h2;have h3:(bif N i m.b then K .normal S' else H)=E y:=h1;clear h1;cases hb:N i m.b with
  |false=>grind
  |true=>
   rw[hb,D1] at h3;have:=ge hb;subst this;exact hK S' a w h3 h2
 |normal=>cases h1
 |ret=>cases h1
 |pan u=>cases h1
end
end
end
section
variable {C:Cod}{P:Program}{ρ:Type}[Dfr]{κ:Kp}{S:St C}{n:Nat}{w0:Start}{σ0:FS}{a:Act}{w:World}
variable {stp:yM C}{dr:Yz C}{lp:ZW}{hs:Nat->U7 Hint}{R I:Nat}{Q:Exit->Act->World->Prop}{y:ρ}{m:MapM}{nc nr j:Nat}
theorem zlh{L:List (Nat×Value)}(hf:Fits n L b a){next:Act->World->Prop}{Q:Exit->Act->World->Prop}{w':World}(h:(execOp (opv L b) o).run P w = .ok (.value v) w')(k:next (a.put o.dst v) w'):o.upon P a next Q ((execOp a.eval o).run P w):=by rw[hf.eval,h];exact k
theorem zli{L:List (Nat×Value)}(hf:Fits n L b a){next:Act->World->Prop}{Q:Exit->Act->World->Prop}{w':World}(h:(execOp (opv L b) o).run P w = .ok .skip w')(k:next (a.put o.dst undef) w'):o.upon P a next Q ((execOp a.eval o).run P w):=by rw[hf.eval,h];exact k
theorem zb8{k:ByteArray}{mm:Nat}{K:XE C->St C->U7 ρ}(h:mapIter stp dr lp n hs mm nc nr m j S k v K=E y):zhM m.it j S=true:=by
 unfold mapIter Vm at h;let⟨hc,h⟩:=zb h;grind
theorem zoU{mm:Nat}{K:XE C->St C->U7 ρ}(h:WQ stp dr lp n hs mm nc m j K S=E y):zhM m.it j S=true:=by
 unfold WQ Vm at h;let⟨hc,h⟩:=zb h;grind
theorem zxS (hgl:C.gl w0.w σ0) (hstp:xP P n κ stp) (hdr:vG P n κ dr) (hlp:xw lp) (hj:j < κ.m) (hI:(κ.ν0.adr j).a=⟨I,0,H⟩) {id1:Nat}{ty ty2:TypeId}{ps ps2:String}{af af2:Array Edge}(hops:m.ops1.toList=⟨E m.x,.next (.tmp m.it) M,ty,ps,af,H⟩::m.l1) (hops2:m.ops2.toList=⟨E m.y,.entry (.tmp m.it),ty2,ps2,af2,H⟩::m.l2)
    {K:XE C->St C->U7 ρ} (h:zhO stp dr lp n hs κ.m nc nr m j K S=E y) (hA:AtM n w0 σ0 κ R I (.map (Xn m.k1 m.k2 m.v1 m.v2) 2) (.mapIter (E R) 2 #[] 2) S a w)
    (hK:∀e S' x a w seen,K e S'=E y->XX n w0 σ0 κ R I (.map (Xn m.k1 m.k2 m.v1 m.v2) 2) (.mapIter (E R) 2 seen 2) S' e x a w->(∀i,x = .exit i->i≠m.b)->Q x a w) :
    (Code.loop (.seq (.region id1 m.ops1 M) (.seq m.cnd (.block m.b2 (.seq (.region id2 m.ops2 M) m.rest))))).wp P (qs m.b Q) a w:=by
 let om:Obj :=.map (Xn m.k1 m.k2 m.v1 m.v2) 2
 let oi:Array Nat->Obj:=λs =>.mapIter (E R) 2 s 2
 let G2:=WQ stp dr lp n hs κ.m nc m j K
 let Iv:Act->World->Prop:=λa w=>(∃S,zhO stp dr lp n hs κ.m nc nr m j K S=E y/\AtM n w0 σ0 κ R I om (oi #[]) S a w)\/
  (∃S,mapIter stp dr lp n hs κ.m nc nr m j S m.k2 m.v2 (zb7 G2 K)=E y/\AtM n w0 σ0 κ R I om (oi #[0]) S a w)\/
  (∃S,mapIter stp dr lp n hs κ.m nc nr m j S m.k1 m.v1 (zb7 G2 K)=E y/\AtM n w0 σ0 κ R I om (oi #[1]) S a w)\/
  (∃S s,(s = #[0,1]\/s = #[1,0])/\G2 S=E y/\AtM n w0 σ0 κ R I om (oi s) S a w)
 let μ:Act->World->Nat:=λ_ w=>match w.heap[I]? with
  |some (.mapIter _ _ s _)=>2 - s.size
  |_=>0
 have hμ:∀{S:St C} {a w s},AtM n w0 σ0 κ R I om (oi s) S a w->μ a w=2 - s.size:=λ{S a w s} hA=>by
  show(match w.heap[I]? with | some (.mapIter _ _ s _)=>2 - s.size | _=>0)=_;rw[hA.obj.2]
 have other:∀{e:XE C} {S':St C} {x a w s},e ≠.normal->K e S'=E y->XX n w0 σ0 κ R I om (oi s) S' e x a w->(∀i,x = .exit i->i≠m.b)->∀{T:Act->World->Prop},Exit.then T (qs m.b Q) x a w:=by
  intro e S' x a w s hne h1 h2 h3 T;have hq:=hK e S' x a w s h1 h2 h3;cases x with
  |normal=>exact absurd h2.normal.1 hne
  |exit i=>
   show if i=m.b then _ else _
   grind
  |_=>exact hq
 refine wp_loop Iv μ (.inl ⟨S,h,hA⟩) λa w hI0=>wp_seq (wp_region_list ?_)
 rw[hops];refine wpList_plain rfl λKw hKw=>?_
 unfold X
 have round:∀{S:St C} {k:ByteArray} {v:Value} {s:Array Nat} {w':World} {G:St C->U7 ρ},(∀L b w,w.heap[R]?=E om->w.heap[I]?=E (oi s)->opv L b (.tmp m.it) = .pointer (E ⟨I,0,H⟩)->(execOp (opv L b) ⟨E m.y,.entry (.tmp m.it),ty2,ps2,af2,H⟩).run P w = .ok (.value (.tuple #[.string k,v])) w)->
     mapIter stp dr lp n hs κ.m nc nr m j S k v (zb7 G K)=E y->AtM n w0 σ0 κ R I om (oi s) S a w'->(∀S' a'' w'',G S'=E y->AtM n w0 σ0 κ R I om (oi s) S' a'' w''->Iv a'' w''/\μ a'' w'' < μ a w)->
     Kw (a.put (E m.x) (.tuple #[.bool O,.string k,v])) w':=by
  intro S k v s w' G hrun2 h hA' hG;refine hKw _ _ (zxQ (id1:=0) hgl hstp hdr hlp hj hI hops hops2 hrun2 h hA' λe S' x a'' w'' h1 h2 h3=>?_);cases e with
  |normal=>
   cases x<;>first | exact h2.elim | exact hG S' _ _ h1 h2
  |ret=>exact other (by simp) h1 h2 h3
  |exit i=>exact other (by simp) h1 h2 h3
  |pan u=>exact other (by simp) h1 h2 h3
 have ent0:∀s:Array Nat,s.back?=E 0->∀L b w,w.heap[R]?=E om->w.heap[I]?=E (oi s)->opv L b (.tmp m.it) = .pointer (E ⟨I,0,H⟩)->(execOp (opv L b) ⟨E m.y,.entry (.tmp m.it),ty2,ps2,af2,H⟩).run P w = .ok (.value (.tuple #[.string m.k1,m.v1])) w:=
  λs hs L b w h1 h2 h3=>(ziI h3 h2 h1).1 hs
 have ent1:∀s:Array Nat,s.back?=E 1->∀L b w,w.heap[R]?=E om->w.heap[I]?=E (oi s)->opv L b (.tmp m.it) = .pointer (E ⟨I,0,H⟩)->(execOp (opv L b) ⟨E m.y,.entry (.tmp m.it),ty2,ps2,af2,H⟩).run P w = .ok (.value (.tuple #[.string m.k2,m.v2])) w:=
  λs hs L b w h1 h2 h3=>(ziI h3 h2 h1).2 hs
 rcases hI0 with⟨S,h,hA⟩ | ⟨S,h,hA⟩ | ⟨S,h,hA⟩ | ⟨S,s,hs,h,hA⟩
 · let⟨g1,g2⟩:=za1 h;let⟨L,b,hev,hptr⟩:=hA.iter hj (zb8 g1) hI;have hm0:=hμ hA;rw[hev];rcases zsk (s:=H) (d:=m.x) (ty:=ty) (ps:=ps) (af:=af) (P:=P) hptr hA.obj.2 hA.obj.1 with e | e
   · rw[e];refine round (ent0 #[0] rfl) g1 (hA.drew.setI rfl rfl) λS' a'' w'' h1 h2=>⟨.inr (.inl ⟨S',h1,h2⟩),?_⟩
     grind
   · rw[e];refine round (ent1 #[1] rfl) g2 (hA.drew.setI rfl rfl) λS' a'' w'' h1 h2=>⟨.inr (.inr (.inl ⟨S',h1,h2⟩)),?_⟩
     grind
 · let⟨L,b,hev,hptr⟩:=hA.iter hj (zb8 h) hI;have hm0:=hμ hA;rw[hev,zsl hptr hA.obj.2 hA.obj.1];refine round (ent1 #[0,1] rfl) h (hA.setI rfl rfl) λS' a'' w'' h1 h2=>⟨.inr (.inr (.inr ⟨S',_,.inl rfl,h1,h2⟩)),?_⟩
   grind
 · let⟨L,b,hev,hptr⟩:=hA.iter hj (zb8 h) hI;have hm0:=hμ hA;rw[hev,zoT hptr hA.obj.2 hA.obj.1];refine round (ent0 #[1,0] rfl) h (hA.setI rfl rfl) λS' a'' w'' h1 h2=>⟨.inr (.inr (.inr ⟨S',_,.inr rfl,h1,h2⟩)),?_⟩
   grind
 · let⟨L,b,hev,hptr⟩:=hA.iter hj (zoU h) hI;rw[hev,zsm hs hptr hA.obj.2 hA.obj.1];refine hKw _ _ (zxR hgl hstp hdr hlp h hA λS' a w h1 h2=>?_);show if m.b=m.b then _ else _
   rw[jv rfl];exact hK .normal S' .normal a w s h1 h2 λi e=>by cases e
theorem zoV(hgl:C.gl w0.w σ0)(hstp:∀κ,xP P n κ stp)(hdr:∀κ,vG P n κ dr)(hlp:xw lp)(hm:mapM P c=E m){i:Nat}{K:XE C->St C->U7 ρ}{r:ρ}(h:zhP stp dr lp n hs κ.m m i S K=E r)(hA:At n w0 σ0 κ S a w):c.wp P (Zi n w0 σ0 κ K r) a w:=by
 obtain⟨id,id1,id2,ops,et,rfl,hmt,hkt,hne,⟨ty1,ps1,af1,ty2,ps2,af2,ty3,ps3,af3,ty4,ps4,af4,ty5,ps5,af5,e0⟩,⟨ty6,ps6,af6,e1⟩,⟨ty7,ps7,af7,e2⟩⟩:=zxO hm;unfold zhP at h;split at h
 case h_2=>cases h
 rename_i outs g _ _ _;let⟨hc,h⟩:=zb h;simp only[gf] at hc;let⟨c1,c2,c3,c4,c5,c6,c7,c8⟩:=hc;let⟨x0,hx0,h⟩:=gd h;split at h
 case h_2=>cases h
 rename_i j hit;let⟨hjg,h⟩:=zb h;let⟨y0,hy0,ho⟩:=gd h;let⟨L,b,Z,PV,⟨ν,vs,ids,hAb⟩,hi,hf⟩:=hA;have l2:m.r < n:=by simpa[Dd] using c2
 have l3:m.s < n:=by simpa[Dd] using c3
 have l4:m.it < n:=by simpa[Dd] using c4
 refine wp_seq (wp_region_list ?_);rw[e0];refine wpList_plain rfl λK1 hK1=>?_
 unfold X;rw[hf.eval,znb];show K1 _ _;refine hK1 _ _ ?_;have hi1:=hi.newObj (o :=.map #[] 0) rfl;have hf1:=hf.put l2 (.map (E w.heap.size));have hr1:∀{L2:List (Nat×Value)},opv ((m.r,.map (E w.heap.size))::L2) b (.tmp m.r) = .map (E w.heap.size):=by
  intro L2;show(bif N m.r m.r then _ else _)=_;simp
 generalize hR:w.heap.size=R at *
 have hb1:=hi1.objAt (m:=0) rfl;refine wpList_plain rfl λK2 hK2=>?_
 unfold X;refine zli hf1 (zgr hmt hkt hr1 hb1 rfl) (hK2 _ _ ?_);have hi2:=hi1.setObj (m:=0) (o' :=.map (#[].push {key :=.string m.k1,val:=m.v1,born:=0}) (0+1)) rfl rfl rfl;have hb2:=hi2.objAt (m:=0) rfl;refine wpList_plain rfl λK3 hK3=>?_
 unfold X;refine zli hf1 (zgr hmt hkt hr1 hb2 (by simp[Instr.findNow,Instr.sameNow,hne])) (hK3 _ _ ?_);have hi3:=hi2.setObj (m:=0) (o' :=.map ((#[].push {key :=.string m.k1,val:=m.v1,born:=0}).push {key :=.string m.k2,val:=m.v2,born:=0+1}) (0+1+1)) rfl rfl rfl;have hb3:=hi3.objAt (m:=0) rfl;refine wpList_plain rfl λK4 hK4=>?_
 unfold X;refine zlh (v :=.map (E R)) hf1 (congrArg (λv=>Result.ok (Next.value v) _) (hr1 (L2:=L))) (hK4 _ _ ?_);have hf2:=hf1.put l3 (.map (E R));have hs2:opv ((m.s,.map (E R))::(m.r,.map (E R))::L) b (.tmp m.s) = .map (E R):=by
  show(bif N m.s m.s then _ else _)=_;simp
 refine wpList_plain rfl λK5 hK5=>?_
 unfold X;refine zlh hf2 (zlf hmt hs2 hb3) (hK5 _ _ ?_);have hi3:Inv w0 σ0 Z (.obj R (.map (Xn m.k1 m.k2 m.v1 m.v2) 2)::PV) _:=hi3;clear hb3;generalize hw3:({heap:=_,tape:=_,drawn:=_,os:=_,output:=_}:World)=w3 at hi3 |-
 have hi4:=hi3.newObj (o :=.mapIter (E R) 2 #[] 2) rfl;generalize hI:w3.heap.size=I at *
 have hf3:=hf2.put l4 (.pointer (E ⟨I,0,H⟩));have hAs:=((hAb.put (d:=m.r) (A :=.und) (v :=.map (E R)) trivial trivial).put (d:=m.s) (A :=.und) (v :=.map (E R)) trivial trivial).new (id:=nid m.it 0) (Ze c1) (yL κ m.it 0) (e :=.cell []) (v :=.slice H 0 0) (a:=⟨⟨I,0,H⟩,λ_ =>.slice H 0 0⟩) (us:=[]) (A :=.pc (nid m.it 0) 0) (p :=.cell ⟨I,0,H⟩ []) (u :=.pointer (E ⟨I,0,H⟩)) (d:=m.it) (λν' h1 h2=>⟨(by show Value.pointer (E _) = .pointer (E ((ν'.adr _).add 0));rw[h2];simp[Addr.add,Ent.at]),by show nid m.it 0=nid m.it 0;rfl⟩) rfl rfl (λcs hcs=>by cases hcs;exact⟨trivial,trivial⟩) (by simp[Ent.at,Addr.add]);have hat:AtM n w0 σ0 κ R I (.map (Xn m.k1 m.k2 m.v1 m.v2) 2) (.mapIter (E R) 2 #[] 2) (zlg m S) (Act.put (Act.put (a.put (E m.r) (.map (E R))) (E m.s) (.map (E R))) (E m.it) (.pointer (E ⟨I,0,H⟩))) (w3.alloc (.mapIter (E R) 2 #[] 2)):=by
  refine⟨_,b,Z,_,hAs,hi4.sub_own λgg k=>?_,hf3⟩;let⟨f1,f2,q1,s1,k1,k2,d1⟩:=k.uncons;let⟨f3,f4,q2,s2,k3,k4,d2⟩:=s1.uncons;have d3:f3.disj f1:=(d1.mono (.refl _) k3).symm;refine Sep.append (A :=.cell ⟨I,0,H⟩ []::PV) (B:=[.obj R _,.obj I _]) (h1:=f4) (h2:=f3.or f1) (.cons (h1:=zc.none) ⟨rfl,λj u hj=>by simp at hj⟩ s2 (zc.none_le _) (.refl _) (zc.none_disj _)) (.cons q2 (Sep.one q1) (zc.le_or _ _) (zc.le_or_right d3) d3) (k4.trans k2) (zc.or_le (k3.trans k2) k1) ?_;exact(zc.or_disj d2 (d1.mono (.refl _) k4)).symm
 let⟨f1,σ1,hg1,hat1,hback⟩:=hat.frame hgl;have hat2:AtM n w0 σ0 κ R I _ _ (g.open x0) _ _:=hback (e :=.normal) (x :=.normal) (At.close hx0 hat1);let⟨L2,b2,σ2,PV2,⟨ν2,vs2,ids2,hA2⟩,hi2',hf2'⟩:=hat2;have h64:=Dj c6;have hmg:=Dj c7;have hj:j < g.es.length:=by simpa[Dd] using hjg
 have hIj:(ν2.adr j).a=⟨I,0,H⟩:=by
  have hv:=hA2.env m.it;rw[hit] at hv;have hv:look L2 b2 m.it = .pointer (E ((ν2.adr j).a.add 0)):=hv;have h3:=hf3.get m.it;have h4:=hf2'.get m.it;rw[h3] at h4;have h5:look ((m.it,.pointer (E ⟨I,0,H⟩))::(m.s,.map (E R))::(m.r,.map (E R))::L) b m.it = .pointer (E ⟨I,0,H⟩):=by
   show(bif N m.it m.it then _ else _)=_;simp
  rw[h5,hv] at h4;simp[Addr.add] at h4;rw[<- h4]
 let κ':Kp:=⟨g.es.length,h64,{hdr:=ν2.hdr,adr:=λk=>⟨(ν2.adr k).a,bif U k κ.m && !Z0 ((g.open x0).heap k) then(κ.ν0.adr k).sub else(ν2.adr k).sub⟩ }⟩
 have hat3:AtM n w0 σ0 κ' R I (.map (Xn m.k1 m.k2 m.v1 m.v2) 2) (.mapIter (E R) 2 #[] 2) (g.open x0) _ _:=⟨L2,b2,σ2,PV2,⟨ν2,vs2,ids2,hA2.rekey λk _ _=>⟨rfl,rfl,λhf=>by show _=(bif U k κ.m && !Z0 ((g.open x0).heap k) then _ else _);rw[hf];simp⟩⟩,hi2',hf2'⟩;have hkk:∀k,k < κ.m->ν2.hdr k=κ.ν0.hdr k/\(ν2.adr k).a=(κ.ν0.adr k).a/\(Z0 ((g.open x0).heap k)=O->(ν2.adr k).sub=(κ.ν0.adr k).sub):=λk hk=>by
  refine hA2.keep k hk ((xQ g x0 k).2 ?_);have hl:k < g.es.length:=by omega
  refine⟨g.es[k],UM hl,?_⟩;have:=D0.1 c8 g.es[k] (List.mem_iff_getElem?.2 ⟨k,by rw[Dk hk,UM hl]⟩);simpa using this
 have downA:∀{S':St C} {L b Z PV},zy κ' S' L b Z PV->zy κ S' L b Z PV:=by
  rintro S' L b Z PV ⟨ν,vs,ids,hA⟩;refine⟨ν,vs,ids,hA.rekey λk hk hs=>?_⟩;have h1:=hA.keep k (show k < g.es.length by omega) hs;have h2:=hkk k hk;refine⟨h1.1.trans h2.1,h1.2.1.trans h2.2.1,λhf=>(h1.2.2 hf).trans ?_⟩;show(bif U k κ.m && !Z0 ((g.open x0).heap k) then(κ.ν0.adr k).sub else(ν2.adr k).sub)=_;have hb:U k κ.m=true:=by rw[Dd];exact hk
  rw[hb];cases hx:Z0 ((g.open x0).heap k) with
  |false=>rfl
  |true=>exact h2.2.2 hx
 have dropI:∀{Z PV w om oi},Inv w0 σ0 Z (PV++[.obj R om,.obj I oi]) w->Inv w0 σ0 Z PV w:=λ{Z PV w om oi} hi=>hi.sub_own λgg k=>by
  let⟨q1,q2,s1,s2,k1,k2,d⟩:=k.split;exact s1.mono (.refl _) k1
 have down:∀{S':St C} {a w oi},AtM n w0 σ0 κ' R I (.map (Xn m.k1 m.k2 m.v1 m.v2) 2) oi S' a w->At n w0 σ0 κ S' a w:=by
  rintro S' a w oi ⟨L,b,Z,PV,hA,hi,hf⟩;exact⟨L,b,Z,PV,downA hA,dropI hi,hf⟩
 refine wp_block (zxS (κ:=κ') (Q:=Zi n w0 σ0 κ K r) hgl (hstp κ') (hdr κ') hlp hj hIj e1 e2 hy0 hat3 λe S' x a w seen h1 h2 _=>?_);refine Yo h1 ho (x:=x) ?_;unfold XX at h2;unfold zfs;split at h2
 ·exact down h2
 ·exact⟨h2.1,down h2.2⟩
 ·exact down h2
 ·rename_i v chain;let⟨u,L,b,Z,PV,h3,h4,hA,hi,hf⟩:=h2;exact⟨u,L,b,Z,PV,h3,h4,downA hA,dropI hi,hf⟩
 grind
end
section
variable {C:Cod}{P:Program}{ρ:Type}
noncomputable def zbl(P:Program)(stp:yM C)(dr:Yz C)(lp:ZW)(n:Nat)(hs:Nat->U7 Hint)(mm:Nat):Code->Nat->St C->(XE C->St C->U7 ρ)->U7 ρ
 | .seq a c,i,S,K=>match mapM P a with
  |some m=>zhP stp dr lp n hs mm m (i+1) S λe S'=>match e with
   | .normal=>zbl P stp dr lp n hs mm c (i+1+xS a) S' K
   |e=>K e S'
  |none=>ZC stp dr lp n mm hs a (i+1) _ S λe S'=>match e with
   | .normal=>zbl P stp dr lp n hs mm c (i+1+xS a) S' K
   |e=>K e S'
 |c,i,S,K=>ZC stp dr lp n mm hs c i _ S K
theorem zso [Dfr] {n:Nat}{κ:Kp}{w0:Start}{σ0:FS}{stp:yM C}{dr:Yz C}{lp:ZW}{hs:Nat->U7 Hint}(hgl:C.gl w0.w σ0) (hstp:∀κ,xP P n κ stp) (hdr:∀κ,vG P n κ dr) (hlp:xw lp) {K:XE C->St C->U7 ρ}{r:ρ} :
    ∀(c:Code) (i:Nat) {S:St C},zbl P stp dr lp n hs κ.m c i S K=E r->∀{a:Act} {w:World},At n w0 σ0 κ S a w->c.wp P (Zi n w0 σ0 κ K r) a w:=by
 intro c
 induction c with
 |seq x c _ ih=>
  intro i S h a w hA
  have fin:∀{a w},Code.wp P x (Zi n w0 σ0 κ (λe S'=>match e with
   | .normal=>zbl P stp dr lp n hs κ.m c (i+1+xS x) S' K
   |e=>K e S') r) a w->(qb x c).wp P (Zi n w0 σ0 κ K r) a w:=by
   intro a w h;refine wp_seq (wp_mono h λe a w hq=>?_);cases e with
   |normal=>let⟨S',hk,hA'⟩:=hq;exact ih _ hk hA'
   |exit j=>exact hq
   |ret=>exact hq
   |panic ch=>let⟨v,S',hk,hA'⟩:=hq;exact⟨v,S',hk,hA'⟩
   |goto l=>exact hq.elim
   |outgrown=>exact hq.elim
  unfold zbl at h;split at h
  ·rename_i m hm;exact fin (zoV hgl hstp hdr hlp hm h hA)
  ·exact fin (yO hgl (hstp κ) (hdr κ) hlp x (i+1) _ _ _ _ h _ _ hA)
 |_=>intro i S h a w hA;exact yO hgl (hstp κ) (hdr κ) hlp _ i _ _ _ _ h _ _ hA
noncomputable def zoW(q:Opts)(Γ:List (Spec C))(lp:ZW)(P:Program)(fn:Func)(nr:Nat)(ins:Sig)(outs:List (XK×Sig))(hs:Nat->U7 Hint)(x:ins.ty C):U7 (zf C outs):=
 match fn.body with
 |none=>H
 |some c=>chk (W ins.ts.length fn.ntmps && (N fn.results.toList.length nr && (W nr 4 && W ins.es.length 64)))
     (zbl P (Y6 q Γ P fn.ntmps) (drw q Γ P fn.ntmps) lp fn.ntmps hs ins.es.length c 0 (ins.open x) λe S=>match e with
       | .ret=>(w9 P S fn.results.toList).bind λAs=>zT ins.es.length outs .ret (xx As S.heap)
       | .normal=>(w9 P S fn.results.toList).bind λAs=>zT ins.es.length outs .ret (xx As S.heap)
       | .pan v=>zT ins.es.length outs (.pan v) (xx [] S.heap)
       |_=>H)
theorem zxT  {Γ : List (Spec C)} (hΓ : ∀ s ∈ Γ, s.OK P) (hm : P.follows .mixedOrders = O) {lp : ZW} (hlp : xw lp)   {nr : Nat}   (hs : Nat -> U7 Hint) (hf : P.funcs[f]? = E fn) (hnm : (fn.name == "runtime.NumGoroutine") = M) (hbs : fn.body.isNone = M) {F : ins.ty C -> U7 (zf C outs)} (hF : ∀ x, F x = zoW q Γ lp P fn nr ins outs hs x) :
    Spec.OK P ⟨f,nr,ins,outs,F⟩:=by
 refine⟨fn,hf,hnm,hbs,?_⟩;intro x r hr κ st Z hg PV ν vs ids args hm' hargs hA hpre;have hr:zoW q Γ lp P fn nr ins outs hs x=E r:=by rw[<- hF];exact hr
 unfold zoW at hr;split at hr
 ·cases hr
 rename_i c hb;let⟨hc,hr⟩:=zb hr;simp only[gf] at hc;let⟨c1,c4,c2,c3⟩:=hc;have c4:=ge c4;have c2:fn.results.toList.length<=4:=by rw[c4];exact Dj c2
 have hm':κ.m=ins.es.length:=hm';rw[<- hm'] at hr;have hargs:args.length=ins.ts.length:=hargs;have hn:args.length<=fn.ntmps:=by rw[hargs];exact Dj c1
 have hat:At fn.ntmps st Z κ (ins.open x) {tmps:=args.toArray++qk (fn.ntmps - args.toArray.size) undef,defers:=[]} st.w:=⟨_,_,Z,PV,⟨ν,vs,ids,hA⟩,hpre.inv,vO hn⟩;refine calls_of_wp hf hb (wp_mono (zso hg (λκ=>zej hΓ fn.ntmps κ) (λκ=>zgq hΓ hm fn.ntmps κ) hlp c 0 hr hat) ?_);intro e a w hq;cases e with
 |normal=>let⟨S',hk,hA'⟩:=hq;exact⟨hA'.defers,zdh c4 c2 hk hA'⟩
 |ret=>let⟨S',hk,hA'⟩:=hq;exact⟨hA'.defers,zdh c4 c2 hk hA'⟩
 |exit j=>let⟨S',hk,hA'⟩:=hq;cases hk
 |panic chain=>
  let⟨v,S',hk,hA'⟩:=hq;obtain⟨u,L,b,Z',PV',rfl,hp,⟨ν',vs',ids',hA'⟩,hi',hf'⟩:=hA';refine⟨hf'.defers,?_⟩;have hav:AbsL κ (xx [] S'.heap) ν' vs' ids' [] (λ_=>undef) Z' PV':=zbP (us:=[]) hA' trivial trivial;refine YG hk λg y hy e' he=>?_
  cases e'<;>first | exact he.elim | skip
  obtain⟨s,z,hz,rfl⟩:=he;let⟨σ2,PV2,hl,hi2,h2⟩:=w8 hy ⟨ν',vs',ids',hav⟩ hi';exact⟨u,σ2,PV2,rfl,hi2,hp.again hl hz,h2⟩
 |goto l=>exact hq.elim
 |outgrown=>exact hq.elim
end
end Go.Px
