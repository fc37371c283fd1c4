/- Part B1: PxM33 PxM34 PxM35 PxM36 PxM37 PxM38. -/
import Derived.Test.YtpcipfnohfefhaaGreatDoorMs
import Derived.Recover
set_option linter.unusedSimpArgs false
set_option linter.unusedVariables false
set_option linter.unusedSectionVars false
namespace Go.Px
variable{b:Nat->Value}{c:Code}{f:FuncId}{fn:Func}{id2 r:Nat}{ids:List Nat}{ins:Sig}{k1 k2:ByteArray}{o:Oper}{outs:List (XK × Sig)}{q:Opts}{seen:Array Nat}{v v1 v2:Value}{vs:Nat->List Value}{x:Operand}{ν:Val}
section
variable {P:Program}{ops:Array Oper}
theorem zb1 {a:Act}{w:World}{K K':Act->World->Prop}{Q Q':Exit->Act->World->Prop}(hK:∀ a w,K a w->K' a w) (hp:∀ c a w,Q (.panic c) a w->Q' (.panic c) a w) (ho:∀ a w,Q .outgrown a w->Q' .outgrown a w)
    (h:o.wp P a w K Q):o.wp P a w K' Q':=by
  unfold Oper.wp at *
  generalize (execOp a.eval o).run P w=r at *
  cases r with
  |ok n w'=>
    cases n <;> simp only [Oper.upon] at h |- <;>
      first
        |exact hK _ _ h
        |exact Calls.mono h (fun e w'' he=>by cases e <;> first | exact hK _ _ he | exact hp _ _ _ he | exact (let ⟨a,w,q⟩:=he;⟨a,w,ho _ _ q⟩))
        |exact Rows.mono h (fun _ _ he=>hK _ _ he)
  |halt x w'=>cases x <;> simp only [Oper.upon] at h |- <;> exact hp _ _ _ h
theorem YP {Q Q':Exit->Act->World->Prop}{l2:List Oper}(hn:∀ a w,Q .normal a w->wpList P ops Q' l2 a w) (hp:∀ c a w,Q (.panic c) a w->Q' (.panic c) a w) (ho:∀ a w,Q .outgrown a w->Q' .outgrown a w) :
    ∀ (l1:List Oper) {a:Act} {w:World},wpList P ops Q l1 a w->wpList P ops Q' (l1++l2) a w
  |[],a,w,h=>hn _ _ h
  |o::l,a,w,h=>by
    show wpList P ops Q' (o::(l++l2)) a w;unfold wpList at h |-
    cases hw:Region.wanted o (yielded ops a.tmps) with
    |true=>
      rw [hw,jr rfl] at h;rw [jr rfl];rcases h with h | ⟨h1,a2,w2,q⟩
      ·exact .inl (zb1 (fun a w=>YP hn hp ho l) hp ho h)
      ·exact .inr ⟨h1,a2,w2,ho _ _ q⟩
    |false=>
      rw [hw,js (by simp)] at h;rw [js (by simp)];exact YP hn hp ho l h
theorem Wy {Q:Exit->Act->List Frame->World->Prop}{cs:List Frame}(hl:∀ a w,¬ Q .outgrown a cs w):∀ (l:List Nat) (a:Act) (w:World),wpOps P ops (fun e a w=>Q e a cs w) l a w->wpOpsS P ops Q l a cs w
 |[],a,w,h=>h
 |i::l,a,w,h=>by
  unfold wpOps at h;unfold wpOpsS;cases ho:ops[i]? with
  |none=>rw [ho] at h;exact Wy hl l a w h
  |some o=>
   rw [ho] at h;simp only at h |-
   cases hw:Region.wanted o (yielded ops a.tmps) with
   |false=>rw [hw,js (by simp)] at h;rw [js (by simp)];exact Wy hl l _ w h
   |true=>
    rw [hw,jr rfl] at h;rw [jr rfl];rcases h with h | ⟨_,a2,w2,q⟩
    ·have h:=zb1 (fun a w=>Wy hl l a w) (fun c a w q=>q) (fun a w q=>q) h;unfold Oper.wp at h;split
     ·rename_i w' hr;rw [hr] at h;exact (h:False).elim
     ·exact h
    grind
end
section
variable {C:Cod}{P:Program}
theorem zdc [Dfr] {Γ:List (Spec C)}(hΓ:∀ s∈Γ,s.OK P) (n:Nat) (κ:Kp):xq P n κ (YM q Γ P n):=⟨fun w0 σ0 hgl o S L b Z PV hA=>by show OpA κ P n w0 σ0 o (YM q Γ P n o S _ some) L b Z PV;rw [vq,Option.bind_fun_some'];exact zi4 hΓ _ κ w0 σ0 hgl o S L b Z PV hA,fun o S ρ k=>zi5⟩
def zqr (rv:Value) (u u2:FrameMode):Prop:=(u = .returning/\rv = .nilIface/\u2 = .returning)\/(u = .panicking [{v:=rv,recovered:=false}]/\u2 = .panicking [{v:=rv,recovered:=true}])
def Spec.OKD (P : Program) (s : Spec C) : Prop := ∃ fn, P.funcs[s.f]? = some fn /\ (fn.name == "runtime.NumGoroutine") = false /\ fn.body.isNone = false /\
 ∀ (args:List Value) (rv:Value) (u u2:FrameMode),zqr rv u u2->s.OKc (args++[rv]) fun w Q=>CallsD P s.f args.toArray u w fun e u' w'=>u'=u2/\Q e w'
def zcB:Op->Bool
 | .call ⟨.builtin .recover,args,_⟩=>args.isEmpty
 |_=>false
def startD (S:St C) (k d0:Nat):St C:={env:=fun t=>bif Nat.beq t d0 then S.env k else bif Nat.blt t k then S.env t else .und,heap:=S.heap}
def zmm (P:Program) (fn:Func) (m:Nat) (outs:List (XK×Sig)):XE C->St C->G3 (zi C outs):=fun e S=>match e with
 | .ret=>(wx P S fn.results.toList).bind fun As=>zR m outs .ret (Y9 As S.heap)
 | .normal=>(wx P S fn.results.toList).bind fun As=>zR m outs .ret (Y9 As S.heap)
 |_=>none
noncomputable def zbj (q:Opts) (Γ:List (Spec C)) (lp:ZP) (P:Program) (fn:Func) (nr:Nat) (ins:Sig) (outs:List (XK×Sig)) (hs:Nat->G3 Hint) (x:ins.ty C):G3 (zi C outs):=
  match fn.body with
  |some (.seq (.region _ ops false) c)=>(match ops.toList with
    |o::l=>(match o.guard,o.dst with
      |none,some d0=>chk (zcB o.op && (Nat.ble ins.ts.length (fn.ntmps+1) && (Nat.blt d0 fn.ntmps && (Nat.beq fn.results.toList.length nr && (Nat.ble nr 4 && (Nat.ble ins.es.length 64 && Nat.blt 0 ins.ts.length))))))
          (ZD (YM q Γ P fn.ntmps) fn.ntmps ops l (startD (ins.open x) (ins.ts.length - 1) d0) fun e S=>match e with
            | .normal=>Zx (YM q Γ P fn.ntmps) (drw q Γ P fn.ntmps) lp fn.ntmps ins.es.length hs c 2 _ S (zmm P fn ins.es.length outs)
            |e=>zmm P fn ins.es.length outs e S)
      |_,_=>none)
    |[]=>none)
  |_=>none
theorem zkJ {rv:Value}{u u2:FrameMode}(h:zqr rv u u2) {c0:Frame}{cs:List Frame}(hm:c0.mode=u) :
    (recoverD (c0::cs)=none/\rv = .nilIface/\c0={c0 with mode:=u2})\/recoverD (c0::cs)=some (rv,{c0 with mode:=u2}::cs):=by
  rcases h with ⟨rfl,rfl,rfl⟩ | ⟨rfl,rfl⟩
  · left;refine ⟨?_,rfl,?_⟩
    ·simp only [recoverD,hm]
    ·cases c0;grind
  ·right;simp only [recoverD,hm]
theorem AbsL.startD {κ:Kp}{S:St C}{Z:FS}{PV:List Priv}{args:List Value}{rv:Value}{d0:Nat}(h:AbsL κ S ν vs ids (yh 0 (args++[rv])) (fun _=>undef) Z PV) :
    AbsL κ (startD S args.length d0) ν vs ids ((d0,rv)::yh 0 args) (fun _=>undef) Z PV:=by
  refine ⟨⟨h.nd,h.dom,h.pv,h.cell,fun t=>?_,h.one⟩,fun t=>?_,h.livec,h.keep⟩
  · show VR C Z ν (bif Nat.beq t d0 then rv else look (yh 0 args) (fun _=>undef) t) (bif Nat.beq t d0 then S.env args.length else bif Nat.blt t args.length then S.env t else .und);cases Nat.beq t d0 with
    |true=>
      have:=h.env args.length;rw [yi] at this;grind
    |false=>
      simp only [G8];cases e:Nat.blt t args.length with
      |true=>
        have:=h.env t;rw [yi] at this |-
        rw [GZ] at e;grind
      |false=>trivial
  · show (bif Nat.beq t d0 then S.env args.length else bif Nat.blt t args.length then S.env t else .und).ok _;cases Nat.beq t d0 with
    |true=>exact h.live _
    |false=>
      cases Nat.blt t args.length with
      |true=>exact h.live t
      |false=>trivial
theorem zkK {a:Act}{w:World}(h:zcB o.op=true):(execOp a.eval o).run P w = .ok .recover w:=by
 unfold zcB at h;split at h
 ·rename_i args ts e;have:args = #[]:=by simpa using h
  subst this;simp [execOp,e,resolve,invoke,builtin,GV]
 ·cases h
theorem zo1 {κ:Kp}{st:Start}{Z:FS}{nr:Nat}{outs:List (XK×Sig)}{r:zi C outs}{w:World}(h:Ww κ st Z nr outs r .outgrown w):False:=by
 obtain ⟨e,S,_,q,_⟩:=Xa (K:=fun _ _=>()) (z:=()) rfl h;grind
theorem vu  {Γ : List (Spec C)} (hΓ : ∀ s ∈ Γ, s.OK P) (hm : P.follows .mixedOrders = true) {lp : ZP} (hlp : Y8 lp)   {nr : Nat}   (hs : Nat -> G3 Hint) (hf : P.funcs[f]? = some fn) (hnm : (fn.name == "runtime.NumGoroutine") = false) (hbs : fn.body.isNone = false) {F : ins.ty C -> G3 (zi C outs)} (hF : ∀ x, F x = zbj q Γ lp P fn nr ins outs hs x) :
    Spec.OKD P ⟨f,nr,ins,outs,F⟩:=by
  refine ⟨fn,hf,hnm,hbs,?_⟩;intro args rv u u2 hrec x r hr κ st Z hgl PV ν vs ids hκ hargs hA hpre;have hr:zbj q Γ lp P fn nr ins outs hs x=some r:=by grind
  unfold zbj at hr;split at hr
  case h_2=>cases hr
  rename_i id ops c hb;split at hr
  case h_2=>cases hr
  rename_i o l hol;split at hr
  case h_2=>cases hr
  rename_i d0 hg hd;obtain ⟨hc,hr⟩:=zb hr;simp only [g9] at hc;obtain ⟨c1,c2,c3,c4,c5,c6,c7⟩:=hc;have hargs:(args++[rv]).length=ins.ts.length:=hargs;have hal:args.length=ins.ts.length - 1:=by grind
  have c4:=jz c4;have hκ:κ.m=ins.es.length:=hκ;rw [<- hκ,<- hal] at hr;have hn:args.length<=fn.ntmps:=by
    have:=Uf c2;grind
  have hd0:d0 < fn.ntmps:=by simpa [GZ] using c3
  have hAd:=AbsL.startD (d0:=d0) hA
  have hat:@At dfr0 C fn.ntmps st Z κ (startD (ins.open x) args.length d0) (Act.put {tmps:=args.toArray++Array.replicate (fn.ntmps - args.toArray.size) undef,defers:=[]} (some d0) rv) st.w:=
    ⟨_,_,Z,PV,⟨ν,vs,ids,hAd⟩,hpre.inv,(W4 hn).put hd0 rv⟩
  refine callsD_of_wpS hf hb fun c0 cs hmode=>wpS_seq (wpS_region ?_)
  have hsz:ops.size=l.length+1:=by rw [<- Array.length_toList,hol];rfl
  have h0:ops[0]?=some o:=by rw [<- Array.getElem?_toList,hol];rfl
  rw [hsz,List.range_eq_range',List.range'_succ];unfold wpOpsS;rw [h0];have hw:Region.wanted o (yielded ops (args.toArray++Array.replicate (fn.ntmps - args.toArray.size) undef))=true:=by simp [Region.wanted,hg]
  simp only [hw,jl,zkK c1];generalize hQ:bodyPostS P fn c0 cs (fun e u' w'=>u'=u2/\Ww κ st Z nr outs r e w')=Q;have fin:∀ {S':St C} {a':Act} {w':World},zmm P fn κ.m outs .ret S'=some r->@At dfr0 C fn.ntmps st Z κ S' a' w'->∀ e,e = .normal\/e = .ret->Q e a' ({c0 with mode:=u2}::cs) w':=by
    intro S' a' w' hk hA' e he;obtain ⟨v,h1,h2⟩:=zcj c4 (by rw [c4];exact Uf c5) hk hA';rw [<- hQ];rcases he with rfl | rfl <;> exact ⟨hA'.defers,u2,rfl,v,h1,rfl,h2⟩
  have post:∀ e a' w',@Ze dfr0 C _ fn.ntmps st Z κ (zmm P fn κ.m outs) r e a' w'->Q e a' ({c0 with mode:=u2}::cs) w':=by
    intro e a' w' hx;cases e with
    |normal=>obtain ⟨S',hk,hA'⟩:=hx;exact fin hk hA' _ (.inl rfl)
    |ret=>obtain ⟨S',hk,hA'⟩:=hx;grind
    |exit j=>obtain ⟨S',hk,hA'⟩:=hx;cases hk
    |panic ch=>obtain ⟨v,S',hk,hA'⟩:=hx;cases hk
    |goto l=>exact hx.elim
    |outgrown=>exact hx.elim
  have main:∀ (a1:Act),a1=Act.put {tmps:=args.toArray++Array.replicate (fn.ntmps - args.toArray.size) undef,defers:=[]} (some d0) rv->
      wpOpsS P ops (Exit.thenS (c.wpS P Q) Q) (List.range' (0+1) l.length) a1 ({c0 with mode:=u2}::cs) st.w:=by
    rintro _ rfl;refine Wy (fun a w hq=>?_) _ _ _ ?_
    ·have hq:Q .outgrown a ({c0 with mode:=u2}::cs) w:=hq;rw [<- hQ] at hq;obtain ⟨u',_,hq⟩:=hq;exact zo1 hq
    · rw [wpOps_eq_wpList l (0+1) (fun j=>by rw [<- Array.getElem?_toList,hol,Nat.add_comm 0 1,Nat.add_comm 1 j];rfl)];have hx:=Yz hgl (zdc hΓ fn.ntmps κ) l hr hat;have:=YP (l2:=[]) (Q':=fun e a w=>Exit.thenS (c.wpS P Q) Q e a ({c0 with mode:=u2}::cs) w) (fun a w hq=>?_) (fun ch a w hq=>?_) (fun a w hq=>?_) l hx
      ·grind
      ·obtain ⟨S',hk,hA'⟩:=hq;refine wpS_of_wp (wp_mono (yE hgl (zdc hΓ fn.ntmps κ) (ze1 hΓ hm fn.ntmps κ) hlp c 2 _ _ _ _ hk _ _ hA') post)
      ·obtain ⟨v,S',hk,hA'⟩:=hq;cases hk
      ·exact hq.elim
  rcases zkJ hrec (cs:=cs) hmode with ⟨e1,e2,e3⟩ | e1
  ·grind
  grind
end
section
variable {C:Cod}{P:Program}{ρ:Type}
def VC:List Oper->G3 (List Oper×Nat)
 |[]=>none
 |[⟨none,.defer ⟨.value (.tmp t),args,_⟩,_,_,_,none⟩]=>bif args.isEmpty then some ([],t) else none
 |o::r=>(VC r).map fun p=>(o::p.1,p.2)
theorem zjd:∀ {l l':List Oper}{t:Nat},VC l=some (l',t)->∃ o:Oper,l=l'++[o]/\o.guard=none/\o.dst=none/\∃ ts,o.op = .defer ⟨.value (.tmp t), #[],ts⟩:=by
 intro l
 induction l with
 |nil=>intro l' t h;cases h
 |cons o r ih=>
  intro l' t h;unfold VC at h;split at h
  ·grind
  ·rename_i t' args ts ty ps af e;cases ha:args.isEmpty with
   |false=>grind
   |true=>
    rw [ha,Uv] at h;cases h;have:args = #[]:=by simpa using ha
    subst this;cases e;exact ⟨_,rfl,rfl,rfl,_,rfl⟩
  ·rename_i o' r' _ e;cases e;obtain ⟨p,hp,h⟩:=U4.1 h;grind
def va (m:Nat):List (AV C.D)->Bool
 |[]=>true
 | .pc k _::r=>Nat.blt k m && va m r
 |_=>false
def zdd (S:St C):List (AV C.D)->Bool
 |[]=>true
 | .pc k _::r=>(S.heap k).isSome && zdd S r
 |_=>false
def vT (stp:yC C) (dr:Yh C) (lp:ZP) (n:Nat) (hs:Nat->G3 Hint):Code->Nat->St C->(XE C->St C->G3 ρ)->(FuncId->List (AV C.D)->XE C->St C->G3 ρ)->G3 ρ
  | .seq (.region id ops false) c,i,S,KA,KB=>(match VC ops.toList with
    |some (l,t)=>ZD stp n ops l S fun e S'=>(match e with
      | .normal=>(match hs (i+1) with
        |some (.loop g _)=>(g.close 0 S').bind fun x0=>(match (g.open x0).env t with
          | .clo f caps=>chk (va g.es.length caps && Nat.ble g.es.length 64) (Zx stp dr lp n g.es.length hs c (i+2) _ (g.open x0) (KB f caps))
          |_=>none)
        |_=>none)
      |e=>KA e S')
    |none=>Zx stp dr lp n 0 hs (.region id ops false) (i+1) _ S fun e S'=>match e with
      | .normal=>vT stp dr lp n hs c (i+2) S' KA KB
      |e=>KA e S')
  | .seq a c,i,S,KA,KB=>Zx stp dr lp n 0 hs a (i+1) _ S fun e S'=>match e with
      | .normal=>vT stp dr lp n hs c (i+1+xv a) S' KA KB
      |e=>KA e S'
  |_,_,_,_,_=>none
def zde (P:Program) (s:Spec C) (fn:Func) (outs:List (XK×Sig)) (f:FuncId) (caps:List (AV C.D)) (v:AV C.D) (S:St C):G3 (zi C outs):=
 chk (Nat.beq s.f f && zdd S caps) ((YA s.ins S (caps++[v])).bind fun z=>zba s (vB - 1) z.1 z.2.1 z.2.2 fun out=>match out with
  | .go S'=>(wx P (S'.put (vB - 1) .und) fn.results.toList).bind fun As=>zR 0 outs .ret (Y9 As S'.heap)
  |_=>none)
noncomputable def zgb (q:Opts) (Γ:List (Spec C)) (sr sp:Spec C) (lp:ZP) (P:Program) (fn:Func) (nr:Nat) (ins:Sig) (outs:List (XK×Sig)) (hs:Nat->G3 Hint) (x:ins.ty C):G3 (zi C outs):=
  match fn.body with
  |none=>none
  |some c=>chk (Nat.ble ins.ts.length fn.ntmps && (Nat.beq fn.results.toList.length nr && (Nat.ble nr 4 && Nat.beq ins.es.length 0)))
      (vT (YM q Γ P fn.ntmps) (drw q Γ P fn.ntmps) lp fn.ntmps hs c 0 (ins.open x) (fun e S=>match e with
        | .ret=>(wx P S fn.results.toList).bind fun As=>zR 0 outs .ret (Y9 As S.heap)
        | .pan v=>zR 0 outs (.pan v) (Y9 [] S.heap)
        |_=>none) fun f caps e S=>match e with
        | .ret=>zde P sr fn outs f caps .nili S
        | .normal=>zde P sr fn outs f caps .nili S
        | .pan v=>zde P sp fn outs f caps v S
        |_=>none)
def vU (κ:Kp):List (AV C.D)->List Value->Prop
 |[],[]=>True
 | .pc k off::A,v::V=>(k < κ.m/\v = .pointer (some ((κ.ν0.adr k).add off)))/\vU κ A V
 |_,_=>False
theorem vU.of {Z:FS}{m:Nat}{h64:m<=64}:∀ {caps:List (AV C.D)}{V:List Value},va m caps=true->VRs C Z ν V caps->vU (⟨m,h64,ν⟩:Kp) caps V
 |[],[],_,_=>trivial
 |A::As,[],_,h=>h.elim
 |[],v::V,_,h=>h.elim
 |A::As,v::V,hp,⟨h1,h2⟩=>by
  cases A <;> first | (simp [va] at hp;done) | skip
  rename_i k off;simp only [va,g9] at hp;exact ⟨⟨by simpa [GZ] using hp.1,h1⟩,vU.of hp.2 h2⟩
theorem zlc {Z:FS}{m:Nat}:∀ {caps:List (AV C.D)}{V:List Value},va m caps=true->VRs C Z ν V caps->∀ v∈V,v.oneCell'=true
 |[],[],_,_=>fun v hv=>by cases hv
 |A::As,[],_,h=>h.elim
 |[],v::V,_,h=>h.elim
 |A::As,v::V,hp,⟨h1,h2⟩=>by
  cases A <;> first | (simp [va] at hp;done) | skip
  simp only [va,g9] at hp;intro u hu;rcases Ua.1 hu with e | e
  ·rw [e,show v = .pointer _ from h1];rfl
  ·exact zlc hp.2 h2 u e
theorem vU.rs {κ:Kp}{S:St C}{L:List (Nat×Value)}{Z:FS}{PV:List Priv}(h:AbsL κ S ν vs ids L b Z PV):∀ {caps:List (AV C.D)}{V:List Value},vU κ caps V->zdd S caps=true->VRs C Z ν V caps/\AV.oks (fun id=>(S.heap id).isSome=true) caps
 |[],[],_,_=>⟨trivial,trivial⟩
 |A::As,[],h,_=>by cases A <;> exact h.elim
 |[],v::V,h,_=>h.elim
 |A::As,v::V,hc,hl=>by
  cases A <;> first | exact hc.elim | skip
  rename_i k off;obtain ⟨⟨h1,h2⟩,h3⟩:=hc;simp only [zdd,g9] at hl;obtain ⟨k1,k2⟩:=vU.rs h h3 hl.2;refine ⟨⟨?_,k1⟩,⟨hl.1,k2⟩⟩;show v = .pointer (some ((ν.adr k).a.add off));rw [h2,(h.keep k h1 hl.1).2.1]
theorem AbsL.rekey {κ κ':Kp}{S:St C}{L:List (Nat×Value)}{Z:FS}{PV:List Priv}(h:AbsL κ S ν vs ids L b Z PV) (hk:∀ k,k < κ'.m->(S.heap k).isSome=true->ν.hdr k=κ'.ν0.hdr k/\(ν.adr k).a=(κ'.ν0.adr k).a/\(ZT (S.heap k)=true->(ν.adr k).sub=(κ'.ν0.adr k).sub)):AbsL κ' S ν vs ids L b Z PV:=
 ⟨⟨h.nd,h.dom,h.pv,h.cell,h.env,h.one⟩,h.live,h.livec,hk⟩
theorem AbsL.unput2 {κ:Kp}{S:St C}{L:List (Nat×Value)}{Z:FS}{PV:List Priv}{d:Nat}(h:AbsL κ S ν vs ids ((d,v)::L) b Z PV):AbsL κ (S.put d .und) ν vs ids L b Z PV:=by
 refine ⟨⟨h.nd,h.dom,h.pv,h.cell,fun t=>?_,h.one⟩,fun t=>?_,h.livec,h.keep⟩
 ·show VR C Z ν _ (upd S.env d .und t);by_cases e:t=d
  ·subst e;rw [zl];trivial
  ·rw [zm e];have:=h.env t;have e2:look ((d,v)::L) b t=look L b t:=by
    show (bif Nat.beq t d then v else look L b t)=_;have:Nat.beq t d=false:=by
     cases hb:Nat.beq t d with
     |false=>rfl
     |true=>exact absurd (jz hb) e
    rw [this];rfl
   grind
 ·show (upd S.env d .und t).ok _;by_cases e:t=d
  ·subst e;rw [zl];trivial
  ·rw [zm e];exact h.live t
theorem zmn   {caps : List Value} {w : World} (hf : P.funcs[f]? = some fn) (hnm : (fn.name == "runtime.NumGoroutine") = false) (hb : fn.body.isNone = false) : (invoke (.fn (.func f) caps.toArray) #[]).run P w = .ok (.enter f caps.toArray) w := by
 simp only [invoke];unfold callFunc;simp only [GV,GX,GW,hf,hnm,hb,jg,jk,GT,Array.empty_append]
theorem zje {s:Spec C}(hs:s.OKD P) {nr:Nat}{outs:List (XK×Sig)}{caps:List (AV C.D)}{v:AV C.D}{S:St C}{r:zi C outs}(hr:zde P s fn outs f caps v S=some r)
    (c4:fn.results.toList.length=nr) (c2:fn.results.toList.length<=4) {κ κ':Kp} (hκ:κ.m=0) {st:Start} {σ0:FS} (hgl:C.gl st.w σ0) {L:List (Nat×Value)} {b:Nat->Value} {Z:FS} {PV:List Priv} (hA:zz κ' S L b Z PV) {w:World} (hi:Inv st σ0 Z PV w) {tmps:Array Value} (hget:∀ i,tmps.getD i undef=look L b i)
    {V:List Value} (hV:vU κ' caps V) {rv:Value} (hrv:∀ ν:Val,(∀ i,(ν.hdr i).oneCell'=true)->VR C Z ν rv v) (hok:∀ p:Nat->Prop,v.ok p) {u u2:FrameMode} (hrec:zqr rv u u2) (hu2:settle u2 = .returning) (hu:u ≠.run) :
    Leaves P fn tmps (Ww κ st σ0 nr outs r) [{target :=.fn (.func f) V.toArray,args:= #[]}] u w:=by
  unfold zde at hr;obtain ⟨hc,hr1⟩:=zb hr;clear hr;simp only [g9] at hc;have hf:=jz hc.1;subst hf;obtain ⟨z,hz,hr2⟩:=jy hr1;rw [zdP] at hr2;obtain ⟨out,ho,hr⟩:=jy hr2;obtain ⟨ν,vs,ids,hA⟩:=hA;obtain ⟨k1,k2⟩:=vU.rs hA hV hc.2;obtain ⟨fs,h1,h2,h3,hs⟩:=hs;refine leaves_cons hu (zmn h1 h2 h3) ?_;have hvr:VRs C Z ν (V++[rv]) (caps++[v]):=VRs.of (by simp [k1.len]) fun j u A hu hA'=>by
    by_cases hj:j < caps.length
    ·rw [Ud hj] at hA';rw [Ud (by rw [k1.len];exact hj)] at hu;exact k1.rel hu hA'
    · rw [Uc (by omega)] at hA';rw [Uc (by rw [k1.len];omega),k1.len] at hu;cases hd:j - caps.length with
      |zero=>rw [hd] at hA' hu;simp at hA' hu;subst hA';subst hu;exact hrv ν hA.one
      |succ m=>grind
  have hlive:AV.oks (fun id=>(S.heap id).isSome=true) (caps++[v]):=AV.oks_iff.2 fun A hA'=>by
    rcases G5.1 hA' with h | h
    ·exact AV.oks_iff.1 k2 A h
    grind
  have hcall:=zdM (hs V rv u u2 hrec) (fun h k=>CallsD.mono h fun e u' w' hq=>⟨hq.1,k _ _ hq.2⟩) hgl (d:=vB - 1) (S2:=z.1) (bl:=z.2.1) (x:=z.2.2) hz hA hvr hlive ho hi;refine CallsD.mono hcall ?_;rintro e u' w' ⟨rfl,hq⟩;cases e with
  |outgrown=>exact hq.elim
  |panicked ch=>grind
  |returned v'=>
    obtain ⟨S',Z',PV',rfl,hi',ν',vs',ids',hA'⟩:=hq;show Leaves P fn tmps _ [] (settle u') w';rw [hu2];have hfin:zz κ (S'.put (vB - 1) .und) L b Z' PV':=⟨ν',vs',ids',hA'.unput2.rekey fun k hk=>by grind⟩;have hr:(wx P (S'.put (vB - 1) .und) fn.results.toList).bind (fun As=>zR κ.m outs .ret (Y9 As (S'.put (vB - 1) .und).heap))=some r:=by rw [hκ];exact hr
    obtain ⟨v,h1,h2⟩:=zkX (nr:=nr) c4 c2 hr hfin hi' hget;exact ⟨v,h1,h2⟩
theorem zo2 {stp:yC C}{dr:Yh C}{lp:ZP}{n:Nat}{hs:Nat->G3 Hint}{w0:Start}{σ0:FS}(hgl:C.gl w0.w σ0) (hstp:∀ [Dfr] κ,xq P n κ stp) (hdr:∀ [Dfr] κ,WT P n κ dr) (hlp:Y8 lp) {κ:Kp}(hκ:κ.m=0)
    {KA:XE C->St C->G3 ρ} {KB:FuncId->List (AV C.D)->XE C->St C->G3 ρ} {r:ρ} {Q:Exit->Act->World->Prop}
    (hKA:∀ e a w,e ≠.normal->@Ze dfr0 C ρ n w0 σ0 κ KA r e a w->Q e a w)
    (hKB:∀ (κ':Kp) f caps V,vU κ' caps V->∀ e a w,@Ze ⟨[{target :=.fn (.func f) V.toArray,args:= #[]}]⟩ C ρ n w0 σ0 κ' (KB f caps) r e a w->Q e a w) :
    ∀ (c:Code) (i:Nat) (S:St C),vT stp dr lp n hs c i S KA KB=some r->∀ (a:Act) (w:World),@At dfr0 C n w0 σ0 κ S a w->c.wp P Q a w:=by
  have plain:∀ (x c:Code) (i j:Nat) (S:St C),(∀ (S:St C),vT stp dr lp n hs c j S KA KB=some r->∀ (a:Act) (w:World),@At dfr0 C n w0 σ0 κ S a w->c.wp P Q a w)->
      (Zx stp dr lp n 0 hs x i _ S fun e S'=>match e with
      | .normal=>vT stp dr lp n hs c j S' KA KB
      |e=>KA e S')=some r->∀ (a:Act) (w:World),@At dfr0 C n w0 σ0 κ S a w->(Code.seq x c).wp P Q a w:=by
    intro x c i j S ih h a w hA;rw [<- hκ] at h;refine wp_seq (wp_mono (@yE dfr0 κ C n w0 σ0 P stp dr lp hs hgl (hstp κ) (hdr κ) hlp x i _ _ _ _ h a w hA) ?_);intro e a w hq;cases e with
    |normal=>obtain ⟨S',hk,hA'⟩:=hq;exact ih _ hk _ _ hA'
    |exit j=>exact hKA _ _ _ (by simp) hq
    |ret=>exact hKA _ _ _ (by simp) hq
    |panic ch=>exact hKA _ _ _ (by simp) hq
    |goto l=>exact hq.elim
    |outgrown=>exact hq.elim
  intro c
  induction c with
  |seq x c _ ih=>
    intro i S h a w hA;cases x with
    |region id ops dw=>
      cases dw with
      |true=>exact plain _ c _ _ S (ih _) h a w hA
      |false=>
        unfold vT at h;split at h
        · rename_i l t hl;obtain ⟨o,e1,e2,e3,ts,e4⟩:=zjd hl;refine wp_seq (wp_region_list ?_);rw [e1];have hx:=@Yz dfr0 κ C n w0 σ0 P ρ stp hgl (hstp κ) ops l S _ r h a w hA;refine YP (fun a w hq=>?_) (fun ch a w hq=>?_) (fun a w hq=>hq.elim) l hx
          case refine_2=>
            obtain ⟨v,S',hk,hA'⟩:=hq;exact hKA _ _ _ (by simp) ⟨v,S',hk,hA'⟩
          obtain ⟨S',hk,hA'⟩:=hq
          have hk:(match hs (i+1) with
            |some (.loop g _)=>(g.close 0 S').bind fun x0=>(match (g.open x0).env t with
              | .clo f caps=>chk (va g.es.length caps && Nat.ble g.es.length 64) (Zx stp dr lp n g.es.length hs c (i+2) _ (g.open x0) (KB f caps))
              |_=>none)
            |_=>none)=some r:=hk
          split at hk
          case h_2=>cases hk
          rename_i g _ _;obtain ⟨x0,hx0,hk⟩:=jy hk;rw [<- hκ] at hx0;obtain ⟨L,b,Z,PV,⟨ν,vs,ids,hA2⟩,hi,hf⟩:=@At.close dfr0 _ _ _ _ _ _ _ _ _ _ hx0 hA';split at hk
          case h_2=>cases hk
          rename_i f caps hclo;obtain ⟨hc,hk⟩:=zb hk;simp only [g9] at hc;have h64:=Uf hc.2;have hv:=hA2.env t;rw [hclo] at hv;obtain ⟨V,hv1,hv2⟩:=hv;rw [zkS f (zlc hc.1 hv2)] at hv1;have hcap:=vU.of (h64:=h64) hc.1 hv2;refine wpList_plain e2 fun Kw hK=>?_
          unfold Oper.wp;have hev:(execOp a.eval o).run P w = .ok (.defer {target :=.fn (.func f) V.toArray,args:= #[]}) w:=by
            rw [hf.eval];simp only [execOp,e4,resolve,opv,hv1,Deferred.ofValue,GV,GT,GW];simp
          rw [hev];show Kw _ w;refine hK _ _ ?_;show Exit.then _ Q .normal _ w;have hd:a.defers=[]:=hf.defers;have hsz:=hf.size;have hgt:=hf.get
          let D:Dfr:=⟨[{target :=.fn (.func f) V.toArray,args:= #[]}]⟩
          have hf2:@Fits D n L b (Act.put {a with defers:={target :=.fn (.func f) V.toArray,args:= #[]}::a.defers} o.dst undef):=by
            rw [e3];exact ⟨by show _::a.defers=_;rw [hd];rfl,hsz,hgt⟩
          have hA3:@At D C n w0 σ0 ⟨g.es.length,h64,ν⟩ (g.open x0) (Act.put {a with defers:={target :=.fn (.func f) V.toArray,args:= #[]}::a.defers} o.dst undef) w:=
            ⟨L,b,Z,PV,⟨ν,vs,ids,hA2.rekey fun k _ _=>⟨rfl,rfl,fun _=>rfl⟩⟩,hi,hf2⟩
          exact wp_mono (@yE D ⟨g.es.length,h64,ν⟩ C n w0 σ0 P stp dr lp hs hgl (@hstp D _) (@hdr D _) hlp c (i+2) _ _ _ _ hk _ _ hA3) (hKB _ f caps V hcap)
        ·exact plain _ c _ _ S (ih _) h a w hA
    |_=>exact plain _ c _ _ S (ih _) h a w hA
  |_=>intro i S h;cases h
theorem zgc  {Γ : List (Spec C)} (hΓ : ∀ s ∈ Γ, s.OK P) {sr sp : Spec C} (hsr : sr.OKD P) (hsp : sp.OKD P) (hm : P.follows .mixedOrders = true) {lp : ZP} (hlp : Y8 lp)   {nr : Nat}   (hs : Nat -> G3 Hint) (hf : P.funcs[f]? = some fn) (hnm : (fn.name == "runtime.NumGoroutine") = false) (hbs : fn.body.isNone = false) {F : ins.ty C -> G3 (zi C outs)} (hF : ∀ x, F x = zgb q Γ sr sp lp P fn nr ins outs hs x) :
    Spec.OK P ⟨f,nr,ins,outs,F⟩:=by
  refine ⟨fn,hf,hnm,hbs,?_⟩;intro x r hr κ st Z hg PV ν vs ids args hm' hargs hA hpre;have hr:zgb q Γ sr sp lp P fn nr ins outs hs x=some r:=by grind
  unfold zgb at hr;split at hr
  ·cases hr
  rename_i c hb;obtain ⟨hc,hr⟩:=zb hr;simp only [g9] at hc;obtain ⟨c1,c4,c2,c3⟩:=hc;have c4:=jz c4;have c2:fn.results.toList.length<=4:=by rw [c4];exact Uf c2
  have hκ:κ.m=0:=by rw [show κ.m=ins.es.length from hm'];exact jz c3
  have hargs:args.length=ins.ts.length:=hargs;have hn:args.length<=fn.ntmps:=by rw [hargs];exact Uf c1
  have hat:@At dfr0 C fn.ntmps st Z κ (ins.open x) {tmps:=args.toArray++Array.replicate (fn.ntmps - args.toArray.size) undef,defers:=[]} st.w:=⟨_,_,Z,PV,⟨ν,vs,ids,hA⟩,hpre.inv,W4 hn⟩;refine calls_of_wp_defers hf hb (zo2 hg (fun κ=>zdc hΓ fn.ntmps κ) (fun κ=>ze1 hΓ hm fn.ntmps κ) hlp hκ ?_ ?_ c 0 _ hr _ _ hat)
  · intro e a w hne hx;cases e with
    |normal=>grind
    |ret=>
      obtain ⟨S',hk,hA'⟩:=hx;have hd:a.defers=[]:=hA'.defers;obtain ⟨v,h1,h2⟩:=zcj (κ:=κ) (nr:=nr) c4 c2 (by rw [hκ];exact hk) hA';show Leaves P fn a.tmps _ a.defers .returning w;rw [hd];exact ⟨v,h1,h2⟩
    |exit j=>obtain ⟨S',hk,hA'⟩:=hx;cases hk
    |panic ch=>
      obtain ⟨v,S',hk,hA'⟩:=hx;obtain ⟨u,L,b,Z',PV',rfl,hp,⟨ν',vs',ids',hA'⟩,hi',hf'⟩:=hA';have hd:a.defers=[]:=hf'.defers;show Leaves P fn a.tmps _ a.defers (.panicking _) w;rw [hd];have hav:AbsL κ (Y9 [] S'.heap) ν' vs' ids' [] (fun _=>undef) Z' PV':=za3 (us:=[]) hA' trivial trivial;have hk:zR κ.m outs (.pan v) (Y9 [] S'.heap)=some r:=by grind
      show Ww κ st Z nr outs r _ w;refine Yp hk fun g y hy e' he=>?_
      cases e' <;> first | exact he.elim | skip
      obtain ⟨s,z,hz,rfl⟩:=he;obtain ⟨σ2,PV2,hl,hi2,h2⟩:=ww hy ⟨ν',vs',ids',hav⟩ hi';exact ⟨u,σ2,PV2,rfl,hi2,hp.again hl hz,h2⟩
    |goto l=>exact hx.elim
    |outgrown=>exact hx.elim
  · intro κ' f' caps V hV e a w hx;have ret:∀ {S':St C},zde P sr fn outs f' caps .nili S'=some r->@At ⟨[{target :=.fn (.func f') V.toArray,args:= #[]}]⟩ C fn.ntmps st Z κ' S' a w->Leaves P fn a.tmps (Ww κ st Z nr outs r) a.defers .returning w:=by
      intro S' hk hA';have hd:=@At.defers ⟨_⟩ _ _ _ _ _ _ _ _ hA';obtain ⟨L,b,Z',PV',hA',hi',hf'⟩:=hA';rw [hd];exact zje hsr hk c4 c2 hκ hg hA' hi' (@Fits.get ⟨_⟩ _ _ _ _ hf') hV (rv :=.nilIface) (fun ν _=>Rv.nili) (fun _=>trivial) (u2 :=.returning) (.inl ⟨rfl,rfl,rfl⟩) rfl (by simp)
    cases e with
    |normal=>obtain ⟨S',hk,hA'⟩:=hx;exact ret hk hA'
    |ret=>obtain ⟨S',hk,hA'⟩:=hx;exact ret hk hA'
    |exit j=>obtain ⟨S',hk,hA'⟩:=hx;cases hk
    |panic ch=>
      obtain ⟨v,S',hk,hA'⟩:=hx;obtain ⟨u,L,b,Z',PV',rfl,hp,hA',hi',hf'⟩:=hA';have hd:=@Fits.defers ⟨_⟩ _ _ _ _ hf';show Leaves P fn a.tmps _ a.defers (.panicking _) w;rw [hd];exact zje hsp hk c4 c2 hκ hg hA' hi' (@Fits.get ⟨_⟩ _ _ _ _ hf') hV (rv:=u) hp.2 (fun p=>AV.ok_mono (fun _ h=>h.elim) hp.1) (u2 :=.panicking [{v:=u,recovered:=true}]) (.inr ⟨rfl,rfl⟩) rfl (by simp)
    |goto l=>exact hx.elim
    |outgrown=>exact hx.elim
end
section
variable {P:Program}{w0:Start}{σ0 Z:FS}{PV:List Priv}{w:World}
variable {L:List (Nat×Value)}{bb:Nat->Value}{mt kt et:TypeId}{ty:TypeId}{ps:String}{af:Array Edge}{d:Nat}
theorem zkL:(execOp (opv L bb) ⟨some d,.makeMap mt none,ty,ps,af,none⟩).run P w = .ok (.value (.map (some w.heap.size))) (w.alloc (.map #[] 0)):=by
 simp [execOp,Instr.makeMap,Result.andThen]
theorem ze2 {es:Array MapEntry}{clock:Nat}(hm:P.underlying mt=some (.map kt et)) (hk:P.underlying kt=some .string) (hx:opv L bb x = .map (some r)) (hb:w.heap[r]?=some (.map es clock)) (hnew:Instr.findNow .string (.string k1) es.toList 0=some none) :
    (execOp (opv L bb) ⟨none,.insert mt x (.const (.string k1)) (.const v1),ty,ps,af,none⟩).run P w = .ok .skip {w with heap:=w.heap.setIfInBounds r (.map (es.push {key :=.string k1,val:=v1,born:=clock}) (clock+1))}:=by
  have hc:opv L bb (.const (.string k1)) = .string k1:=rfl;have hv:opv L bb (.const v1)=v1:=rfl;have h1:=MapKept.run_getObj_map (P:=P) hb;have h2:=MapKept.run_checkKey (P:=P) (w:=w) hk (k :=.string k1) trivial false 9999;have h3:=MapKept.run_findKey (P:=P) (w:=w) hk hnew;have h4:=MapKept.run_setObj_map (P:=P) (.map (es.push {key :=.string k1,val:=v1,born:=clock}) (clock+1)) hb;simp [execOp,Instr.mapUpdate,hx,hc,hv,GU hm,h1,h2,h3,h4,Result.andThen]
theorem zjf {es:Array MapEntry}{clock:Nat}(hm:P.underlying mt=some (.map kt et)) (hx:opv L bb x = .map (some r)) (hb:w.heap[r]?=some (.map es clock)) :
    (execOp (opv L bb) ⟨some d,.range mt x,ty,ps,af,none⟩).run P w = .ok (.value (.pointer (some ⟨w.heap.size,0,none⟩))) (w.alloc (.mapIter (some r) clock #[] clock)):=by
  simp [execOp,Instr.range,hx,GU hm,MapKept.run_getObj_map hb,Result.andThen]
theorem yG {m:G3 Nat}{s:Nat}{c:Nat}(hb:w.heap[r]?=some (.mapIter m s seen c)):(getObj r).run P w = .ok (.mapIter m s seen c) w:=by
 simp [getObj,Sem.run,hb]
theorem xV {m:G3 Nat}{s:Nat}{c:Nat}(o:Obj) (hb:w.heap[r]?=some (.mapIter m s seen c)):(setObj r o).run P w = .ok () {w with heap:=w.heap.setIfInBounds r o}:=by
 simp [setObj,Sem.run,hb]
def xU (k1 k2:ByteArray) (v1 v2:Value):Array MapEntry:= #[{key :=.string k1,val:=v1,born:=0},{key :=.string k2,val:=v2,born:=1}]
theorem zo3 {R I:Nat}{s:G3 Unit}(hx:opv L bb x = .pointer (some ⟨I,0,none⟩)) (hI:w.heap[I]?=some (.mapIter (some R) 2 #[] 2)) (hR:w.heap[R]?=some (.map (xU k1 k2 v1 v2) 2)) :
    let r:=(execOp (opv L bb) ⟨some d,.next x false,ty,ps,af,none⟩).run P w
    r = .ok (.value (.tuple #[.bool true,.string k1,v1])) {w.drew with heap:=w.drew.heap.setIfInBounds I (.mapIter (some R) 2 #[0] 2)}\/r = .ok (.value (.tuple #[.bool true,.string k2,v2])) {w.drew with heap:=w.drew.heap.setIfInBounds I (.mapIter (some R) 2 #[1] 2)}:=by
  intro r;have hI2:w.drew.heap[I]?=some (.mapIter (some R) 2 #[] 2):=hI;have h2:w.tape w.drawn (.mapNext 2) % 2=0\/w.tape w.drawn (.mapNext 2) % 2=1:=by omega
  rcases h2 with h2 | h2
  ·left;show (execOp (opv L bb) _).run P w=_;simp [execOp,Instr.next,hx,yG hI,MapKept.run_getObj_map hR,xV _ hI2,Result.andThen,xU,Question.forced,Question.cut,h2]
  ·right;show (execOp (opv L bb) _).run P w=_;simp [execOp,Instr.next,hx,yG hI,MapKept.run_getObj_map hR,xV _ hI2,Result.andThen,xU,Question.forced,Question.cut,h2]
theorem zo4 {R I:Nat}(hx:opv L bb x = .pointer (some ⟨I,0,none⟩)) (hI:w.heap[I]?=some (.mapIter (some R) 2 #[0] 2)) (hR:w.heap[R]?=some (.map (xU k1 k2 v1 v2) 2)) :
    (execOp (opv L bb) ⟨some d,.next x false,ty,ps,af,none⟩).run P w = .ok (.value (.tuple #[.bool true,.string k2,v2])) {w with heap:=w.heap.setIfInBounds I (.mapIter (some R) 2 #[0,1] 2)}:=by
  simp [execOp,Instr.next,hx,yG hI,MapKept.run_getObj_map hR,xV _ hI,Result.andThen,xU,Question.forced];rw [js (fun h=>by have:=h 0 (by omega);simp at this)]
theorem zmo {R I:Nat}(hx:opv L bb x = .pointer (some ⟨I,0,none⟩)) (hI:w.heap[I]?=some (.mapIter (some R) 2 #[1] 2)) (hR:w.heap[R]?=some (.map (xU k1 k2 v1 v2) 2)) :
    (execOp (opv L bb) ⟨some d,.next x false,ty,ps,af,none⟩).run P w = .ok (.value (.tuple #[.bool true,.string k1,v1])) {w with heap:=w.heap.setIfInBounds I (.mapIter (some R) 2 #[1,0] 2)}:=by
  simp [execOp,Instr.next,hx,yG hI,MapKept.run_getObj_map hR,xV _ hI,Result.andThen,xU,Question.forced];rw [js (fun h=>by have:=h 0 (by omega);simp at this)]
theorem zo5 {R I:Nat}(hs:seen = #[0,1]\/seen = #[1,0]) (hx:opv L bb x = .pointer (some ⟨I,0,none⟩)) (hI:w.heap[I]?=some (.mapIter (some R) 2 seen 2)) (hR:w.heap[R]?=some (.map (xU k1 k2 v1 v2) 2)) :
    (execOp (opv L bb) ⟨some d,.next x false,ty,ps,af,none⟩).run P w = .ok (.value (.tuple #[.bool false])) w:=by
  rcases hs with rfl | rfl <;>
  (simp [execOp,Instr.next,hx,yG hI,MapKept.run_getObj_map hR,Result.andThen,xU,Question.forced];rw [js (fun h=>by have:=h 0 (by omega);simp at this)])
theorem zg3 {R I:Nat}(hx:opv L bb x = .pointer (some ⟨I,0,none⟩)) (hI:w.heap[I]?=some (.mapIter (some R) 2 seen 2)) (hR:w.heap[R]?=some (.map (xU k1 k2 v1 v2) 2)) :
    (seen.back?=some 0->(execOp (opv L bb) ⟨some d,.entry x,ty,ps,af,none⟩).run P w = .ok (.value (.tuple #[.string k1,v1])) w)/\(seen.back?=some 1->(execOp (opv L bb) ⟨some d,.entry x,ty,ps,af,none⟩).run P w = .ok (.value (.tuple #[.string k2,v2])) w):=by
  refine ⟨fun h=>?_,fun h=>?_⟩ <;>
  simp [execOp,Instr.entry,hx,yG hI,h,MapKept.run_getObj_map hR,Result.andThen,xU]
end
structure MapM where
 mt:TypeId
 kt:TypeId
 r:Nat
 s:Nat
 it:Nat
 x:Nat
 y:Nat
 b:Nat
 b2:Nat
 k1:ByteArray
 k2:ByteArray
 v1:Value
 v2:Value
 ops1:Array Oper
 ops2:Array Oper
 l1:List Oper
 l2:List Oper
 cnd:Code
 rest:Code
def mapM (P:Program):Code->G3 MapM
 | .seq (.region _ ops false) (.block b (.loop (.seq (.region _ ops1 false) (.seq cnd (.block b2 (.seq (.region _ ops2 false) rest))))))=>
  (match ops.toList,ops1.toList,ops2.toList with
  |[⟨some r,.makeMap mt none,_,_,_,none⟩,⟨none,.insert mt1 (.tmp r1) (.const (.string k1)) (.const v1),_,_,_,none⟩,⟨none,.insert mt2 (.tmp r2) (.const (.string k2)) (.const v2),_,_,_,none⟩,⟨some s,.move (.tmp r3),_,_,_,none⟩,⟨some it,.range mt3 (.tmp s1),_,_,_,none⟩],
   ⟨some x,.next (.tmp i1) false,_,_,_,none⟩::l1,⟨some y,.entry (.tmp i2),_,_,_,none⟩::l2=>
   (match P.underlying mt with
   |some (.map kt _)=>(match P.underlying kt with
    |some .string=>chk (Nat.beq mt1 mt && (Nat.beq mt2 mt && (Nat.beq mt3 mt && (Nat.beq r1 r && (Nat.beq r2 r && (Nat.beq r3 r && (Nat.beq s1 s && (Nat.beq i1 it && (Nat.beq i2 it && !(k2 == k1)))))))))) (some ⟨mt,kt,r,s,it,x,y,b,b2,k1,k2,v1,v2,ops1,ops2,l1,l2,cnd,rest⟩)
    |_=>none)
   |_=>none)
  |_,_,_=>none)
 |_=>none
theorem ztN {P:Program}{m:MapM}(h:mapM P c=some m):∃ id id1 id2 ops et,c = .seq (.region id ops false) (.block m.b (.loop (.seq (.region id1 m.ops1 false) (.seq m.cnd (.block m.b2 (.seq (.region id2 m.ops2 false) m.rest))))))/\
    P.underlying m.mt=some (.map m.kt et)/\P.underlying m.kt=some .string/\(m.k2 == m.k1)=false/\
    (∃ ty1 ps1 af1 ty2 ps2 af2 ty3 ps3 af3 ty4 ps4 af4 ty5 ps5 af5,ops.toList=[⟨some m.r,.makeMap m.mt none,ty1,ps1,af1,none⟩,⟨none,.insert m.mt (.tmp m.r) (.const (.string m.k1)) (.const m.v1),ty2,ps2,af2,none⟩,⟨none,.insert m.mt (.tmp m.r) (.const (.string m.k2)) (.const m.v2),ty3,ps3,af3,none⟩,⟨some m.s,.move (.tmp m.r),ty4,ps4,af4,none⟩,⟨some m.it,.range m.mt (.tmp m.s),ty5,ps5,af5,none⟩])/\
    (∃ ty ps af,m.ops1.toList=⟨some m.x,.next (.tmp m.it) false,ty,ps,af,none⟩::m.l1)/\∃ ty ps af,m.ops2.toList=⟨some m.y,.entry (.tmp m.it),ty,ps,af,none⟩::m.l2:=by
  unfold mapM at h;split at h
  case h_2=>cases h
  split at h
  case h_2=>cases h
  rename_i e1 e2 e3;split at h
  case h_2=>cases h
  rename_i kt et hmt;split at h
  case h_2=>cases h
  rename_i hkt;obtain ⟨hc,h⟩:=zb h;simp only [g9,Ut] at hc;obtain ⟨a1,a2,a3,a4,a5,a6,a7,a8,a9,a10⟩:=hc;have a1:=jz a1;have a2:=jz a2;have a3:=jz a3;have a4:=jz a4;have a5:=jz a5;have a6:=jz a6;have a7:=jz a7;have a8:=jz a8;have a9:=jz a9;cases h;subst a1;subst a2;subst a3;subst a4;subst a5;subst a6;subst a7;subst a8;subst a9;exact ⟨_,_,_,_,et,rfl,hmt,hkt,a10,⟨_,_,_,_,_,_,_,_,_,_,_,_,_,_,_,e1⟩,⟨_,_,_,e2⟩,⟨_,_,_,e3⟩⟩
section
variable {C:Cod}{P:Program}{ρ:Type}
def zgd (it j:Nat) (S:St C):Bool:=(match S.env it with
 | .pc j' 0=>Nat.beq j' j
 |_=>false) && (S.heap j).isSome
section
variable (stp:yC C) (dr:Yh C) (lp:ZP) (n:Nat) (hs:Nat->G3 Hint) (mm nc nr:Nat) (m:MapM) (j:Nat)
def vv (S:St C) (nx:AV C.D) (K:XE C->St C->G3 ρ):G3 ρ:=
 chk (zgd m.it j S && Nat.blt m.x n) (ZD stp n m.ops1 m.l1 (S.put m.x nx) fun e S'=>match e with
  | .normal=>Zx stp dr lp n mm hs m.cnd nc _ S' K
  |_=>none)
def zge (k:ByteArray) (v:Value) (K:XE C->St C->G3 ρ) (S1:St C):G3 ρ:=
 chk (zgd m.it j S1 && Nat.blt m.y n) (ZD stp n m.ops2 m.l2 (S1.put m.y (.tup [.str k,yd v])) fun e S2=>match e with
  | .normal=>Zx stp dr lp n mm hs m.rest nr _ S2 fun e S3=>match e with
   | .exit i=>bif Nat.beq i m.b2 then K .normal S3 else bif Nat.beq i m.b then none else K (.exit i) S3
   |e=>K e S3
  |_=>none)
def mapIter (S:St C) (k:ByteArray) (v:Value) (K:XE C->St C->G3 ρ):G3 ρ:=
 vv stp dr lp n hs mm nc m j S (.tup [.bool true,.str k,yd v]) fun e S1=>match e with
  | .normal=>zge stp dr lp n hs mm nr m j k v K S1
  |_=>none
def Wa (K:XE C->St C->G3 ρ) (S:St C):G3 ρ:=
 vv stp dr lp n hs mm nc m j S (.tup [.bool false]) fun e S'=>match e with
  | .exit i=>bif Nat.beq i m.b then K .normal S' else none
  |_=>none
def zbk (f:St C->G3 ρ) (K:XE C->St C->G3 ρ):XE C->St C->G3 ρ:=fun e S=>match e with
 | .normal=>f S
 |e=>K e S
noncomputable def zgf (K:XE C->St C->G3 ρ) (S:St C):G3 ρ:=
 yM (mapIter stp dr lp n hs mm nc nr m j S m.k1 m.v1 (zbk (fun S=>mapIter stp dr lp n hs mm nc nr m j S m.k2 m.v2 (zbk (Wa stp dr lp n hs mm nc m j K) K)) K))
  (mapIter stp dr lp n hs mm nc nr m j S m.k2 m.v2 (zbk (fun S=>mapIter stp dr lp n hs mm nc nr m j S m.k1 m.v1 (zbk (Wa stp dr lp n hs mm nc m j K) K)) K))
end
def zjg (m:MapM) (S:St C):St C:=
 {env:=upd (upd (upd S.env m.r .und) m.s .und) m.it (.pc (nid m.it 0) 0),heap:=upd S.heap (nid m.it 0) (some (.cell []))}
noncomputable def zgg (stp:yC C) (dr:Yh C) (lp:ZP) (n:Nat) (hs:Nat->G3 Hint) (mm:Nat) (m:MapM) (i:Nat) (S:St C) (K:XE C->St C->G3 ρ):G3 ρ:=match hs i,hs (i+1) with
  |some (.cut outs),some (.loop g _)=>chk (isNone (S.heap (nid m.it 0)) && (Nat.blt m.r n && (Nat.blt m.s n && (Nat.blt m.it n && (Nat.ble mm (nid m.it 0) && (Nat.ble g.es.length 64 && (Nat.ble mm g.es.length && (g.es.take mm).all fun e=> !e.isGone)))))))
      ((g.close mm (zjg m S)).bind fun x0=>(match (g.open x0).env m.it with
        | .pc j 0=>chk (Nat.blt j g.es.length) ((zgf stp dr lp n hs g.es.length (i+7) (i+7+xv m.cnd+3) m j (fun e S'=>zR mm outs e S') (g.open x0)).bind fun y=>zQ outs y K)
        |_=>none))
  |_,_=>none
section
variable [Dfr] {κ:Kp}{S:St C}{n:Nat}{w0:Start}{σ0:FS}{a:Act}{w:World}
def AtM (n:Nat) (w0:Start) (σ0:FS) (κ:Kp) (R I:Nat) (om oi:Obj) (S:St C) (a:Act) (w:World):Prop:=∃ L b Z PV,zz κ S L b Z PV/\Inv w0 σ0 Z (PV++[.obj R om,.obj I oi]) w/\Fits n L b a
def zxm (n:Nat) (w0:Start) (σ0:FS) (κ:Kp) (R I:Nat) (om oi:Obj) (v:AV C.D) (S:St C) (chain:List PanicEntry) (a:Act) (w:World):Prop:=∃ u L b Z PV,chain=[{v:=u,recovered:=false}]/\x8 C Z u v/\zz κ S L b Z PV/\Inv w0 σ0 Z (PV++[.obj R om,.obj I oi]) w/\Fits n L b a
def Xt (n:Nat) (w0:Start) (σ0:FS) (κ:Kp) (R I:Nat) (om oi:Obj) (S:St C) (e:XE C) (x:Exit) (a:Act) (w:World):Prop:=match e,x with
 | .normal,.normal=>AtM n w0 σ0 κ R I om oi S a w
 | .exit i,.exit j=>i=j/\AtM n w0 σ0 κ R I om oi S a w
 | .ret,.ret=>AtM n w0 σ0 κ R I om oi S a w
 | .pan v,.panic chain=>zxm n w0 σ0 κ R I om oi v S chain a w
 |_,_=>False
theorem Ze.rel {K:XE C->St C->G3 ρ}{r:ρ}{x:Exit}(h:Ze n w0 σ0 κ K r x a w):∃ e S',K e S'=some r/\zeb n w0 σ0 κ S' e x a w:=by
 cases x with
 |normal=>obtain ⟨S',h1,h2⟩:=h;exact ⟨.normal,S',h1,h2⟩
 |exit i=>obtain ⟨S',h1,h2⟩:=h;exact ⟨.exit i,S',h1,rfl,h2⟩
 |ret=>obtain ⟨S',h1,h2⟩:=h;exact ⟨.ret,S',h1,h2⟩
 |panic ch=>obtain ⟨v,S',h1,h2⟩:=h;exact ⟨.pan v,S',h1,h2⟩
 |goto l=>exact h.elim
 |outgrown=>exact h.elim
theorem AtM.frame {R I:Nat}{om oi:Obj}(hgl:C.gl w0.w σ0) (h:AtM n w0 σ0 κ R I om oi S a w):∃ f1 Z,C.gl w Z/\At n ⟨w,f1⟩ Z κ S a w/\∀ {S':St C}{e x a' w'},zeb n ⟨w,f1⟩ Z κ S' e x a' w'->Xt n w0 σ0 κ R I om oi S' e x a' w':=by
 obtain ⟨L,b,Z,PV,hA,hi,hf⟩:=h;obtain ⟨gg,hsep,hg⟩:=hi.own;obtain ⟨f1,f2,s1,s2,l1,l2,dd⟩:=hsep.split;have hin:Inv ⟨w,f1⟩ Z Z PV w:=Inv.start hi.sub s1 (hg.sub.mono l1) (hg.mono l1).apart;refine ⟨f1,Z,C.glm hi.le hi.ext hgl,⟨L,b,Z,PV,hA,hin,hf⟩,?_⟩;have key:∀ {S':St C} {a' w'},At n ⟨w,f1⟩ Z κ S' a' w'->AtM n w0 σ0 κ R I om oi S' a' w':=by
  rintro S' a' w' ⟨L',b',Z',PV',hA',hi',hf'⟩;exact ⟨L',b',Z',PV',hA',hi.call hg s2 l1 l2 dd hi',hf'⟩
 intro S' e x a' w' hx;unfold zeb at hx;unfold Xt;split at hx
 ·exact key hx
 ·grind
 ·exact key hx
 ·obtain ⟨u,L',b',Z',PV',h1,h2,hA',hi',hf'⟩:=hx;exact ⟨u,L',b',Z',PV',h1,h2,hA',hi.call hg s2 l1 l2 dd hi',hf'⟩
 grind
theorem zsl {R I:Nat}{om oi:Obj}(hgl:C.gl w0.w σ0) {stp:yC C}(hstp:xq P n κ stp) {ops:Array Oper}{l:List Oper}{K:XE C->St C->G3 ρ}{r:ρ}(h:ZD stp n ops l S K=some r) (hA:AtM n w0 σ0 κ R I om oi S a w) :
    wpList P ops (fun x a w=>∃ e S',K e S'=some r/\Xt n w0 σ0 κ R I om oi S' e x a w) l a w:=by
  obtain ⟨f1,Z,hg,hat,hback⟩:=hA.frame hgl;have:=YP (l2:=[]) (Q':=fun x a w=>∃ e S',K e S'=some r/\Xt n w0 σ0 κ R I om oi S' e x a w) (fun a w hq=>?_) (fun ch a w hq=>?_) (fun a w hq=>?_) l (Yz hg hstp l h hat)
  ·grind
  ·obtain ⟨e,S',h1,h2⟩:=hq.rel;exact ⟨e,S',h1,hback h2⟩
  ·obtain ⟨e,S',h1,h2⟩:=hq.rel;grind
  ·exact hq.elim
theorem zo6 {R I:Nat}{om oi:Obj}(hgl:C.gl w0.w σ0) {stp:yC C}{dr:Yh C}{lp:ZP}{hs:Nat->G3 Hint}(hstp:xq P n κ stp) (hdr:WT P n κ dr) (hlp:Y8 lp) {i:Nat}{K:XE C->St C->G3 ρ}{r:ρ}(h:Zx stp dr lp n κ.m hs c i _ S K=some r) (hA:AtM n w0 σ0 κ R I om oi S a w) :
    c.wp P (fun x a w=>∃ e S',K e S'=some r/\Xt n w0 σ0 κ R I om oi S' e x a w) a w:=by
  obtain ⟨f1,Z,hg,hat,hback⟩:=hA.frame hgl;refine wp_mono (yE hg hstp hdr hlp c i _ _ _ _ h _ _ hat) fun x a w hq=>?_
  obtain ⟨e,S',h1,h2⟩:=hq.rel;grind
theorem AtM.put {R I:Nat}{om oi:Obj}(h:AtM n w0 σ0 κ R I om oi S a w) {d:Nat}{A:AV C.D}(hd:Nat.blt d n=true) (hv:∀ Z ν,VR C Z ν v A) (hok:∀ p:Nat->Prop,A.ok p):AtM n w0 σ0 κ R I om oi (S.put d A) (a.put (some d) v) w:=by
 obtain ⟨L,b,Z,PV,⟨ν,vs,ids,hA⟩,hi,hf⟩:=h;exact ⟨_,b,Z,PV,⟨ν,vs,ids,hA.put (hv _ _) (hok _)⟩,hi,hf.put (by simpa [GZ] using hd) _⟩
theorem AtM.obj {R I:Nat}{om oi:Obj}(h:AtM n w0 σ0 κ R I om oi S a w):w.heap[R]?=some om/\w.heap[I]?=some oi:=by
 obtain ⟨L,b,Z,PV,_,hi,_⟩:=h;exact ⟨hi.objAt (m:=PV.length) (by grind),hi.objAt (m:=PV.length+1) (by grind)⟩
theorem AtM.setI {R I:Nat}{om oi oi':Obj}(ho:Y4 oi=false) (ho':Y4 oi'=false) (h:AtM n w0 σ0 κ R I om oi S a w):AtM n w0 σ0 κ R I om oi' S a {w with heap:=w.heap.setIfInBounds I oi' }:=by
 obtain ⟨L,b,Z,PV,hA,hi,hf⟩:=h;have:=hi.setObj (r:=I) (o:=oi) (o':=oi') (m:=PV.length+1) ho ho' (by grind);rw [List.set_append_right _ _ (by omega)] at this;exact ⟨L,b,Z,PV,hA,by simpa using this,hf⟩
theorem AtM.drew {R I:Nat}{om oi:Obj}(h:AtM n w0 σ0 κ R I om oi S a w):AtM n w0 σ0 κ R I om oi S a w.drew:=by
 obtain ⟨L,b,Z,PV,hA,hi,hf⟩:=h;exact ⟨L,b,Z,PV,hA,hi.drew,hf⟩
theorem AtM.iter {R I:Nat}{om oi:Obj}(h:AtM n w0 σ0 κ R I om oi S a w) {it j:Nat}(hj:j < κ.m) (hit:zgd it j S=true) (hI:(κ.ν0.adr j).a=⟨I,0,none⟩):∃ L b,a.eval=opv L b/\opv L b (.tmp it) = .pointer (some ⟨I,0,none⟩):=by
 obtain ⟨L,b,Z,PV,⟨ν,vs,ids,hA⟩,hi,hf⟩:=h;refine ⟨L,b,hf.eval,?_⟩;unfold zgd at hit;simp only [g9] at hit;have hv:=hA.env it;split at hit
 ·rename_i j' e;have:=jz hit.1;subst this;rw [e] at hv;have hv:look L b it = .pointer (some ((ν.adr j').a.add 0)):=hv;rw [(hA.keep j' hj hit.2).2.1,hI] at hv;exact hv
 ·cases hit.1
theorem Xt.normal {R I:Nat}{om oi:Obj}{S':St C}{e:XE C}(h:Xt n w0 σ0 κ R I om oi S' e .normal a w):e = .normal/\AtM n w0 σ0 κ R I om oi S' a w:=by
 cases e <;> first | exact h.elim | exact ⟨rfl,h⟩
section
variable {stp:yC C}{dr:Yh C}{lp:ZP}{hs:Nat->G3 Hint}{R I:Nat}{om oi:Obj}{Q:Exit->Act->World->Prop}{y:ρ}{m:MapM}{nc nr j:Nat}
theorem zld (hgl:C.gl w0.w σ0) (hstp:xq P n κ stp) (hdr:WT P n κ dr) (hlp:Y8 lp) {nx:AV C.D}{K:XE C->St C->G3 ρ}{rst:Code}(h:(ZD stp n m.ops1 m.l1 (S.put m.x nx) fun e S'=>match e with
    | .normal=>Zx stp dr lp n κ.m hs m.cnd nc _ S' K
    |_=>none)=some y) (hA:AtM n w0 σ0 κ R I om oi (S.put m.x nx) a w)
    (hK:∀ e S' x a w,K e S'=some y->Xt n w0 σ0 κ R I om oi S' e x a w->Exit.then (rst.wp P Q) Q x a w):wpList P m.ops1 (Exit.then ((Code.seq m.cnd rst).wp P Q) Q) m.l1 a w:=by
  have hx:=zsl hgl hstp h hA;have:=YP (l2:=[]) (Q':=Exit.then ((Code.seq m.cnd rst).wp P Q) Q) (fun a w hq=>?_) (fun ch a w hq=>?_) (fun a w hq=>?_) m.l1 hx
  ·grind
  ·obtain ⟨e,S',h1,h2⟩:=hq;obtain ⟨rfl,h2⟩:=h2.normal;refine wp_seq (wp_mono (zo6 hgl hstp hdr hlp h1 h2) fun x a w hq=>?_);grind
  ·obtain ⟨e,S',h1,h2⟩:=hq;cases e <;> first | exact h2.elim | cases h1
  ·obtain ⟨e,S',h1,h2⟩:=hq;cases e <;> exact h2.elim
theorem ztO (hgl:C.gl w0.w σ0) (hstp:xq P n κ stp) (hdr:WT P n κ dr) (hlp:Y8 lp) (hj:j < κ.m) (hI:(κ.ν0.adr j).a=⟨I,0,none⟩) {ty:TypeId}{ps:String}{af:Array Edge}(hops:m.ops2.toList=⟨some m.y,.entry (.tmp m.it),ty,ps,af,none⟩::m.l2) {k:ByteArray}{K:XE C->St C->G3 ρ}
    (hrun:∀ (L:List (Nat×Value)) (b:Nat->Value) w,w.heap[R]?=some om->w.heap[I]?=some oi->opv L b (.tmp m.it) = .pointer (some ⟨I,0,none⟩)->(execOp (opv L b) ⟨some m.y,.entry (.tmp m.it),ty,ps,af,none⟩).run P w = .ok (.value (.tuple #[.string k,v])) w)
    (h:zge stp dr lp n hs κ.m nr m j k v K S=some y) (hA:AtM n w0 σ0 κ R I om oi S a w) (hK:∀ e S' x a w,K e S'=some y->Xt n w0 σ0 κ R I om oi S' e x a w->(∀ i,x = .exit i->i≠m.b)->Q x a w) :
    (Code.block m.b2 (.seq (.region id2 m.ops2 false) m.rest)).wp P Q a w:=by
  unfold zge at h;obtain ⟨hc,h⟩:=zb h;simp only [g9] at hc;refine wp_block (wp_seq (wp_region_list ?_));rw [hops];refine wpList_plain rfl fun Kw hKw=>?_
  obtain ⟨L,b,hev,hptr⟩:=hA.iter hj hc.1 hI;obtain ⟨ho1,ho2⟩:=hA.obj;unfold Oper.wp;rw [hev,hrun L b w ho1 ho2 hptr];show Kw _ w;refine hKw _ _ ?_;have hA1:=hA.put (A :=.tup [.str k,yd v]) (v :=.tuple #[.string k,v]) hc.2 (fun Z ν=>⟨[.string k,v],rfl,Rv.str,zaS v,trivial⟩) (fun p=>⟨trivial,(Yy [v]).1,trivial⟩);have hx:=zsl hgl hstp h hA1;have:=YP (l2:=[]) (Q':=Exit.then (m.rest.wp P (Exit.inBlock m.b2 Q)) (Exit.inBlock m.b2 Q)) (fun a w hq=>?_) (fun ch a w hq=>?_) (fun a w hq=>?_) m.l2 hx
  ·grind
  · obtain ⟨e,S',h1,h2⟩:=hq;obtain ⟨rfl,h2⟩:=h2.normal;refine wp_mono (zo6 hgl hstp hdr hlp h1 h2) fun x a w hq=>?_
    obtain ⟨e,S',h1,h2⟩:=hq;cases e with
    |normal=>cases x <;> first | exact h2.elim | exact hK .normal S' .normal a w h1 h2 (fun i e=>by cases e)
    |ret=>cases x <;> first | exact h2.elim | exact hK .ret S' .ret a w h1 h2 (fun i e=>by cases e)
    |pan u=>cases x <;> first | exact h2.elim | exact hK (.pan u) S' (.panic _) a w h1 h2 (fun i e=>by cases e)
    |exit i=>
      cases x <;> first | exact h2.elim | skip
      rename_i i';obtain ⟨rfl,h2⟩:=h2;have h1:(bif Nat.beq i m.b2 then K .normal S' else bif Nat.beq i m.b then none else K (.exit i) S')=some y:=h1;show if i=m.b2 then _ else _
      cases hb:Nat.beq i m.b2 with
      |true=>rw [hb] at h1;rw [jr (jz hb)];exact hK .normal S' .normal a w h1 h2 (fun i e=>by cases e)
      |false=>
        rw [hb] at h1;rw [js (fun e=>by rw [e] at hb;simp at hb)];cases hb2:Nat.beq i m.b with
        |true=>grind
        |false=>
          rw [hb2] at h1;exact hK (.exit i) S' (.exit i) a w h1 ⟨rfl,h2⟩ fun i' e=>by cases e;intro e;rw [e] at hb2;simp at hb2
  ·obtain ⟨e,S',h1,h2⟩:=hq;cases e <;> first | exact h2.elim | cases h1
  ·obtain ⟨e,S',h1,h2⟩:=hq;cases e <;> exact h2.elim
theorem ztP (hgl:C.gl w0.w σ0) (hstp:xq P n κ stp) (hdr:WT P n κ dr) (hlp:Y8 lp) (hj:j < κ.m) (hI:(κ.ν0.adr j).a=⟨I,0,none⟩) {id1:Nat}{ty ty2:TypeId}{ps ps2:String}{af af2:Array Edge}(hops:m.ops1.toList=⟨some m.x,.next (.tmp m.it) false,ty,ps,af,none⟩::m.l1) (hops2:m.ops2.toList=⟨some m.y,.entry (.tmp m.it),ty2,ps2,af2,none⟩::m.l2)
    {k:ByteArray} {v:Value} {K:XE C->St C->G3 ρ} {oi':Obj} {w':World}
    (hrun2:∀ (L:List (Nat×Value)) (b:Nat->Value) w,w.heap[R]?=some om->w.heap[I]?=some oi'->opv L b (.tmp m.it) = .pointer (some ⟨I,0,none⟩)->(execOp (opv L b) ⟨some m.y,.entry (.tmp m.it),ty2,ps2,af2,none⟩).run P w = .ok (.value (.tuple #[.string k,v])) w)
    (h:mapIter stp dr lp n hs κ.m nc nr m j S k v K=some y) (hA':AtM n w0 σ0 κ R I om oi' S a w')
    (hK:∀ e S' x a w,K e S'=some y->Xt n w0 σ0 κ R I om oi' S' e x a w->(∀ i,x = .exit i->i≠m.b)->Q x a w) :
    wpList P m.ops1 (Exit.then ((Code.seq m.cnd (.block m.b2 (.seq (.region id2 m.ops2 false) m.rest))).wp P Q) Q) m.l1 (a.put (some m.x) (.tuple #[.bool true,.string k,v])) w':=by
  unfold mapIter vv at h;obtain ⟨hc,h⟩:=zb h;simp only [g9] at hc;have hA1:=hA'.put (A :=.tup [.bool true,.str k,yd v]) (v :=.tuple #[.bool true,.string k,v]) hc.2 (fun Z ν=>⟨[.bool true,.string k,v],rfl,Rv.bool,Rv.str,zaS v,trivial⟩) (fun p=>⟨trivial,trivial,(Yy [v]).1,trivial⟩);refine zld hgl hstp hdr hlp h hA1 fun e S' x a w h1 h2=>?_
  cases e with
  |normal=>
    cases x <;> first | exact h2.elim | skip
    exact ztO hgl hstp hdr hlp hj hI hops2 hrun2 h1 h2 hK
  |ret=>cases h1
  |exit i=>cases h1
  |pan u=>cases h1
theorem ztQ (hgl:C.gl w0.w σ0) (hstp:xq P n κ stp) (hdr:WT P n κ dr) (hlp:Y8 lp) {rst:Code}{K:XE C->St C->G3 ρ}(h:Wa stp dr lp n hs κ.m nc m j K S=some y) (hA:AtM n w0 σ0 κ R I om oi S a w)
    (hK:∀ S' a w,K .normal S'=some y->AtM n w0 σ0 κ R I om oi S' a w->Q (.exit m.b) a w) :
    wpList P m.ops1 (Exit.then ((Code.seq m.cnd rst).wp P Q) Q) m.l1 (a.put (some m.x) (.tuple #[.bool false])) w:=by
  unfold Wa vv at h;obtain ⟨hc,h⟩:=zb h;simp only [g9] at hc;have hA1:=hA.put (A :=.tup [.bool false]) (v :=.tuple #[.bool false]) hc.2 (fun Z ν=>⟨[.bool false],rfl,Rv.bool,trivial⟩) (fun p=>⟨trivial,trivial⟩);refine zld hgl hstp hdr hlp h hA1 fun e S' x a w h1 h2=>?_
  cases e with
  |exit i=>
    cases x <;> first | exact h2.elim | skip
    obtain ⟨rfl,h2⟩:=h2;have h3:(bif Nat.beq i m.b then K .normal S' else none)=some y:=h1;clear h1;cases hb:Nat.beq i m.b with
    |false=>grind
    |true=>
      rw [hb,Uv] at h3;have:=jz hb;subst this;exact hK S' a w h3 h2
  |normal=>cases h1
  |ret=>cases h1
  |pan u=>cases h1
end
end
end
section
variable {C:Cod}{P:Program}{ρ:Type}[Dfr] {κ:Kp}{S:St C}{n:Nat}{w0:Start}{σ0:FS}{a:Act}{w:World}
variable {stp:yC C}{dr:Yh C}{lp:ZP}{hs:Nat->G3 Hint}{R I:Nat}{Q:Exit->Act->World->Prop}{y:ρ}{m:MapM}{nc nr j:Nat}
theorem zjh {L:List (Nat×Value)}(hf:Fits n L b a) {next:Act->World->Prop}{Q:Exit->Act->World->Prop}{w':World}(h:(execOp (opv L b) o).run P w = .ok (.value v) w') (k:next (a.put o.dst v) w'):o.upon P a next Q ((execOp a.eval o).run P w):=by rw [hf.eval,h];exact k
theorem zji {L:List (Nat×Value)}(hf:Fits n L b a) {next:Act->World->Prop}{Q:Exit->Act->World->Prop}{w':World}(h:(execOp (opv L b) o).run P w = .ok .skip w') (k:next (a.put o.dst undef) w'):o.upon P a next Q ((execOp a.eval o).run P w):=by rw [hf.eval,h];exact k
theorem zbl {k:ByteArray}{mm:Nat}{K:XE C->St C->G3 ρ}(h:mapIter stp dr lp n hs mm nc nr m j S k v K=some y):zgd m.it j S=true:=by
 unfold mapIter vv at h;obtain ⟨hc,h⟩:=zb h;grind
theorem zmp {mm:Nat}{K:XE C->St C->G3 ρ}(h:Wa stp dr lp n hs mm nc m j K S=some y):zgd m.it j S=true:=by
 unfold Wa vv at h;obtain ⟨hc,h⟩:=zb h;grind
theorem ztR (hgl:C.gl w0.w σ0) (hstp:xq P n κ stp) (hdr:WT P n κ dr) (hlp:Y8 lp) (hj:j < κ.m) (hI:(κ.ν0.adr j).a=⟨I,0,none⟩) {id1:Nat}{ty ty2:TypeId}{ps ps2:String}{af af2:Array Edge}(hops:m.ops1.toList=⟨some m.x,.next (.tmp m.it) false,ty,ps,af,none⟩::m.l1) (hops2:m.ops2.toList=⟨some m.y,.entry (.tmp m.it),ty2,ps2,af2,none⟩::m.l2)
    {K:XE C->St C->G3 ρ} (h:zgf stp dr lp n hs κ.m nc nr m j K S=some y) (hA:AtM n w0 σ0 κ R I (.map (xU m.k1 m.k2 m.v1 m.v2) 2) (.mapIter (some R) 2 #[] 2) S a w)
    (hK:∀ e S' x a w seen,K e S'=some y->Xt n w0 σ0 κ R I (.map (xU m.k1 m.k2 m.v1 m.v2) 2) (.mapIter (some R) 2 seen 2) S' e x a w->(∀ i,x = .exit i->i≠m.b)->Q x a w) :
    (Code.loop (.seq (.region id1 m.ops1 false) (.seq m.cnd (.block m.b2 (.seq (.region id2 m.ops2 false) m.rest))))).wp P (Exit.inBlock m.b Q) a w:=by
  let om:Obj :=.map (xU m.k1 m.k2 m.v1 m.v2) 2
  let oi:Array Nat->Obj:=fun s =>.mapIter (some R) 2 s 2
  let G2:=Wa stp dr lp n hs κ.m nc m j K
  let Iv:Act->World->Prop:=fun a w=>(∃ S,zgf stp dr lp n hs κ.m nc nr m j K S=some y/\AtM n w0 σ0 κ R I om (oi #[]) S a w)\/
    (∃ S,mapIter stp dr lp n hs κ.m nc nr m j S m.k2 m.v2 (zbk G2 K)=some y/\AtM n w0 σ0 κ R I om (oi #[0]) S a w)\/
    (∃ S,mapIter stp dr lp n hs κ.m nc nr m j S m.k1 m.v1 (zbk G2 K)=some y/\AtM n w0 σ0 κ R I om (oi #[1]) S a w)\/
    (∃ S s,(s = #[0,1]\/s = #[1,0])/\G2 S=some y/\AtM n w0 σ0 κ R I om (oi s) S a w)
  let μ:Act->World->Nat:=fun _ w=>match w.heap[I]? with
    |some (.mapIter _ _ s _)=>2 - s.size
    |_=>0
  have hμ:∀ {S:St C} {a w s},AtM n w0 σ0 κ R I om (oi s) S a w->μ a w=2 - s.size:=fun {S a w s} hA=>by
    show (match w.heap[I]? with | some (.mapIter _ _ s _)=>2 - s.size | _=>0)=_;rw [hA.obj.2]
  have other:∀ {e:XE C} {S':St C} {x a w s},e ≠.normal->K e S'=some y->Xt n w0 σ0 κ R I om (oi s) S' e x a w->(∀ i,x = .exit i->i≠m.b)->∀ {T:Act->World->Prop},Exit.then T (Exit.inBlock m.b Q) x a w:=by
    intro e S' x a w s hne h1 h2 h3 T;have hq:=hK e S' x a w s h1 h2 h3;cases x with
    |normal=>exact absurd h2.normal.1 hne
    |exit i=>
      show if i=m.b then _ else _
      grind
    |_=>exact hq
  refine wp_loop Iv μ (.inl ⟨S,h,hA⟩) fun a w hI0=>wp_seq (wp_region_list ?_)
  rw [hops];refine wpList_plain rfl fun Kw hKw=>?_
  unfold Oper.wp
  have round:∀ {S:St C} {k:ByteArray} {v:Value} {s:Array Nat} {w':World} {G:St C->G3 ρ},(∀ L b w,w.heap[R]?=some om->w.heap[I]?=some (oi s)->opv L b (.tmp m.it) = .pointer (some ⟨I,0,none⟩)->(execOp (opv L b) ⟨some m.y,.entry (.tmp m.it),ty2,ps2,af2,none⟩).run P w = .ok (.value (.tuple #[.string k,v])) w)->
      mapIter stp dr lp n hs κ.m nc nr m j S k v (zbk G K)=some y->AtM n w0 σ0 κ R I om (oi s) S a w'->(∀ S' a'' w'',G S'=some y->AtM n w0 σ0 κ R I om (oi s) S' a'' w''->Iv a'' w''/\μ a'' w'' < μ a w)->
      Kw (a.put (some m.x) (.tuple #[.bool true,.string k,v])) w':=by
    intro S k v s w' G hrun2 h hA' hG;refine hKw _ _ (ztP (id1:=0) hgl hstp hdr hlp hj hI hops hops2 hrun2 h hA' fun e S' x a'' w'' h1 h2 h3=>?_);cases e with
    |normal=>
      cases x <;> first | exact h2.elim | exact hG S' _ _ h1 h2
    |ret=>exact other (by simp) h1 h2 h3
    |exit i=>exact other (by simp) h1 h2 h3
    |pan u=>exact other (by simp) h1 h2 h3
  have ent0:∀ s:Array Nat,s.back?=some 0->∀ L b w,w.heap[R]?=some om->w.heap[I]?=some (oi s)->opv L b (.tmp m.it) = .pointer (some ⟨I,0,none⟩)->(execOp (opv L b) ⟨some m.y,.entry (.tmp m.it),ty2,ps2,af2,none⟩).run P w = .ok (.value (.tuple #[.string m.k1,m.v1])) w:=
    fun s hs L b w h1 h2 h3=>(zg3 h3 h2 h1).1 hs
  have ent1:∀ s:Array Nat,s.back?=some 1->∀ L b w,w.heap[R]?=some om->w.heap[I]?=some (oi s)->opv L b (.tmp m.it) = .pointer (some ⟨I,0,none⟩)->(execOp (opv L b) ⟨some m.y,.entry (.tmp m.it),ty2,ps2,af2,none⟩).run P w = .ok (.value (.tuple #[.string m.k2,m.v2])) w:=
    fun s hs L b w h1 h2 h3=>(zg3 h3 h2 h1).2 hs
  rcases hI0 with ⟨S,h,hA⟩ | ⟨S,h,hA⟩ | ⟨S,h,hA⟩ | ⟨S,s,hs,h,hA⟩
  · obtain ⟨g1,g2⟩:=zaf h;obtain ⟨L,b,hev,hptr⟩:=hA.iter hj (zbl g1) hI;have hm0:=hμ hA;rw [hev];rcases zo3 (s:=none) (d:=m.x) (ty:=ty) (ps:=ps) (af:=af) (P:=P) hptr hA.obj.2 hA.obj.1 with e | e
    · rw [e];refine round (ent0 #[0] rfl) g1 (hA.drew.setI rfl rfl) fun S' a'' w'' h1 h2=>⟨.inr (.inl ⟨S',h1,h2⟩),?_⟩
      grind
    · rw [e];refine round (ent1 #[1] rfl) g2 (hA.drew.setI rfl rfl) fun S' a'' w'' h1 h2=>⟨.inr (.inr (.inl ⟨S',h1,h2⟩)),?_⟩
      grind
  · obtain ⟨L,b,hev,hptr⟩:=hA.iter hj (zbl h) hI;have hm0:=hμ hA;rw [hev,zo4 hptr hA.obj.2 hA.obj.1];refine round (ent1 #[0,1] rfl) h (hA.setI rfl rfl) fun S' a'' w'' h1 h2=>⟨.inr (.inr (.inr ⟨S',_,.inl rfl,h1,h2⟩)),?_⟩
    grind
  · obtain ⟨L,b,hev,hptr⟩:=hA.iter hj (zbl h) hI;have hm0:=hμ hA;rw [hev,zmo hptr hA.obj.2 hA.obj.1];refine round (ent0 #[1,0] rfl) h (hA.setI rfl rfl) fun S' a'' w'' h1 h2=>⟨.inr (.inr (.inr ⟨S',_,.inr rfl,h1,h2⟩)),?_⟩
    grind
  · obtain ⟨L,b,hev,hptr⟩:=hA.iter hj (zmp h) hI;rw [hev,zo5 hs hptr hA.obj.2 hA.obj.1];refine hKw _ _ (ztQ hgl hstp hdr hlp h hA fun S' a w h1 h2=>?_);show if m.b=m.b then _ else _
    rw [jr rfl];exact hK .normal S' .normal a w s h1 h2 fun i e=>by cases e
theorem zmq (hgl:C.gl w0.w σ0) (hstp:∀ κ,xq P n κ stp) (hdr:∀ κ,WT P n κ dr) (hlp:Y8 lp) (hm:mapM P c=some m) {i:Nat}{K:XE C->St C->G3 ρ}{r:ρ}(h:zgg stp dr lp n hs κ.m m i S K=some r) (hA:At n w0 σ0 κ S a w):c.wp P (Ze n w0 σ0 κ K r) a w:=by
 obtain ⟨id,id1,id2,ops,et,rfl,hmt,hkt,hne,⟨ty1,ps1,af1,ty2,ps2,af2,ty3,ps3,af3,ty4,ps4,af4,ty5,ps5,af5,e0⟩,⟨ty6,ps6,af6,e1⟩,⟨ty7,ps7,af7,e2⟩⟩:=ztN hm;unfold zgg at h;split at h
 case h_2=>cases h
 rename_i outs g _ _ _;obtain ⟨hc,h⟩:=zb h;simp only [g9] at hc;obtain ⟨c1,c2,c3,c4,c5,c6,c7,c8⟩:=hc;obtain ⟨x0,hx0,h⟩:=jy h;split at h
 case h_2=>cases h
 rename_i j hit;obtain ⟨hjg,h⟩:=zb h;obtain ⟨y0,hy0,ho⟩:=jy h;obtain ⟨L,b,Z,PV,⟨ν,vs,ids,hAb⟩,hi,hf⟩:=hA;have l2:m.r < n:=by simpa [GZ] using c2
 have l3:m.s < n:=by simpa [GZ] using c3
 have l4:m.it < n:=by simpa [GZ] using c4
 refine wp_seq (wp_region_list ?_);rw [e0];refine wpList_plain rfl fun K1 hK1=>?_
 unfold Oper.wp;rw [hf.eval,zkL];show K1 _ _;refine hK1 _ _ ?_;have hi1:=hi.newObj (o :=.map #[] 0) rfl;have hf1:=hf.put l2 (.map (some w.heap.size));have hr1:∀ {L2:List (Nat×Value)},opv ((m.r,.map (some w.heap.size))::L2) b (.tmp m.r) = .map (some w.heap.size):=by
  intro L2;show (bif Nat.beq m.r m.r then _ else _)=_;simp
 generalize hR:w.heap.size=R at *
 have hb1:=hi1.objAt (m:=0) rfl;refine wpList_plain rfl fun K2 hK2=>?_
 unfold Oper.wp;refine zji hf1 (ze2 hmt hkt hr1 hb1 rfl) (hK2 _ _ ?_);have hi2:=hi1.setObj (m:=0) (o' :=.map (#[].push {key :=.string m.k1,val:=m.v1,born:=0}) (0+1)) rfl rfl rfl;have hb2:=hi2.objAt (m:=0) rfl;refine wpList_plain rfl fun K3 hK3=>?_
 unfold Oper.wp;refine zji hf1 (ze2 hmt hkt hr1 hb2 (by simp [Instr.findNow,Instr.sameNow,hne])) (hK3 _ _ ?_);have hi3:=hi2.setObj (m:=0) (o' :=.map ((#[].push {key :=.string m.k1,val:=m.v1,born:=0}).push {key :=.string m.k2,val:=m.v2,born:=0+1}) (0+1+1)) rfl rfl rfl;have hb3:=hi3.objAt (m:=0) rfl;refine wpList_plain rfl fun K4 hK4=>?_
 unfold Oper.wp;refine zjh (v :=.map (some R)) hf1 (congrArg (fun v=>Result.ok (Next.value v) _) (hr1 (L2:=L))) (hK4 _ _ ?_);have hf2:=hf1.put l3 (.map (some R));have hs2:opv ((m.s,.map (some R))::(m.r,.map (some R))::L) b (.tmp m.s) = .map (some R):=by
  show (bif Nat.beq m.s m.s then _ else _)=_;simp
 refine wpList_plain rfl fun K5 hK5=>?_
 unfold Oper.wp;refine zjh hf2 (zjf hmt hs2 hb3) (hK5 _ _ ?_);have hi3:Inv w0 σ0 Z (.obj R (.map (xU m.k1 m.k2 m.v1 m.v2) 2)::PV) _:=hi3;clear hb3;generalize hw3:({heap:=_,tape:=_,drawn:=_,os:=_,output:=_}:World)=w3 at hi3 |-
 have hi4:=hi3.newObj (o :=.mapIter (some R) 2 #[] 2) rfl;generalize hI:w3.heap.size=I at *
 have hf3:=hf2.put l4 (.pointer (some ⟨I,0,none⟩));have hAs:=((hAb.put (d:=m.r) (A :=.und) (v :=.map (some R)) trivial trivial).put (d:=m.s) (A :=.und) (v :=.map (some R)) trivial trivial).new (id:=nid m.it 0) (Zi c1) (Yx κ m.it 0) (e :=.cell []) (v :=.slice none 0 0) (a:=⟨⟨I,0,none⟩,fun _ =>.slice none 0 0⟩) (us:=[]) (A :=.pc (nid m.it 0) 0) (p :=.cell ⟨I,0,none⟩ []) (u :=.pointer (some ⟨I,0,none⟩)) (d:=m.it) (fun ν' h1 h2=>⟨(by show Value.pointer (some _) = .pointer (some ((ν'.adr _).add 0));rw [h2];simp [Addr.add,Ent.at]),by show nid m.it 0=nid m.it 0;rfl⟩) rfl rfl (fun cs hcs=>by cases hcs;exact ⟨trivial,trivial⟩) (by simp [Ent.at,Addr.add]);have hat:AtM n w0 σ0 κ R I (.map (xU m.k1 m.k2 m.v1 m.v2) 2) (.mapIter (some R) 2 #[] 2) (zjg m S) (Act.put (Act.put (a.put (some m.r) (.map (some R))) (some m.s) (.map (some R))) (some m.it) (.pointer (some ⟨I,0,none⟩))) (w3.alloc (.mapIter (some R) 2 #[] 2)):=by
  refine ⟨_,b,Z,_,hAs,hi4.sub_own fun gg k=>?_,hf3⟩;obtain ⟨f1,f2,q1,s1,k1,k2,d1⟩:=k.uncons;obtain ⟨f3,f4,q2,s2,k3,k4,d2⟩:=s1.uncons;have d3:f3.disj f1:=(d1.mono (.refl _) k3).symm;refine Sep.append (A :=.cell ⟨I,0,none⟩ []::PV) (B:=[.obj R _,.obj I _]) (h1:=f4) (h2:=f3.or f1) (.cons (h1:=zc.none) ⟨rfl,fun j u hj=>by simp at hj⟩ s2 (zc.none_le _) (.refl _) (zc.none_disj _)) (.cons q2 (Sep.one q1) (zc.le_or _ _) (zc.le_or_right d3) d3) (k4.trans k2) (zc.or_le (k3.trans k2) k1) ?_;exact (zc.or_disj d2 (d1.mono (.refl _) k4)).symm
 obtain ⟨f1,σ1,hg1,hat1,hback⟩:=hat.frame hgl;have hat2:AtM n w0 σ0 κ R I _ _ (g.open x0) _ _:=hback (e :=.normal) (x :=.normal) (At.close hx0 hat1);obtain ⟨L2,b2,σ2,PV2,⟨ν2,vs2,ids2,hA2⟩,hi2',hf2'⟩:=hat2;have h64:=Uf c6;have hmg:=Uf c7;have hj:j < g.es.length:=by simpa [GZ] using hjg
 have hIj:(ν2.adr j).a=⟨I,0,none⟩:=by
  have hv:=hA2.env m.it;rw [hit] at hv;have hv:look L2 b2 m.it = .pointer (some ((ν2.adr j).a.add 0)):=hv;have h3:=hf3.get m.it;have h4:=hf2'.get m.it;rw [h3] at h4;have h5:look ((m.it,.pointer (some ⟨I,0,none⟩))::(m.s,.map (some R))::(m.r,.map (some R))::L) b m.it = .pointer (some ⟨I,0,none⟩):=by
   show (bif Nat.beq m.it m.it then _ else _)=_;simp
  rw [h5,hv] at h4;simp [Addr.add] at h4;rw [<- h4]
 let κ':Kp:=⟨g.es.length,h64,{hdr:=ν2.hdr,adr:=fun k=>⟨(ν2.adr k).a,bif Nat.blt k κ.m && !ZT ((g.open x0).heap k) then (κ.ν0.adr k).sub else (ν2.adr k).sub⟩ }⟩
 have hat3:AtM n w0 σ0 κ' R I (.map (xU m.k1 m.k2 m.v1 m.v2) 2) (.mapIter (some R) 2 #[] 2) (g.open x0) _ _:=⟨L2,b2,σ2,PV2,⟨ν2,vs2,ids2,hA2.rekey fun k _ _=>⟨rfl,rfl,fun hf=>by show _=(bif Nat.blt k κ.m && !ZT ((g.open x0).heap k) then _ else _);rw [hf];simp⟩⟩,hi2',hf2'⟩;have hkk:∀ k,k < κ.m->ν2.hdr k=κ.ν0.hdr k/\(ν2.adr k).a=(κ.ν0.adr k).a/\(ZT ((g.open x0).heap k)=true->(ν2.adr k).sub=(κ.ν0.adr k).sub):=fun k hk=>by
  refine hA2.keep k hk ((xr g x0 k).2 ?_);have hl:k < g.es.length:=by omega
  refine ⟨g.es[k],GI hl,?_⟩;have:=Uu.1 c8 g.es[k] (List.mem_iff_getElem?.2 ⟨k,by rw [Ug hk,GI hl]⟩);simpa using this
 have downA:∀ {S':St C} {L b Z PV},zz κ' S' L b Z PV->zz κ S' L b Z PV:=by
  rintro S' L b Z PV ⟨ν,vs,ids,hA⟩;refine ⟨ν,vs,ids,hA.rekey fun k hk hs=>?_⟩;have h1:=hA.keep k (show k < g.es.length by omega) hs;have h2:=hkk k hk;refine ⟨h1.1.trans h2.1,h1.2.1.trans h2.2.1,fun hf=>(h1.2.2 hf).trans ?_⟩;show (bif Nat.blt k κ.m && !ZT ((g.open x0).heap k) then (κ.ν0.adr k).sub else (ν2.adr k).sub)=_;have hb:Nat.blt k κ.m=true:=by rw [GZ];exact hk
  rw [hb];cases hx:ZT ((g.open x0).heap k) with
  |false=>rfl
  |true=>exact h2.2.2 hx
 have dropI:∀ {Z PV w om oi},Inv w0 σ0 Z (PV++[.obj R om,.obj I oi]) w->Inv w0 σ0 Z PV w:=fun {Z PV w om oi} hi=>hi.sub_own fun gg k=>by
  obtain ⟨q1,q2,s1,s2,k1,k2,d⟩:=k.split;exact s1.mono (.refl _) k1
 have down:∀ {S':St C} {a w oi},AtM n w0 σ0 κ' R I (.map (xU m.k1 m.k2 m.v1 m.v2) 2) oi S' a w->At n w0 σ0 κ S' a w:=by
  rintro S' a w oi ⟨L,b,Z,PV,hA,hi,hf⟩;exact ⟨L,b,Z,PV,downA hA,dropI hi,hf⟩
 refine wp_block (ztR (κ:=κ') (Q:=Ze n w0 σ0 κ K r) hgl (hstp κ') (hdr κ') hlp hj hIj e1 e2 hy0 hat3 fun e S' x a w seen h1 h2 _=>?_);refine yW h1 ho (x:=x) ?_;unfold Xt at h2;unfold zeb;split at h2
 ·exact down h2
 ·exact ⟨h2.1,down h2.2⟩
 ·exact down h2
 ·rename_i v chain;obtain ⟨u,L,b,Z,PV,h3,h4,hA,hi,hf⟩:=h2;exact ⟨u,L,b,Z,PV,h3,h4,downA hA,dropI hi,hf⟩
 grind
end
section
variable {C:Cod}{P:Program}{ρ:Type}
noncomputable def zaz (P:Program) (stp:yC C) (dr:Yh C) (lp:ZP) (n:Nat) (hs:Nat->G3 Hint) (mm:Nat):Code->Nat->St C->(XE C->St C->G3 ρ)->G3 ρ
 | .seq a c,i,S,K=>match mapM P a with
  |some m=>zgg stp dr lp n hs mm m (i+1) S fun e S'=>match e with
   | .normal=>zaz P stp dr lp n hs mm c (i+1+xv a) S' K
   |e=>K e S'
  |none=>Zx stp dr lp n mm hs a (i+1) _ S fun e S'=>match e with
   | .normal=>zaz P stp dr lp n hs mm c (i+1+xv a) S' K
   |e=>K e S'
 |c,i,S,K=>Zx stp dr lp n mm hs c i _ S K
theorem zo7 [Dfr] {n:Nat}{κ:Kp}{w0:Start}{σ0:FS}{stp:yC C}{dr:Yh C}{lp:ZP}{hs:Nat->G3 Hint}(hgl:C.gl w0.w σ0) (hstp:∀ κ,xq P n κ stp) (hdr:∀ κ,WT P n κ dr) (hlp:Y8 lp) {K:XE C->St C->G3 ρ}{r:ρ} :
    ∀ (c:Code) (i:Nat) {S:St C},zaz P stp dr lp n hs κ.m c i S K=some r->∀ {a:Act} {w:World},At n w0 σ0 κ S a w->c.wp P (Ze n w0 σ0 κ K r) a w:=by
  intro c
  induction c with
  |seq x c _ ih=>
    intro i S h a w hA
    have fin:∀ {a w},Code.wp P x (Ze n w0 σ0 κ (fun e S'=>match e with
      | .normal=>zaz P stp dr lp n hs κ.m c (i+1+xv x) S' K
      |e=>K e S') r) a w->(Code.seq x c).wp P (Ze n w0 σ0 κ K r) a w:=by
      intro a w h;refine wp_seq (wp_mono h fun e a w hq=>?_);cases e with
      |normal=>obtain ⟨S',hk,hA'⟩:=hq;exact ih _ hk hA'
      |exit j=>exact hq
      |ret=>exact hq
      |panic ch=>obtain ⟨v,S',hk,hA'⟩:=hq;exact ⟨v,S',hk,hA'⟩
      |goto l=>exact hq.elim
      |outgrown=>exact hq.elim
    unfold zaz at h;split at h
    ·rename_i m hm;exact fin (zmq hgl hstp hdr hlp hm h hA)
    ·exact fin (yE hgl (hstp κ) (hdr κ) hlp x (i+1) _ _ _ _ h _ _ hA)
  |_=>intro i S h a w hA;exact yE hgl (hstp κ) (hdr κ) hlp _ i _ _ _ _ h _ _ hA
noncomputable def zmr (q:Opts) (Γ:List (Spec C)) (lp:ZP) (P:Program) (fn:Func) (nr:Nat) (ins:Sig) (outs:List (XK×Sig)) (hs:Nat->G3 Hint) (x:ins.ty C):G3 (zi C outs):=
  match fn.body with
  |none=>none
  |some c=>chk (Nat.ble ins.ts.length fn.ntmps && (Nat.beq fn.results.toList.length nr && (Nat.ble nr 4 && Nat.ble ins.es.length 64)))
      (zaz P (YM q Γ P fn.ntmps) (drw q Γ P fn.ntmps) lp fn.ntmps hs ins.es.length c 0 (ins.open x) fun e S=>match e with
        | .ret=>(wx P S fn.results.toList).bind fun As=>zR ins.es.length outs .ret (Y9 As S.heap)
        | .normal=>(wx P S fn.results.toList).bind fun As=>zR ins.es.length outs .ret (Y9 As S.heap)
        | .pan v=>zR ins.es.length outs (.pan v) (Y9 [] S.heap)
        |_=>none)
theorem ztS  {Γ : List (Spec C)} (hΓ : ∀ s ∈ Γ, s.OK P) (hm : P.follows .mixedOrders = true) {lp : ZP} (hlp : Y8 lp)   {nr : Nat}   (hs : Nat -> G3 Hint) (hf : P.funcs[f]? = some fn) (hnm : (fn.name == "runtime.NumGoroutine") = false) (hbs : fn.body.isNone = false) {F : ins.ty C -> G3 (zi C outs)} (hF : ∀ x, F x = zmr q Γ lp P fn nr ins outs hs x) :
    Spec.OK P ⟨f,nr,ins,outs,F⟩:=by
  refine ⟨fn,hf,hnm,hbs,?_⟩;intro x r hr κ st Z hg PV ν vs ids args hm' hargs hA hpre;have hr:zmr q Γ lp P fn nr ins outs hs x=some r:=by rw [<- hF];exact hr
  unfold zmr at hr;split at hr
  ·cases hr
  rename_i c hb;obtain ⟨hc,hr⟩:=zb hr;simp only [g9] at hc;obtain ⟨c1,c4,c2,c3⟩:=hc;have c4:=jz c4;have c2:fn.results.toList.length<=4:=by rw [c4];exact Uf c2
  have hm':κ.m=ins.es.length:=hm';rw [<- hm'] at hr;have hargs:args.length=ins.ts.length:=hargs;have hn:args.length<=fn.ntmps:=by rw [hargs];exact Uf c1
  have hat:At fn.ntmps st Z κ (ins.open x) {tmps:=args.toArray++Array.replicate (fn.ntmps - args.toArray.size) undef,defers:=[]} st.w:=⟨_,_,Z,PV,⟨ν,vs,ids,hA⟩,hpre.inv,W4 hn⟩;refine calls_of_wp hf hb (wp_mono (zo7 hg (fun κ=>zdc hΓ fn.ntmps κ) (fun κ=>ze1 hΓ hm fn.ntmps κ) hlp c 0 hr hat) ?_);intro e a w hq;cases e with
  |normal=>obtain ⟨S',hk,hA'⟩:=hq;exact ⟨hA'.defers,zcj c4 c2 hk hA'⟩
  |ret=>obtain ⟨S',hk,hA'⟩:=hq;exact ⟨hA'.defers,zcj c4 c2 hk hA'⟩
  |exit j=>obtain ⟨S',hk,hA'⟩:=hq;cases hk
  |panic chain=>
    obtain ⟨v,S',hk,hA'⟩:=hq;obtain ⟨u,L,b,Z',PV',rfl,hp,⟨ν',vs',ids',hA'⟩,hi',hf'⟩:=hA';refine ⟨hf'.defers,?_⟩;have hav:AbsL κ (Y9 [] S'.heap) ν' vs' ids' [] (fun _=>undef) Z' PV':=za3 (us:=[]) hA' trivial trivial;refine Yp hk fun g y hy e' he=>?_
    cases e' <;> first | exact he.elim | skip
    obtain ⟨s,z,hz,rfl⟩:=he;obtain ⟨σ2,PV2,hl,hi2,h2⟩:=ww hy ⟨ν',vs',ids',hav⟩ hi';exact ⟨u,σ2,PV2,rfl,hi2,hp.again hl hz,h2⟩
  |goto l=>exact hq.elim
  |outgrown=>exact hq.elim
end
end Go.Px
