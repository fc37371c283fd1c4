/- Part A4: PxM16 PxM17 PxM18 PxM19 PxM20 PxMP. -/
import Derived.Test.YtpcipfnohfefhaaGreatDoorB3
import Derived.Scope
set_option linter.unusedSectionVars false
set_option linter.unusedVariables false
set_option linter.unusedSimpArgs false
namespace Go.Px
section
theorem U5:∀{α:Type _}{β:Type _}{f:α->β}{l₁ l₂:List α},List.map f (l₁++l₂)=List.map f l₁++List.map f l₂:=@List.map_append
theorem U4:∀{α:Type _}{b:α}{α_1:Type _}{x:Option α_1}{f:α_1->α},Option.map f x=some b↔∃ a,x=some a/\f a=b:=@Option.map_eq_some_iff
variable [Dfr]
section
variable {κ:Kp}{C:Cod}{S:St C}{n:Nat}{w0:Start}{σ0:FS}{P:Program}{ρ:Type}{stp:yC C}{dr:Yh C}{lp:ZP}{hs:Nat->G3 Hint}
def At (n:Nat) (w0:Start) (σ0:FS) (κ:Kp) (S:St C) (a:Act) (w:World):Prop:=∃ L b Z PV,zz κ S L b Z PV/\Inv w0 σ0 Z PV w/\Fits n L b a
def AtP (n:Nat) (w0:Start) (σ0:FS) (κ:Kp) (v:AV C.D) (S:St C) (chain:List PanicEntry) (a:Act) (w:World):Prop:=∃ u L b Z PV,chain=[{v:=u,recovered:=false}]/\x8 C Z u v/\zz κ S L b Z PV/\Inv w0 σ0 Z PV w/\Fits n L b a
def Ze (n:Nat) (w0:Start) (σ0:FS) (κ:Kp) (K:XE C->St C->G3 ρ) (r:ρ):Exit->Act->World->Prop
 | .normal,a,w=>∃ S',K .normal S'=some r/\At n w0 σ0 κ S' a w
 | .exit i,a,w=>∃ S',K (.exit i) S'=some r/\At n w0 σ0 κ S' a w
 | .ret,a,w=>∃ S',K .ret S'=some r/\At n w0 σ0 κ S' a w
 | .panic chain,a,w=>∃ v S',K (.pan v) S'=some r/\AtP n w0 σ0 κ v S' chain a w
 |_,_,_=>False
def zeb (n:Nat) (w0:Start) (σ0:FS) (κ:Kp) (S:St C) (e:XE C) (x:Exit) (a:Act) (w:World):Prop:=match e,x with
 | .normal,.normal=>At n w0 σ0 κ S a w
 | .exit i,.exit j=>i=j/\At n w0 σ0 κ S a w
 | .ret,.ret=>At n w0 σ0 κ S a w
 | .pan v,.panic chain=>AtP n w0 σ0 κ v S chain a w
 |_,_=>False
def ziY (P:Program) (n:Nat) (κ:Kp) (stp:Oper->St C->G3 (Out C)):Prop:=
 ∀ (w0:Start) (σ0:FS),C.gl w0.w σ0->∀ (o:Oper) (S:St C) L b Z PV,zz κ S L b Z PV->OpA κ P n w0 σ0 o (stp o S) L b Z PV
def xq (P:Program) (n:Nat) (κ:Kp) (stp:yC C):Prop:=ziY P n κ (fun o S=>stp o S _ some)/\∀ (o:Oper) (S:St C) (ρ:Type) (k:Out C->G3 ρ),stp o S ρ k=(stp o S _ some).bind k
def WT (P:Program) (n:Nat) (κ:Kp) (dr:Yh C):Prop:=
 ∀ (w0:Start) (σ0:FS),C.gl w0.w σ0->∀ (ρ:Type) (id:Nat) (ops:Array Oper) (ord:List (Nat×Bool)) (S:St C) (K:XE C->St C->G3 ρ) (r:ρ),dr ops ord ρ S K=some r->∀ (a:Act) (w:World),At n w0 σ0 κ S a w->(Code.region id ops true).wp P (Ze n w0 σ0 κ K r) a w
def Y8 (lp:ZP):Prop:=∀ {s β:Type}(f:s->G3 (Step s β)) (x:s) (y:β),lp f x=some y->∃ k,Z2 f k x=some y
omit [Dfr] in
theorem x8.mono {Z τ:FS}(l:Z.le τ) {u:Value}{v:AV C.D}(h:x8 C Z u v):x8 C τ u v:=⟨h.1,fun ν hν=>(h.2 ν hν).mono l⟩
theorem At.close {g:Sig}{x:g.ty C}{a:Act}{w:World}(hc:g.close κ.m S=some x) (h:At n w0 σ0 κ S a w):At n w0 σ0 κ (g.open x) a w:=by
 obtain ⟨L,b,Z,PV,hA,hi,hf⟩:=h;obtain ⟨Z',PV',hi',h'⟩:=zcD hc hA hi;exact ⟨L,b,Z',PV',h',hi',hf⟩
theorem ww {g:Sig}{x:g.ty C}{L:List (Nat×Value)}{b:Nat->Value}{Z:FS}{PV:List Priv}{w:World}(hc:g.close κ.m S=some x) (hA:zz κ S L b Z PV) (hi:Inv w0 σ0 Z PV w):∃ Z' PV',Z.le Z'/\Inv w0 σ0 Z' PV' w/\zz κ (g.open x) L b Z' PV':=by
 obtain ⟨g1,hsep,hg⟩:=hi.own;obtain ⟨Z',PV',hi',h'⟩:=zcD (w0:=⟨w,g1⟩) (σ0:=Z) hc hA (w:=w) ⟨hi.sub,.refl Z,fun b o v hb =>.inl hb,⟨g1,hsep,hg.sub,hg.apart,fun b i e =>.inr e⟩,.refl w g1⟩;refine ⟨Z',PV',hi'.le,?_,h'⟩;obtain ⟨g2,hsep2,hg2⟩:=hi'.own;refine ⟨hi'.sub,hi.le.trans hi'.le,fun b o v hb=>?_,⟨g2,hsep2,hg2.sub,hg2.apart,fun b i e=>?_⟩,hi.ext⟩
 ·rcases hi'.fresh b o v hb with z | z | z
  ·exact hi.fresh b o v z
  ·have:=hi'.lt hb;grind
  ·exact .inr (hg.mine b (o+1) z)
 ·rcases hg2.mine b i e with z | z
  ·obtain ⟨y,hy⟩:=GN.1 e;have:=Bit.at_lt (hg2.sub b i y hy);grind
  ·exact hg.mine b i z
theorem x8.again {Z τ:FS}(l:Z.le τ) {u:Value}{v:AV C.D}(h:x8 C Z u v) {s:Sh}{y:s.ty C}(hy:Sh.get (fun _=>none) s v=some y):x8 C τ u (Sh.put (fun k=>k) s y):=by
 refine ⟨AV.ok_mono (fun j hj=>?_) (Sh.put_ok (ρ:=fun k=>k) s hy),fun ν' hν'=>?_⟩
 ·obtain ⟨k,id,e,_⟩:=hj;cases e
 ·exact Sh.get_put (ν:=ν') (B:=fun _=>none) ⟨(fun k id e=>by cases e),hν'⟩ s hy ((h.2 ν' hν').mono l)
theorem AtP.close {g:Sig}{x:g.ty C}{a:Act}{w:World}{v:AV C.D}{chain:List PanicEntry}{s:Sh}{y:s.ty C}(hy:Sh.get (fun _=>none) s v=some y) (hc:g.close κ.m S=some x) (h:AtP n w0 σ0 κ v S chain a w):AtP n w0 σ0 κ (Sh.put (fun k=>k) s y) (g.open x) chain a w:=by
 obtain ⟨u,L,b,Z,PV,e,hp,hA,hi,hf⟩:=h;obtain ⟨Z',PV',hl,hi',h'⟩:=ww hc hA hi;exact ⟨u,L,b,Z',PV',e,hp.again hl hy,h',hi',hf⟩
theorem zgQ {k:XK}{g:Sig}{e:XE C}{y:XK.ty C k g}{K:XE C->St C->G3 ρ}{r:ρ}(hc:zfa κ.m k g e S=some y) (ho:yQ k g y K=some r) {x:Exit}{a:Act}{w:World} :
    zeb n w0 σ0 κ S e x a w->Ze n w0 σ0 κ K r x a w:=by
  intro h;cases e with
  |normal=>
    cases x <;> first | exact h.elim | skip
    cases k <;> first | (cases hc;done) | exact ⟨_,ho,At.close hc h⟩
  |exit i=>
    cases x <;> first | exact h.elim | skip
    obtain ⟨rfl,h⟩:=h;cases k <;> first | (cases hc;done) | skip
    obtain ⟨hij,hc2⟩:=zb hc;obtain rfl:=jz hij;exact ⟨_,ho,At.close hc2 h⟩
  |ret=>
    cases x <;> first | exact h.elim | skip
    cases k <;> first | (cases hc;done) | exact ⟨_,ho,At.close hc h⟩
  |pan v=>
    cases x <;> first | exact h.elim | skip
    cases k <;> first | (cases hc;done) | skip
    rename_i chain s;obtain ⟨z,hz,hc2⟩:=jy hc;obtain ⟨x',hx',hc3⟩:=jy hc2;cases hc3;have e1:Sh.hd (s:=s) (l:=g.shs) (Sh.pk (s:=s) (l:=g.shs) z x')=z:=Sh.hd_pk;have e2:Sh.tl (s:=s) (l:=g.shs) (Sh.pk (s:=s) (l:=g.shs) z x')=x':=Sh.tl_pk;have ho2:K (.pan (Sh.put (fun k=>k) s (Sh.hd (s:=s) (l:=g.shs) (Sh.pk (s:=s) (l:=g.shs) z x')))) (g.open (Sh.tl (s:=s) (l:=g.shs) (Sh.pk (s:=s) (l:=g.shs) z x')))=some r:=ho;rw [e1,e2] at ho2;exact ⟨_,_,ho2,AtP.close hz hx' h⟩
theorem yW:∀ {outs:List (XK×Sig)}{e:XE C}{y:zi C outs}{K:XE C->St C->G3 ρ}{r:ρ},zR κ.m outs e S=some y->zQ outs y K=some r->∀ {x:Exit}{a:Act}{w:World},
    zeb n w0 σ0 κ S e x a w->Ze n w0 σ0 κ K r x a w
  |[],e,y,K,r,hc,ho,x,a,w,h=>by cases hc
  |[o],e,y,K,r,hc,ho,x,a,w,h=>zgQ hc ho h
  |o::o2::l,e,y,K,r,hc,ho,x,a,w,h=>by
    unfold zR at hc;unfold zQ at ho;cases hi:XK.is o.1 e with
    |true=>
      rw [hi,Uv] at hc;split at hc
      ·rename_i z hz;cases hc;exact zgQ hz ho h
      ·obtain ⟨z,hz,rfl⟩:=U4.1 hc;exact yW hz ho h
    |false=>
      rw [hi,G8] at hc;obtain ⟨z,hz,rfl⟩:=U4.1 hc;exact yW hz ho h
theorem Ze.out {outs:List (XK×Sig)}{y:zi C outs}{K:XE C->St C->G3 ρ}{r:ρ}(ho:zQ outs y K=some r) {x:Exit}{a:Act}{w:World}(h:Ze n w0 σ0 κ (fun e S'=>zR κ.m outs e S') y x a w):Ze n w0 σ0 κ K r x a w:=by
 cases x with
 |normal=>obtain ⟨S',hc,h⟩:=h;exact yW hc ho (e :=.normal) h
 |exit i=>obtain ⟨S',hc,h⟩:=h;exact yW hc ho (e :=.exit i) (x :=.exit i) ⟨rfl,h⟩
 |ret=>obtain ⟨S',hc,h⟩:=h;exact yW hc ho (e :=.ret) (x :=.ret) h
 |panic chain=>obtain ⟨v,S',hc,h⟩:=h;exact yW hc ho (e :=.pan v) (x :=.panic chain) h
 |goto l=>exact h.elim
 |outgrown=>exact h.elim
theorem At.skip {a:Act}{w:World}(h:At n w0 σ0 κ S a w) {d:Nat}(hd:Nat.blt d n=true):At n w0 σ0 κ (S.put d (.tup [])) (a.put (some d) undef) w:=by
 obtain ⟨L,b,Z,PV,⟨ν,vs,ids,hA⟩,hi,hf⟩:=h;exact ⟨_,b,Z,PV,⟨ν,vs,ids,hA.put (v:=undef) ⟨[],rfl,trivial⟩ trivial⟩,hi,hf.put (by simpa [GZ] using hd) _⟩
theorem At.lit {a:Act}{w:World}(h:At n w0 σ0 κ S a w) {d:Nat}{q:Bool}(he:S.env d = .bool q):At n w0 σ0 κ (S.put d (.bool q)) a w:=by
 obtain ⟨L,b,Z,PV,⟨ν,vs,ids,hA⟩,hi,hf⟩:=h;have:S.put d (.bool q)=S:=by
  unfold St.put;have:upd S.env d (.bool q)=S.env:=by
   funext t;by_cases e:t=d
   ·subst e;rw [zl,he]
   ·rw [zm e]
  rw [this]
 rw [this];exact ⟨L,b,Z,PV,⟨ν,vs,ids,hA⟩,hi,hf⟩
theorem At.yield {a:Act}{w:World}(h:At n w0 σ0 κ S a w) {ops:Array Oper}{j dg:Nat}(hj:(ops[j]?).bind (·.dst)=some dg):(∀ q,S.env dg = .bool q->yielded ops a.tmps j=some q)/\(S.env dg = .tup []->yielded ops a.tmps j=none):=by
 obtain ⟨L,b,Z,PV,⟨ν,vs,ids,hA⟩,hi,hf⟩:=h;have hy:=congrFun (hf.yielded ops) j;have hv:=hA.env dg;rw [hy];unfold zd2;rw [hj];refine ⟨fun q e=>?_,fun e=>?_⟩
 ·rw [e] at hv;show (match look L b dg with | .bool c=>some c | _=>none)=some q;have:=hv.bool_inv;grind
 ·rw [e] at hv;obtain ⟨us,e2,h3⟩:=hv;grind
theorem zoC (hgl:C.gl w0.w σ0) (hstp:xq P n κ stp) {o:Oper}{next:St C->(XE C->St C->G3 ρ)->G3 ρ}{K:XE C->St C->G3 ρ}{r:ρ}
    (h:(stp o S ρ fun out=>match out with
      | .go S'=>next S' K
      | .pan v S'=>K (.pan v) S')=some r) {a:Act} {w:World} (hA:At n w0 σ0 κ S a w) {Kw:Act->World->Prop} (hK:∀ S' a' w',next S' K=some r->At n w0 σ0 κ S' a' w'->Kw a' w') :
    o.wp P a w Kw (Ze n w0 σ0 κ K r):=by
  obtain ⟨L,b,Z,PV,hA,hi,hf⟩:=hA;rw [hstp.2] at h;obtain ⟨out,ho,h⟩:=jy h;refine hstp.1 w0 σ0 hgl o S L b Z PV hA out ho a w hi hf Kw _ ?_ ?_
  ·rintro S' rfl L' Z' PV' a' w' hi' hf' hA';exact hK S' a' w' h ⟨L',b,Z',PV',hA',hi',hf'⟩
  ·rintro v S' rfl u Z' PV' w' hi' hA' hp;exact ⟨v,S',h,u,L,b,Z',PV',rfl,hp,hA',hi',hf⟩
theorem Yz (hgl:C.gl w0.w σ0) (hstp:xq P n κ stp) {ops:Array Oper}:∀ (l:List Oper) {S:St C}{K:XE C->St C->G3 ρ}{r:ρ},ZD stp n ops l S K=some r->∀ {a:Act}{w:World},At n w0 σ0 κ S a w->wpList P ops (Ze n w0 σ0 κ K r) l a w
  |[],S,K,r,h,a,w,hA=>⟨S,h,hA⟩
  |o::l,S,K,r,h,a,w,hA=>by
    unfold ZD at h;split at h
    · rename_i hg;refine wpList_plain hg fun Kw hK=>?_
      exact zoC hgl hstp (next:=fun S K=>ZD stp n ops l S K) h hA fun S' a' w' h' hA'=>hK _ _ (Yz hgl hstp l h' hA')
    · rename_i j want hg;split at h
      ·cases h
      · rename_i dg hj;have hy:=hA.yield hj;have skip:∀ {S:St C},At n w0 σ0 κ S a w->ZD.skip n o S K (fun S K=>ZD stp n ops l S K)=some r->∀ (Kw:Act->World->Prop),(∀ a w,wpList P ops (Ze n w0 σ0 κ K r) l a w->Kw a w)->Kw (a.put o.dst undef) w:=by
          intro S hA h Kw hK;unfold ZD.skip at h;split at h
          ·rename_i d hd;obtain ⟨hn,h⟩:=zb h;rw [hd];exact hK _ _ (Yz hgl hstp l h (hA.skip hn))
          ·rename_i hd;rw [hd];exact hK _ _ (Yz hgl hstp l h hA)
        have go:∀ {S:St C} {run:Bool},At n w0 σ0 κ S a w->ZD.go stp n o l S run K (fun S K=>ZD stp n ops l S K)=some r->∀ (Kw:Act->World->Prop),(∀ a w,wpList P ops (Ze n w0 σ0 κ K r) l a w->Kw a w)->
            (if run=true then o.wp P a w Kw (Ze n w0 σ0 κ K r) else Kw (a.put o.dst undef) w):=by
          intro S run hA h Kw hK;unfold ZD.go at h;cases run with
          |true=>
            rw [jr rfl];exact zoC hgl hstp (next:=fun S K=>ZD stp n ops l S K) h hA fun S' a' w' h' hA'=>hK _ _ (Yz hgl hstp l h' hA')
          |false=>exact skip hA h Kw hK
        split at h
        · rename_i q e;have hyq:=hy.1 q e;refine wpList_step fun Kw hK=>?_
          have hw:Region.wanted o (yielded ops a.tmps)=(q == want):=by simp [Region.wanted,hg,hyq]
          rw [hw];cases q with
          |true=>
            rw [jr rfl] at h;have:=go (run:=want) (hA.lit e) h Kw hK;grind
          |false=>
            rw [js (by simp)] at h;have:=go (run:= !want) (hA.lit e) h Kw hK;grind
        · rename_i e;have hyn:=hy.2 e;refine wpList_step fun Kw hK=>?_
          have hw:Region.wanted o (yielded ops a.tmps)=false:=by simp [Region.wanted,hg,hyn]
          rw [hw];exact skip hA h Kw hK
        ·cases h
def xH (P:Program) (n:Nat) (w0:Start) (σ0:FS) (κ:Kp) (c:Code) (run:(ρ:Type)->St C->(XE C->St C->G3 ρ)->G3 ρ):Prop:=
 ∀ (ρ:Type) (S:St C) (K:XE C->St C->G3 ρ) (r:ρ),run ρ S K=some r->∀ (a:Act) (w:World),At n w0 σ0 κ S a w->c.wp P (Ze n w0 σ0 κ K r) a w
theorem Xr {c:Code}{i:Nat}{raw:(ρ:Type)->St C->(XE C->St C->G3 ρ)->G3 ρ}(h:xH P n w0 σ0 κ c raw):xH P n w0 σ0 κ c (fun _ S K=>Zx.wrap κ.m hs i S K raw):=by
 intro ρ S K r hr a w hA;unfold Zx.wrap at hr;split at hr
 ·rename_i outs _;obtain ⟨y,hy,ho⟩:=jy hr;exact wp_mono (h _ _ _ _ hy _ _ hA) fun e a w hq=>hq.out ho
 ·exact h _ _ _ _ hr _ _ hA
theorem yE (hgl:C.gl w0.w σ0) (hstp:xq P n κ stp) (hdr:WT P n κ dr) (hlp:Y8 lp):∀ (c:Code) (i:Nat),xH P n w0 σ0 κ c (fun ρ S K=>Zx stp dr lp n κ.m hs c i ρ S K)
  | .skip,i=>by
    show xH P n w0 σ0 κ .skip fun _ S K=>Zx.wrap κ.m hs i S K _
    exact Xr fun _ _ _ _ hr a w hA=>wp_skip ⟨_,hr,hA⟩
  | .ret,i=>by
    show xH P n w0 σ0 κ .ret fun _ S K=>Zx.wrap κ.m hs i S K _
    exact Xr fun _ _ _ _ hr a w hA=>wp_ret ⟨_,hr,hA⟩
  | .exit j,i=>by
    show xH P n w0 σ0 κ (.exit j) fun _ S K=>Zx.wrap κ.m hs i S K _
    exact Xr fun _ _ _ _ hr a w hA=>wp_exit ⟨_,hr,hA⟩
  | .seq c d,i=>by
    show xH P n w0 σ0 κ (.seq c d) fun _ S K=>Zx.wrap κ.m hs i S K _
    refine Xr fun ρ S K r hr a w hA=>?_
    refine wp_seq (wp_mono (yE hgl hstp hdr hlp c (i+1) _ _ _ _ hr _ _ hA) ?_);intro e a w hq;cases e with
    |normal=>obtain ⟨S',hk,hA'⟩:=hq;exact yE hgl hstp hdr hlp d _ _ _ _ _ hk _ _ hA'
    |exit j=>obtain ⟨S',hk,hA'⟩:=hq;exact ⟨S',hk,hA'⟩
    |ret=>obtain ⟨S',hk,hA'⟩:=hq;exact ⟨S',hk,hA'⟩
    |panic chain=>obtain ⟨v,S',hk,hA'⟩:=hq;exact ⟨v,S',hk,hA'⟩
    |goto l=>exact hq.elim
    |outgrown=>exact hq.elim
  | .cond x c d,i=>by
    show xH P n w0 σ0 κ (.cond x c d) fun _ S K=>Zx.wrap κ.m hs i S K _
    refine Xr fun ρ S K r hr a w hA=>?_
    have hr:(match S.op x with
      | .bool q=>if q=true then Zx stp dr lp n κ.m hs c (i+1) _ S K else Zx stp dr lp n κ.m hs d (i+1+xv c) _ S K
      |_=>none)=some r:=hr
    split at hr
    · rename_i q e;have hev:a.eval x = .bool q:=by
        obtain ⟨L,b,Z,PV,⟨ν,vs,ids,hA⟩,hi,hf⟩:=hA;have:=hA.op x;rw [e] at this;rw [hf.eval];exact this.bool_inv
      cases q with
      |true=>exact wp_cond_true hev (yE hgl hstp hdr hlp c _ _ _ _ _ (by simpa using hr) _ _ hA)
      |false=>exact wp_cond_false hev (yE hgl hstp hdr hlp d _ _ _ _ _ (by simpa using hr) _ _ hA)
    ·cases hr
  | .block j c,i=>by
    show xH P n w0 σ0 κ (.block j c) fun _ S K=>Zx.wrap κ.m hs i S K _
    refine Xr fun ρ S K r hr a w hA=>?_
    refine wp_block (wp_mono (yE hgl hstp hdr hlp c (i+1) _ _ _ _ hr _ _ hA) ?_);intro e a w hq;cases e with
    |normal=>obtain ⟨S',hk,hA'⟩:=hq;exact ⟨S',hk,hA'⟩
    |exit j'=>
      obtain ⟨S',hk,hA'⟩:=hq;have hk:(bif Nat.beq j' j then K .normal S' else K (.exit j') S')=some r:=hk;show if j'=j then _ else _
      cases e:Nat.beq j' j with
      |true=>rw [e] at hk;rw [jr (jz e)];exact ⟨S',hk,hA'⟩
      |false=>rw [e] at hk;rw [js (fun h=>by rw [h] at e;simp at e)];exact ⟨S',hk,hA'⟩
    |ret=>obtain ⟨S',hk,hA'⟩:=hq;exact ⟨S',hk,hA'⟩
    |panic chain=>obtain ⟨v,S',hk,hA'⟩:=hq;exact ⟨v,S',hk,hA'⟩
    |goto l=>exact hq.elim
    |outgrown=>exact hq.elim
  | .loop c,i=>by
    intro ρ S K r hr a w hA;unfold Zx at hr;split at hr
    case h_2=>cases hr
    rename_i g outs _;obtain ⟨x0,hx0,hr⟩:=jy hr;obtain ⟨y,hy,ho⟩:=jy hr;obtain ⟨m0,hm0⟩:=hlp _ _ _ hy;have hA0:=hA.close hx0
    generalize hf:(fun x=>Zx stp dr lp n κ.m hs c (i+1) _ (g.open x) fun e S'=>match e with
          | .normal=>(g.close κ.m S').bind fun x'=>some (Step.next x')
          |e=>(zR κ.m outs e S').bind fun y=>some (Step.done y))=f at hm0
    classical
    let I:Nat->Act->World->Prop:=fun m a w=>∃ x,Z2 f m x=some y/\At n w0 σ0 κ (g.open x) a w
    refine wp_loop (fun a w=>∃ m,I m a w) (fun a w=>if h:∃ m,I m a w then (wn h).choose else 0) ⟨m0,x0,hm0,hA0⟩ ?_;intro a1 w1 h1;have hfind:=(wn h1).choose_spec.1;rw [dif_pos h1];generalize (wn h1).choose=m1 at hfind |-
    obtain ⟨x,hit,hA1⟩:=hfind;cases m1 with
    |zero=>simp [Z2] at hit
    |succ m1=>
      simp only [Z2] at hit;cases hfx:f x with
      |none=>grind
      |some st=>
        rw [hfx] at hit;rw [<- hf] at hfx;refine wp_mono (yE hgl hstp hdr hlp c (i+1) _ _ _ _ hfx _ _ hA1) ?_;intro e a2 w2 hq;have dn:∀ {e':XE C} {S':St C} {y':zi C outs},zR κ.m outs e' S'=some y'->st = .done y'->∀ {x},zeb n w0 σ0 κ S' e' x a2 w2->Ze n w0 σ0 κ K r x a2 w2:=by
          intro e' S' y' hc hst x hx;subst hst;simp only [jf,Option.some.injEq] at hit;subst hit;exact yW hc ho hx
        cases e with
        |normal=>
          obtain ⟨S',hk,hA'⟩:=hq;obtain ⟨x',hx',hk⟩:=jy hk;cases hk;have hI:I m1 a2 w2:=⟨x',hit,hA'.close hx'⟩;refine ⟨⟨m1,hI⟩,?_⟩;rw [dif_pos ⟨m1,hI⟩];exact Nat.lt_succ_of_le ((wn ⟨m1,hI⟩).choose_spec.2 _ hI)
        |exit j=>
          obtain ⟨S',hk,hA'⟩:=hq;obtain ⟨y',hy',hk⟩:=jy hk;exact dn hy' (Option.some.inj hk).symm (x :=.exit j) ⟨rfl,hA'⟩
        |ret=>
          obtain ⟨S',hk,hA'⟩:=hq;obtain ⟨y',hy',hk⟩:=jy hk;exact dn hy' (Option.some.inj hk).symm (x :=.ret) hA'
        |panic chain=>
          obtain ⟨v,S',hk,hA'⟩:=hq;obtain ⟨y',hy',hk⟩:=jy hk;exact dn hy' (Option.some.inj hk).symm (x :=.panic chain) hA'
        |goto l=>exact hq.elim
        |outgrown=>exact hq.elim
  | .region id ops false,i=>by
    show xH P n w0 σ0 κ (.region id ops false) fun _ S K=>Zx.wrap κ.m hs i S K _
    exact Xr fun _ _ _ _ hr a w hA=>wp_region_list (Yz hgl hstp _ hr hA)
  | .region id ops true,i=>fun ρ S K r hr a w hA=>by
    have hr:(match hs i with
      |some (.draw ord [])=>dr ops ord ρ S K
      |some (.draw ord (o::outs))=>(dr ops ord _ S fun e S'=>zR κ.m (o::outs) e S').bind fun y=>zQ (o::outs) y K
      |_=>none)=some r:=hr
    split at hr
    ·exact hdr _ _ hgl _ _ _ _ _ _ _ hr _ _ hA
    ·obtain ⟨y,hy,ho⟩:=jy hr;exact wp_mono (hdr _ _ hgl _ _ _ _ _ _ _ hy _ _ hA) fun e a w hq=>hq.out ho
    ·cases hr
  | .rangeFunc ..,i=>fun _ _ _ _ hr=>by simp [Zx] at hr
  | .scope c,i=>by
    show xH P n w0 σ0 κ (.scope c) fun _ S K=>Zx.wrap κ.m hs i S K _
    refine Xr fun ρ S K r hr a w hA=>?_
    refine wp_scope_straight (wp_mono (yE hgl hstp hdr hlp c (i+1) _ _ _ _ hr _ _ hA) ?_);intro e a w hq;cases e <;> first | exact hq | exact hq.elim
  | .label _,i=>by
    show xH P n w0 σ0 κ (.label _) fun _ S K=>Zx.wrap κ.m hs i S K _
    exact Xr fun _ _ _ _ hr a w hA=>wp_label ⟨_,hr,hA⟩
  | .goto _,i=>fun _ _ _ _ hr=>by simp [Zx] at hr
  | .refuse _,i=>fun _ _ _ _ hr=>by simp [Zx] at hr
end
end
section
variable [Dfr]
def zci:List Value->Value
 |[v]=>v
 |vs =>.tuple vs.toArray
section
variable {κ:Kp}{C:Cod}{S:St C}{n:Nat}{w0:Start}{σ0 Z:FS}{P:Program}{ρ:Type}{L:List (Nat×Value)}{b:Nat->Value}{PV:List Priv}
def rvA (P:Program) (S:St C):ResultVar->G3 (AV C.D)
 | .tmp t=>some (S.env t)
 | .cell t T=>match S.env t with
  | .pc id 0=>(match S.heap id with
   |some (.cell cs)=>Yc P T cs 0
   |_=>none)
  |_=>none
def wx (P:Program) (S:St C):List ResultVar->G3 (List (AV C.D))
 |[]=>some []
 |r::rs=>(rvA P S r).bind fun A=>(wx P S rs).bind fun As=>some (A::As)
theorem zuG {ν:Val}{vs:Nat->List Value}{ids:List Nat}(h:AbsL κ S ν vs ids L b Z PV) {rv:ResultVar}{A:AV C.D}(hr:rvA P S rv=some A) {w:World}(hw:xn Z PV w) {tmps:Array Value}(ht:∀ i,tmps.getD i undef=look L b i) :
    ∃ v,(ZN tmps rv).run P w = .ok v w/\VR C Z ν v A/\A.ok fun id=>(S.heap id).isSome=true:=by
  cases rv with
  |tmp t=>cases hr;exact ⟨_,by simp [ZN,ht],h.env t,h.live t⟩
  |cell t T=>
    simp only [rvA] at hr;split at hr
    · rename_i id e;have hp:=h.env t;rw [e] at hp;have hp:look L b t = .pointer (some ((ν.adr id).add 0)):=hp;split at hr
      · rename_i cs hcs;obtain ⟨td,ti,hu,hi,h1,h2,e3⟩:=Vu hr;obtain ⟨m,hm,_⟩:=h.at hcs;obtain ⟨hh,hrr,hsub⟩:=hw.get hm;have hrr:ZW (ν.adr id).a (vs id) hh:=hrr;have hc:=h.cell id cs hcs;have hl2:(((vs id).drop 0).take ti.size).length=ti.size:=by rw [<- h1];simp [hc.len]
        have:=W1 (P:=P) (w:=w) ((ν.adr id).add 0) (((vs id).drop 0).take ti.size) hu hi hl2.symm (fun e=>by grind) (fun j u hj=>by
          have hj':j < ti.size:=by
            grind
          rw [Ug hj',Uq] at hj
          rw [Addr.add_add];simpa using hrr.cell hsub hj)
        refine ⟨_,?_,by rw [e3];exact ((hc.drop 0).take _).val (agg:=Zd td),w6 hr (h.livec id cs hcs)⟩;show (do loadVar T (<- asAddr (tmps.getD t undef)):Sem Value).run P w=_;rw [ht t,hp];simpa [asAddr] using this
      ·cases hr
    ·cases hr
theorem zkW {ν:Val}{vs:Nat->List Value}{ids:List Nat}(h:AbsL κ S ν vs ids L b Z PV) {w:World}(hw:xn Z PV w) {tmps:Array Value}(ht:∀ i,tmps.getD i undef=look L b i):∀ {rvs:List ResultVar}{As:List (AV C.D)},wx P S rvs=some As->
    ∃ us:List Value,us.length=rvs.length/\(∀ (j:Nat) rv u,rvs[j]?=some rv->us[j]?=some u->(ZN tmps rv).run P w = .ok u w)/\VRs C Z ν us As/\AV.oks (fun id=>(S.heap id).isSome=true) As
  |[],As,hr=>by cases hr;exact ⟨[],rfl,fun j rv u h=>by simp at h,trivial,trivial⟩
  |rv::rvs,As,hr=>by
    obtain ⟨A,hA,hr⟩:=jy hr;obtain ⟨As',hAs,hr⟩:=jy hr;cases hr;obtain ⟨u,h1,h2,h3⟩:=zuG h hA hw ht;obtain ⟨us,k1,k2,k3,k4⟩:=zkW h hw ht hAs;refine ⟨u::us,by simp [k1],fun j rv' u' hj hu=>?_,⟨h2,k3⟩,⟨h3,k4⟩⟩;grind
theorem zkB {fn:Func}{rvs:List ResultVar}(hr:fn.results.toList=rvs) (hl:rvs.length<=4) {tmps:Array Value}{w:World}{us:List Value}(hus:us.length=rvs.length) (h:∀ (j:Nat) rv u,rvs[j]?=some rv->us[j]?=some u->(ZN tmps rv).run P w = .ok u w) :
    (results fn tmps).run P w = .ok (zci us) w:=by
  have hre:fn.results=rvs.toArray:=by grind
  match rvs,us,hus,hl with
  |[],[],_,_=>exact zku hre
  |[r1],[u1],_,_=>exact zkq hre (h 0 r1 u1 rfl rfl)
  |[r1,r2],[u1,u2],_,_=>exact zkr hre (h 0 r1 u1 rfl rfl) (h 1 r2 u2 rfl rfl)
  |[r1,r2,r3],[u1,u2,u3],_,_=>exact zks hre (h 0 r1 u1 rfl rfl) (h 1 r2 u2 rfl rfl) (h 2 r3 u3 rfl rfl)
  |[r1,r2,r3,r4],[u1,u2,u3,u4],_,_=>exact zkt hre (h 0 r1 u1 rfl rfl) (h 1 r2 u2 rfl rfl) (h 2 r3 u3 rfl rfl) (h 3 r4 u4 rfl rfl)
  |_::_::_::_::_::_,_,_,hl=>simp at hl
structure Spec (C:Cod) where
 f:FuncId
 nr:Nat
 ins:Sig
 outs:List (XK×Sig)
 F:ins.ty C->G3 (zi C outs)
def Y9 (As:List (AV C.D)) (heap:Nat->G3 (Ent C)):St C:={env:=fun i=>(As[i]?).getD .und,heap:=heap}
omit [Dfr] in
def Ww (κ:Kp) (st:Start) (σ0:FS) (nr:Nat) (outs:List (XK×Sig)) (r:zi C outs) (e:Ending) (w:World):Prop:=
 zQ outs r fun x S'=>match x,e with
  | .ret,.returned v=>∃ vals Z' PV',v=zci vals/\vals.length=nr/\Inv st σ0 Z' PV' w/\zz κ S' (yh 0 vals) (fun _=>undef) Z' PV'
  | .pan A,.panicked chain=>∃ u Z' PV',chain=[{v:=u,recovered:=false}]/\Inv st σ0 Z' PV' w/\x8 C Z' u A/\zz κ S' [] (fun _=>undef) Z' PV'
  |_,_=>False
omit [Dfr] in
def Spec.OK (P : Program) (s : Spec C) : Prop := ∃ fn, P.funcs[s.f]? = some fn /\ (fn.name == "runtime.NumGoroutine") = false /\ fn.body.isNone = false /\
 ∀ (x:s.ins.ty C) r,s.F x=some r->∀ (κ:Kp) (st:Start) (Z:FS),C.gl st.w Z->∀ (PV:List Priv) (ν:Val) (vs:Nat->List Value) (ids:List Nat) (args:List Value),κ.m=s.ins.es.length->args.length=s.ins.ts.length->AbsL κ (s.ins.open x) ν vs ids (yh 0 args) (fun _=>undef) Z PV->Pre st Z PV->Calls P s.f args.toArray st.w (Ww κ st Z s.nr s.outs r)
def zuH (e e':XE C):Prop:=match e,e' with
 | .pan v,.pan v'=>∃ (s:Sh) (y:s.ty C),Sh.get (fun _=>none) s v=some y/\v'=Sh.put (fun k=>k) s y
 | .normal,.normal=>True
 | .ret,.ret=>True
 | .exit i,.exit j=>i=j
 |_,_=>False
theorem Yp {m:Nat}{Q:XE C->St C->Prop}:∀ {outs:List (XK×Sig)}{e:XE C}{r:zi C outs},zR m outs e S=some r->
    (∀ (g:Sig) (x:g.ty C),g.close m S=some x->(∀ e',zuH e e'->Q e' (g.open x)))->zQ outs r Q
  |[],e,r,h,_=>by cases h
  |[o],e,r,h,k=>closeX_prop h k
  |o::o2::l,e,r,h,k=>by
    unfold zR at h;unfold zQ;cases hi:XK.is o.1 e with
    |true=>
      rw [hi,Uv] at h;split at h
      ·rename_i z hz;cases h;exact closeX_prop hz k
      ·obtain ⟨z,hz,rfl⟩:=U4.1 h;exact Yp hz k
    |false=>
      rw [hi,G8] at h;obtain ⟨z,hz,rfl⟩:=U4.1 h;exact Yp hz k
where
 closeX_prop {m:Nat} {Q:XE C->St C->Prop} {o:XK×Sig} {e:XE C} {r:XK.ty C o.1 o.2} (h:zfa m o.1 o.2 e S=some r) (k:∀ (g:Sig) (x:g.ty C),g.close m S=some x->(∀ e',zuH e e'->Q e' (g.open x))):yQ o.1 o.2 r Q:=by
  obtain ⟨kk,g⟩:=o;cases e with
  |normal=>cases kk <;> first | (cases h;done) | exact k g r h .normal trivial
  |exit i=>
   cases kk <;> first | (cases h;done) | skip
   obtain ⟨hij,h2⟩:=zb h;obtain rfl:=jz hij;exact k g r h2 (.exit _) rfl
  |ret=>cases kk <;> first | (cases h;done) | exact k g r h .ret trivial
  |pan v=>
   cases kk <;> first | (cases h;done) | skip
   rename_i s;obtain ⟨z,hz,h2⟩:=jy h;obtain ⟨x',hx',h3⟩:=jy h2;cases h3;show Q (.pan (Sh.put (fun k=>k) s (Sh.hd (s:=s) (l:=g.shs) (Sh.pk (s:=s) (l:=g.shs) z x')))) (g.open (Sh.tl (s:=s) (l:=g.shs) (Sh.pk (s:=s) (l:=g.shs) z x')));rw [show Sh.hd (s:=s) (l:=g.shs) (Sh.pk (s:=s) (l:=g.shs) z x')=z from Sh.hd_pk,show Sh.tl (s:=s) (l:=g.shs) (Sh.pk (s:=s) (l:=g.shs) z x')=x' from Sh.tl_pk];exact k g x' hx' _ ⟨s,z,hz,rfl⟩
def zp9 (stp:Nat->yC C) (dr:Nat->Yh C) (lp:ZP) (fn:Func) (nr:Nat) (ins:Sig) (outs:List (XK×Sig)) (hs:Nat->G3 Hint) (x:ins.ty C):G3 (zi C outs):=
  match fn.body with
  |none=>none
  |some c=>chk (Nat.ble ins.ts.length fn.ntmps && (Nat.beq fn.results.toList.length nr && (Nat.ble nr 4 && Nat.ble ins.es.length 64)))
      (Zx (stp fn.ntmps) (dr fn.ntmps) lp fn.ntmps ins.es.length hs c 0 _ (ins.open x) fun e S=>match e with
        | .ret=>(wx P S fn.results.toList).bind fun As=>zR ins.es.length outs .ret (Y9 As S.heap)
        | .normal=>(wx P S fn.results.toList).bind fun As=>zR ins.es.length outs .ret (Y9 As S.heap)
        | .pan v=>zR ins.es.length outs (.pan v) (Y9 [] S.heap)
        |_=>none)
end
end
section
section
variable {κ:Kp}{C:Cod}{S:St C}{n:Nat}{w0:Start}{σ0 Z:FS}{P:Program}{ρ:Type}{L:List (Nat×Value)}{b:Nat->Value}{PV:List Priv}
theorem yi {vals:List Value}:∀ i,look (yh 0 vals) (fun _=>undef) i=(vals[i]?).getD undef:=fun i=>by rw [V5];simp
theorem za3 {ν:Val}{vs:Nat->List Value}{ids:List Nat}(h:AbsL κ S ν vs ids L b Z PV) {us:List Value}{As:List (AV C.D)}(hr:VRs C Z ν us As) (hl:AV.oks (fun id=>(S.heap id).isSome=true) As):AbsL κ (Y9 As S.heap) ν vs ids (yh 0 us) (fun _=>undef) Z PV:=by
 refine ⟨⟨h.nd,h.dom,h.pv,h.cell,fun t=>?_,h.one⟩,fun t=>?_,h.livec,h.keep⟩
 ·rw [yi];show VR C Z ν _ ((As[t]?).getD .und);cases e:As[t]? with
  |none=>trivial
  |some A=>
   obtain ⟨u,e1,e2⟩:=hr.get t A e;grind
 ·show ((As[t]?).getD .und).ok _;cases e:As[t]? with
  |none=>trivial
  |some A=>exact AV.oks_iff.1 hl A (GS e)
theorem At.defers [Dfr] {κ:Kp}{C:Cod}{S:St C}{n:Nat}{w0:Start}{σ0:FS}{a:Act}{w:World}(h:At n w0 σ0 κ S a w):a.defers=Dfr.l:=by
 obtain ⟨_,_,_,_,_,_,hf⟩:=h;exact hf.defers
theorem zkX {κ:Kp}{C:Cod}{P:Program}{S':St C}{L:List (Nat×Value)}{b:Nat->Value}{Z':FS}{PV':List Priv}{fn:Func}{nr:Nat}{outs:List (XK×Sig)}{r:zi C outs}{st:Start}{Z:FS}{tmps:Array Value}{w:World}(c4:fn.results.toList.length=nr) (c2:fn.results.toList.length<=4) (hk:(wx P S' fn.results.toList).bind (fun As=>zR κ.m outs .ret (Y9 As S'.heap))=some r)
    (hA':zz κ S' L b Z' PV') (hi':Inv st Z Z' PV' w) (hget:∀ i,tmps.getD i undef=look L b i):∃ v,(results fn tmps).run P w = .ok v w/\Ww κ st Z nr outs r (.returned v) w:=by
  obtain ⟨As,hAs,hk⟩:=jy hk;obtain ⟨ν',vs',ids',hA'⟩:=hA';obtain ⟨us,k1,k2,k3,k4⟩:=zkW hA' hi'.held hget hAs;refine ⟨_,zkB rfl c2 k1 k2,?_⟩;have hav:=za3 hA' k3 k4;refine Yp hk fun g y hy e' he=>?_
  cases e' <;> first | exact he.elim | skip
  obtain ⟨σ2,PV2,hi2,h2⟩:=zcD hy ⟨ν',vs',ids',hav⟩ hi';grind
theorem zcj [Dfr] {κ:Kp}{C:Cod}{P:Program}{S':St C}{fn:Func}{nr:Nat}{outs:List (XK×Sig)}{r:zi C outs}{st:Start}{Z:FS}{a:Act}{w:World}(c4:fn.results.toList.length=nr) (c2:fn.results.toList.length<=4) (hk:(wx P S' fn.results.toList).bind (fun As=>zR κ.m outs .ret (Y9 As S'.heap))=some r)
    (hA:At fn.ntmps st Z κ S' a w):∃ v,(results fn a.tmps).run P w = .ok v w/\Ww κ st Z nr outs r (.returned v) w:=by
  obtain ⟨L,b,Z',PV',hA',hi',hf'⟩:=hA;exact zkX c4 c2 hk hA' hi' hf'.get
theorem ztq {stp : Nat -> yC C} {dr : Nat -> Yh C} {lp : ZP} {f : FuncId} {fn : Func} {nr : Nat} {ins : Sig} {outs : List (XK × Sig)} {hs : Nat -> G3 Hint} {F : ins.ty C -> G3 (zi C outs)} (hstp : ∀ κ, xq P fn.ntmps κ (stp fn.ntmps)) (hdr : ∀ κ, WT P fn.ntmps κ (dr fn.ntmps)) (hlp : Y8 lp) (hf : P.funcs[f]? = some fn) (hnm : (fn.name == "runtime.NumGoroutine") = false) (hbs : fn.body.isNone = false) (hF : ∀ x r, F x = some r -> zp9 (P := P) stp dr lp fn nr ins outs hs x = some r) :
    Spec.OK P ⟨f,nr,ins,outs,F⟩:=by
  refine ⟨fn,hf,hnm,hbs,?_⟩;intro x r hr κ st Z hg PV ν vs ids args hm hargs hA hpre;have hr:=hF x r hr;unfold zp9 at hr;split at hr
  ·cases hr
  rename_i c hb;obtain ⟨hc,hr⟩:=zb hr;simp only [g9] at hc;obtain ⟨c1,c4,c2,c3⟩:=hc;have c4:=jz c4;rw [<- c4] at c2;have hm:κ.m=ins.es.length:=hm;rw [<- hm] at hr;have hargs:args.length=ins.ts.length:=hargs;have hn:args.length<=fn.ntmps:=by rw [hargs];exact Uf c1
  have hat:At fn.ntmps st Z κ (ins.open x) {tmps:=args.toArray++Array.replicate (fn.ntmps - args.toArray.size) undef,defers:=[]} st.w:=⟨_,_,Z,PV,⟨ν,vs,ids,hA⟩,hpre.inv,W4 hn⟩;refine calls_of_wp hf hb (wp_mono (yE hg (hstp κ) (hdr κ) hlp c 0 _ _ _ _ hr _ _ hat) ?_);have hret:∀ {S':St C} {a:Act} {w:World},(wx P S' fn.results.toList).bind (fun As=>zR κ.m outs .ret (Y9 As S'.heap))=some r->At fn.ntmps st Z κ S' a w->a.defers=[]/\∃ v,(results fn a.tmps).run P w = .ok v w/\Ww κ st Z nr outs r (.returned v) w:=fun hk hA'=>⟨hA'.defers,zcj c4 (Uf c2) hk hA'⟩
  intro e a w hq;cases e with
  |normal=>obtain ⟨S',hk,hA'⟩:=hq;exact hret hk hA'
  |ret=>obtain ⟨S',hk,hA'⟩:=hq;exact hret hk hA'
  |exit j=>obtain ⟨S',hk,hA'⟩:=hq;cases hk
  |panic chain=>
    obtain ⟨v,S',hk,hA'⟩:=hq;obtain ⟨u,L,b,Z',PV',rfl,hp,⟨ν',vs',ids',hA'⟩,hi',hf'⟩:=hA';refine ⟨hf'.defers,?_⟩;have hav:AbsL κ (Y9 [] S'.heap) ν' vs' ids' [] (fun _=>undef) Z' PV':=za3 (us:=[]) hA' trivial trivial;refine Yp hk fun g y hy e' he=>?_
    cases e' <;> first | exact he.elim | skip
    obtain ⟨s,z,hz,rfl⟩:=he;obtain ⟨σ2,PV2,hl,hi2,h2⟩:=ww hy ⟨ν',vs',ids',hav⟩ hi';exact ⟨u,σ2,PV2,rfl,hi2,hp.again hl hz,h2⟩
  |goto l=>exact hq.elim
  |outgrown=>exact hq.elim
end
variable [Dfr]
mutual
def AV.ren {D:Nat->Type}(ρ:Nat->Nat):AV D->AV D
 | .row j =>.row (ρ j)
 | .pc j o =>.pc (ρ j) o
 | .pr j T i o =>.pr (ρ j) T i o
 | .nx j T i x =>.nx (ρ j) T i x
 | .agg cs =>.agg (AV.rens ρ cs)
 | .tup cs =>.tup (AV.rens ρ cs)
 | .clo f cs =>.clo f (AV.rens ρ cs)
 | .ifc t A =>.ifc t (AV.ren ρ A)
 |A=>A
def AV.rens {D:Nat->Type}(ρ:Nat->Nat):List (AV D)->List (AV D)
 |[]=>[]
 |A::As=>AV.ren ρ A::AV.rens ρ As
end
mutual
def AV.kill {D:Nat->Type}(p:Nat->Bool):AV D->AV D
 | .row j=>bif p j then .und else .row j
 | .pc j o=>bif p j then .und else .pc j o
 | .pr j T i o=>bif p j then .und else .pr j T i o
 | .nx j T i x=>bif p j then .und else .nx j T i x
 | .agg cs =>.agg (AV.kills p cs)
 | .tup cs =>.tup (AV.kills p cs)
 | .clo f cs =>.clo f (AV.kills p cs)
 | .ifc t A =>.ifc t (AV.kill p A)
 |A=>A
def AV.kills {D:Nat->Type}(p:Nat->Bool):List (AV D)->List (AV D)
 |[]=>[]
 |A::As=>AV.kill p A::AV.kills p As
end
section
variable {κ:Kp}{C:Cod}{S:St C}{n:Nat}{w0:Start}{σ0 Z:FS}{P:Program}{L:List (Nat×Value)}{b:Nat->Value}{PV:List Priv}{ν ν':Val}{vs:Nat->List Value}{ids:List Nat}
omit [Dfr] in
mutual
theorem VR.ren {ρ:Nat->Nat}{p:Nat->Prop}(h:∀ k,p k->ν'.hdr (ρ k)=ν.hdr k/\ν'.adr (ρ k)=ν.adr k):∀ {A:AV C.D}{v:Value},A.ok p->VR C Z ν v A->VR C Z ν' v (AV.ren ρ A)
 | .row _,v,k,r=>by show v=ν'.hdr _;rw [(h _ k).1];exact r
 | .pc _ _,v,k,r=>by show v = .pointer (some ((ν'.adr _).add _));rw [(h _ k).2];exact r
 | .pr _ _ _ _,v,k,r=>by show v = .pointer (some (zh (ν'.hdr _) _));rw [(h _ k).1];exact r
 | .nx _ _ _ _,v,k,r=>by refine ⟨?_,r.2⟩;rw [(h _ k).2];exact r.1
 | .agg cs,_,k,⟨vs,e,r⟩=>⟨vs,e,VRs.ren h k r⟩
 | .tup cs,_,k,⟨vs,e,r⟩=>⟨vs,e,VRs.ren h k r⟩
 | .clo _ cs,_,k,⟨vs,e,r⟩=>⟨vs,e,VRs.ren h k r⟩
 | .ifc _ A,_,k,⟨u,e,r⟩=>⟨u,e,VR.ren h k r⟩
 | .int _ _,_,_,r=>r
 | .bool _,_,_,r=>r
 | .str _,_,_,r=>r
 | .sl _ _ _,_,_,r=>r
 | .pz _ _ _,_,_,r=>r
 | .pnil,_,_,r=>r
 | .nils,_,_,r=>r
 | .nilf,_,_,r=>r
 | .nili,_,_,r=>r
 | .und,_,_,_=>trivial
theorem VRs.ren {ρ:Nat->Nat}{p:Nat->Prop}(h:∀ k,p k->ν'.hdr (ρ k)=ν.hdr k/\ν'.adr (ρ k)=ν.adr k):∀ {cs:List (AV C.D)}{vs:List Value},AV.oks p cs->VRs C Z ν vs cs->VRs C Z ν' vs (AV.rens ρ cs)
 |[],[],_,_=>trivial
 |A::As,v::vs,⟨k,l⟩,⟨r,s⟩=>⟨VR.ren h k r,VRs.ren h l s⟩
 |[],_::_,_,r=>r.elim
 |_::_,[],_,r=>r.elim
end
omit [Dfr] in
mutual
theorem AV.ok_ren {D:Nat->Type}{p q:Nat->Prop}{ρ:Nat->Nat}(h:∀ k,p k->q (ρ k)):∀ {A:AV D},A.ok p->(AV.ren ρ A).ok q
 | .row _,k=>h _ k
 | .pc _ _,k=>h _ k
 | .pr _ _ _ _,k=>h _ k
 | .nx _ _ _ _,k=>h _ k
 | .agg cs,k=>AV.oks_ren h (A:=cs) k
 | .tup cs,k=>AV.oks_ren h (A:=cs) k
 | .clo _ cs,k=>AV.oks_ren h (A:=cs) k
 | .ifc _ A,k=>AV.ok_ren h (A:=A) k
 | .int _ _,_=>trivial
 | .bool _,_=>trivial
 | .str _,_=>trivial
 | .sl _ _ _,_=>trivial
 | .pz _ _ _,_=>trivial
 | .pnil,_=>trivial
 | .nils,_=>trivial
 | .nilf,_=>trivial
 | .nili,_=>trivial
 | .und,_=>trivial
theorem AV.oks_ren {D:Nat->Type}{p q:Nat->Prop}{ρ:Nat->Nat}(h:∀ k,p k->q (ρ k)):∀ {A:List (AV D)},AV.oks p A->AV.oks q (AV.rens ρ A)
 |[],_=>trivial
 |A::As,⟨k,l⟩=>⟨AV.ok_ren h k,AV.oks_ren h l⟩
end
omit [Dfr] in
mutual
theorem VR.kill {p:Nat->Bool}:∀ {A:AV C.D}{v:Value},VR C Z ν v A->VR C Z ν v (AV.kill p A)
 | .row j,v,r=>by unfold AV.kill;cases p j <;> first | exact r | trivial
 | .pc j _,v,r=>by unfold AV.kill;cases p j <;> first | exact r | trivial
 | .pr j _ _ _,v,r=>by unfold AV.kill;cases p j <;> first | exact r | trivial
 | .nx j _ _ _,v,r=>by unfold AV.kill;cases p j <;> first | exact r | trivial
 | .agg cs,_,⟨vs,e,r⟩=>⟨vs,e,VRs.kill r⟩
 | .tup cs,_,⟨vs,e,r⟩=>⟨vs,e,VRs.kill r⟩
 | .clo _ cs,_,⟨vs,e,r⟩=>⟨vs,e,VRs.kill r⟩
 | .ifc _ A,_,⟨u,e,r⟩=>⟨u,e,VR.kill r⟩
 | .int _ _,_,r=>r
 | .bool _,_,r=>r
 | .str _,_,r=>r
 | .sl _ _ _,_,r=>r
 | .pz _ _ _,_,r=>r
 | .pnil,_,r=>r
 | .nils,_,r=>r
 | .nilf,_,r=>r
 | .nili,_,r=>r
 | .und,_,_=>trivial
theorem VRs.kill {p:Nat->Bool}:∀ {cs:List (AV C.D)}{vs:List Value},VRs C Z ν vs cs->VRs C Z ν vs (AV.kills p cs)
 |[],[],_=>trivial
 |A::As,v::vs,⟨r,s⟩=>⟨VR.kill r,VRs.kill s⟩
 |[],_::_,r=>r.elim
 |_::_,[],r=>r.elim
end
omit [Dfr] in
mutual
theorem AV.ok_kill {D:Nat->Type}{q:Nat->Prop}{p:Nat->Bool}:∀ {A:AV D},A.ok q->(AV.kill p A).ok fun j=>q j/\p j=false
 | .row j,k=>by unfold AV.kill;cases e:p j <;> first | exact ⟨k,e⟩ | trivial
 | .pc j _,k=>by unfold AV.kill;cases e:p j <;> first | exact ⟨k,e⟩ | trivial
 | .pr j _ _ _,k=>by unfold AV.kill;cases e:p j <;> first | exact ⟨k,e⟩ | trivial
 | .nx j _ _ _,k=>by unfold AV.kill;cases e:p j <;> first | exact ⟨k,e⟩ | trivial
 | .agg cs,k=>AV.oks_kill (A:=cs) k
 | .tup cs,k=>AV.oks_kill (A:=cs) k
 | .clo _ cs,k=>AV.oks_kill (A:=cs) k
 | .ifc _ A,k=>AV.ok_kill (A:=A) k
 | .int _ _,_=>trivial
 | .bool _,_=>trivial
 | .str _,_=>trivial
 | .sl _ _ _,_=>trivial
 | .pz _ _ _,_=>trivial
 | .pnil,_=>trivial
 | .nils,_=>trivial
 | .nilf,_=>trivial
 | .nili,_=>trivial
 | .und,_=>trivial
theorem AV.oks_kill {D:Nat->Type}{q:Nat->Prop}{p:Nat->Bool}:∀ {A:List (AV D)},AV.oks q A->AV.oks (fun j=>q j/\p j=false) (AV.kills p A)
 |[],_=>trivial
 |A::As,⟨k,l⟩=>⟨AV.ok_kill k,AV.oks_kill l⟩
end
theorem ztr {f:Nat->Priv}{l:List Nat}(hnd:l.Nodup) {ids:List Nat}(hs:∀ j∈l,j∈ids) {gg:zc}(k:Sep Z (ids.map f) gg):Sep Z (l.map f) gg:=by
 classical
 have hpos:∀ j,j∈l->∃ m:Nat,ids[m]?=some j:=fun j hj=>List.mem_iff_getElem?.1 (hs j hj)
 let pos:Nat->Nat:=fun j=>if hj:j∈l then (hpos j hj).choose else 0
 have hp:∀ j (hj:j∈l),ids[pos j]?=some j:=fun j hj=>by
  grind
 refine k.select (l.map pos) ?_ ?_
 ·rw [GD,List.pairwise_map];refine List.Pairwise.imp_of_mem ?_ (GD.1 hnd);grind
 ·rw [List.map_map,List.map_map];refine Ux fun j hj=>?_
  grind
theorem AbsL.lend (h:AbsL κ S ν vs ids L b Z PV) {g:Sig}{m:Nat}{bl:Bl}{x:g.ty C}{T:St C}{L':List (Nat×Value)}{b':Nat->Value}(hT:T.heap=S.heap) (henv:∀ t,VR C Z ν (look L' b' t) (T.env t)) (hg:YC g m T bl=some x) (hl:g.es.length<=64) :
    ∃ ν' vs' ids',AbsL ⟨g.es.length,hl,ν'⟩ (g.open x) ν' vs' ids' L' b' Z (ids'.map fun k=>zG C ν' vs' k ((g.open x).heap k))/\
      (∀ k id,Bl.fn bl k=some id->ν'.hdr k=ν.hdr id/\ν'.adr k=ν.adr id)/\(∀ k,k∈ids'↔(Bl.fn bl k).isSome=true)/\(∀ k id,Bl.fn bl k=some id->(S.heap id).isSome=true)/\
      ∀ gg,Sep Z PV gg->Sep Z ((ids'.map fun k=>zG C ν' vs' k ((g.open x).heap k))++((ids.filter fun j=> !Z5 j bl).map fun j=>zG C ν vs j (S.heap j))) gg:=by
  obtain ⟨hb,hg⟩:=zb hg;have hb:=((g9 _ _).mp hb).1;have hB:=BdOK.of hb
  let B:=Bl.fn bl
  let ν':Val:={hdr:=fun k=>match B k with | some id=>ν.hdr id | none =>.slice none 0 0,adr:=fun k=>match B k with | some id=>ν.adr id | none=>default}
  let vs':Nat->List Value:=fun k=>match B k with | some id=>vs id | none=>[]
  have hν:Rn B (fun k=>k) ν ν':=⟨fun k id e=>by simp [ν',e],h.one⟩;have hsplit:=zbn g.ts (g.es.map ESh.sh) (avs:=g.ts.map fun t=>T.env t.1) (by simp) hg;have hsl:(List.range g.es.length).map (WL T bl)=(List.range' 0 g.es.length).map fun k=>match B k with | some id=>zhw (T.heap id) | none =>.und:=by
    rw [<- List.range_eq_range'];rfl
  rw [hsl] at hsplit;have hcell:∀ id cs,T.heap id=some (.cell cs)->VRs C Z ν (vs id) cs:=fun id cs e=>h.cell id cs (by grind)
  have hheap:=fun k id (e:B k=some id)=>zag (N:=g.es.length) hν (fun i j _ _ e=>e) hcell g.es 0 (by omega) hsplit (fun k e he=>by rw [GY];exact hB.gone k e he) k id e (GL _) (by have:=hB.lt k id e;omega)
  have hnone:∀ k,B k=none->(g.open x).heap k=none:=fun k e=>by
    refine WX g.es 0 fun j e' he hj=>?_
    have hj:k=j:=by simpa using hj
    subst hj;exact (hB.gone k e' he).2 e
  have hsome:∀ k,((g.open x).heap k).isSome=true↔(B k).isSome=true:=fun k=>by
    cases e:B k with
    |none=>grind
    |some id=>
      rcases hheap k id e with ⟨cs,cs',_,h2,_⟩ | ⟨T,s,_,h2⟩ | ⟨q,T,b2,s,_,h2⟩ | ⟨T,s,g1,g2,_,h2,_⟩
      all_goals rw [show (g.open x).heap k=_ from h2];simp
  have henv':=zbo (L:=L') (b:=b') (Z:=Z) hν (g.es.map ESh.sh) henv g.ts hg
  let ids':=(List.range g.es.length).filter fun k=>(B k).isSome
  have hmem:∀ k,k∈ids'↔(B k).isSome=true:=fun k=>by
    simp only [ids',U2,U3];refine ⟨fun h=>h.2,fun h=>⟨?_,h⟩⟩;obtain ⟨id,e⟩:=GN.1 h;exact hB.lt k id e
  have hnd:ids'.Nodup:=List.Nodup.sublist List.filter_sublist List.nodup_range;have hin:∀ k id,B k=some id->(S.heap id).isSome=true/\zG C ν' vs' k ((g.open x).heap k)=zG C ν vs id (S.heap id):=fun k id e=>by
    rcases hheap k id e with ⟨cs,cs',h1,h2,_⟩ | ⟨T',s,h1,h2⟩ | ⟨q,T',b2,s,h1,h2⟩ | ⟨T',s,g1,g2,h1,h2,h3⟩
    ·rw [hT] at h1;refine ⟨by rw [h1];rfl,?_⟩;rw [show (g.open x).heap k=_ from h2,h1];simp [zG,ν',vs',e]
    ·rw [hT] at h1;refine ⟨by rw [h1];rfl,?_⟩;rw [show (g.open x).heap k=_ from h2,h1];simp [zG,ν',e]
    ·rw [hT] at h1;refine ⟨by rw [h1];rfl,?_⟩;rw [show (g.open x).heap k=_ from h2,h1];simp [zG,ν',e]
    ·rw [hT] at h1;refine ⟨by rw [h1];rfl,?_⟩;rw [show (g.open x).heap k=_ from h2,h1];simp only [zG,ν',e];rw [zb9 fun j hj=>⟨(h3 j hj).symm,rfl⟩]
  refine ⟨ν',vs',ids',⟨⟨hnd,fun k=>by grind,rfl,fun k cs hk=>?_,fun t=>(henv' t).1,fun i=>?_⟩,fun t=>?_,fun k cs hk=>?_,fun k hk hs=>⟨rfl,rfl,fun _=>rfl⟩⟩,fun k id e=>?_,hmem,fun k id e=>(hin k id e).1,fun gg ks=>?_⟩
  · obtain ⟨id,e⟩:=GN.1 ((hsome k).1 (by rw [hk];rfl));rcases hheap k id e with ⟨c,c',h1,h2,h3,_⟩ | ⟨T,s,h1,h2⟩ | ⟨q,T,b2,s,h1,h2⟩ | ⟨T,s,g1,g2,h1,h2,_⟩
    ·rw [show (g.open x).heap k=_ from h2] at hk;grind
    ·rw [show (g.open x).heap k=_ from h2] at hk;cases hk
    ·rw [show (g.open x).heap k=_ from h2] at hk;cases hk
    ·rw [show (g.open x).heap k=_ from h2] at hk;cases hk
  · simp only [ν'];cases B i with
    |none=>rfl
    |some id=>exact h.one id
  ·refine AV.ok_mono (fun j hj=>?_) (henv' t).2;obtain ⟨k2,id2,e2,e3⟩:=hj;grind
  · obtain ⟨id,e⟩:=GN.1 ((hsome k).1 (by rw [hk];rfl));rcases hheap k id e with ⟨c,c',h1,h2,_,h4⟩ | ⟨T,s,h1,h2⟩ | ⟨q,T,b2,s,h1,h2⟩ | ⟨T,s,g1,g2,h1,h2,_⟩
    ·rw [show (g.open x).heap k=_ from h2] at hk;cases hk;refine AV.oks_mono (fun j hj=>?_) h4;obtain ⟨k2,id2,e2,e3⟩:=hj;grind
    ·rw [show (g.open x).heap k=_ from h2] at hk;cases hk
    ·rw [show (g.open x).heap k=_ from h2] at hk;cases hk
    ·rw [show (g.open x).heap k=_ from h2] at hk;cases hk
  ·grind
  · rw [h.pv] at ks
    let imgs:List Nat:=ids'.map fun k=>(B k).getD 0
    have himg:∀ k,k∈ids'->B k=some ((B k).getD 0):=fun k hk=>by
      obtain ⟨id,e⟩:=GN.1 ((hmem k).1 hk);rw [e];rfl
    have e1:(ids'.map fun k=>zG C ν' vs' k ((g.open x).heap k))=imgs.map fun j=>zG C ν vs j (S.heap j):=by
      rw [List.map_map];exact Ux fun k hk=>(hin k _ (himg k hk)).2
    rw [e1,<- U5];refine ztr ?_ ?_ ks
    · refine List.nodup_append.2 ⟨?_,List.Nodup.sublist List.filter_sublist h.nd,?_⟩
      ·show (ids'.map fun k=>(B k).getD 0).Nodup;rw [GD,List.pairwise_map];refine List.Pairwise.imp_of_mem ?_ (GD.1 hnd);intro i j hi hj hne e;have h1:=himg i hi;have h2:=himg j hj;rw [e] at h1;exact hne (hB.inj i j _ h1 h2)
      ·intro i hi j hj e;subst e;obtain ⟨k,hk,rfl⟩:=U0.1 hi;have:=(U2.1 hj).2;rw [xQ (himg k hk)] at this;cases this
    · intro j hj;rcases G5.1 hj with hj | hj
      ·obtain ⟨k,hk,rfl⟩:=U0.1 hj;exact (h.dom _).2 (hin k _ (himg k hk)).1
      ·exact (U2.1 hj).1
end
end
section
variable [Dfr]
def zA (id:Nat):List Nat->Bool
 |[]=>false
 |a::r=>Nat.beq id a || zA id r
theorem zN {id:Nat}:∀ {l:List Nat},zA id l=true↔id∈l
 |[]=>by simp [zA]
 |a::r=>by
  simp only [zA,GO,zN (l:=r),Ua];constructor
  ·rintro (h | h)
   ·exact .inl (jz h)
   grind
  ·rintro (rfl | h)
   ·left;simp
   grind
theorem zec {id:Nat}:∀ {bl:Bl},Z5 id bl=true->∃ k,Bl.fn bl k=some id
 |[],h=>by cases h
 |none::r,h=>by
  obtain ⟨k,e⟩:=zec (bl:=r) h;exact ⟨k+1,by simpa [Bl.fn] using e⟩
 |some a::r,h=>by
  simp only [Z5,GO] at h;rcases h with h | h
  ·exact ⟨0,by simp [Bl.fn,jz h]⟩
  ·obtain ⟨k,e⟩:=zec (bl:=r) h;exact ⟨k+1,by simpa [Bl.fn] using e⟩
def Yk:List ESh->Bl->List Nat
 |e::es,b::bl=>(match b with
  |some id=>bif e.isGone then [id] else []
  |none=>[])++Yk es bl
 |_,_=>[]
theorem Vx {id:Nat}:∀ {es:List ESh}{bl:Bl},id∈Yk es bl↔∃ (k:Nat) (e:ESh),es[k]?=some e/\e.isGone=true/\Bl.fn bl k=some id
 |[],bl=>by simp [Yk]
 |e::es,[]=>by simp [Yk,Bl.fn]
 |e::es,b::bl=>by
  rw [show Yk (e::es) (b::bl)=(match b with | some id=>bif e.isGone then [id] else [] | none=>[])++Yk es bl from rfl,G5,Vx (es:=es) (bl:=bl)];constructor
  ·rintro (h | ⟨k,e',h1,h2,h3⟩)
   ·cases b with
    |none=>cases h
    |some a=>
     cases hg:e.isGone with
     |false=>grind
     |true=>rw [hg] at h;simp at h;exact ⟨0,e,rfl,hg,by simp [Bl.fn,h]⟩
   ·exact ⟨k+1,e',by simpa using h1,h2,by simpa [Bl.fn] using h3⟩
  ·rintro ⟨k,e',h1,h2,h3⟩;cases k with
   |zero=>
    left;simp at h1;subst h1;have:b=some id:=by simpa [Bl.fn] using h3
    grind
   |succ k=>exact .inr ⟨k,e',by simpa using h1,h2,by simpa [Bl.fn] using h3⟩
section
variable {κ κs:Kp}{C:Cod}{S Sr:St C}{n:Nat}{w0:Start}{σ0 Z Z':FS}{P:Program}{L Lr:List (Nat×Value)}{b br:Nat->Value}{PV A':List Priv}{ν νr:Val}{vs vsr:Nat->List Value}{ids idsr:List Nat}
def Ent.ren (ρ:Nat->Nat):Ent C->Ent C
 | .cell cs =>.cell (AV.rens ρ cs)
 | .row T s =>.row T s
 | .obj k T b s =>.obj k T b s
 | .orow T s g =>.orow T s g
def Own.ufx (b:Bool):Own->Own
 | .fix=>bif b then .fix else .all
 |g=>g
theorem Own.ufx_fl {b:Bool}{g:Own}(j:Nat):(g.ufx b).fl j=g.fl j:=by
 cases g <;> cases b <;> rfl
def Ent.mv (ρ:Nat->Nat) (b:Bool):Ent C->Ent C
 | .cell cs =>.cell (AV.rens ρ cs)
 | .row T s =>.row T s
 | .obj k T b s =>.obj k T b s
 | .orow T s g =>.orow T s (g.ufx b)
theorem zts {ρ:Nat->Nat}{b:Bool}{o:G3 (Ent C)}(h:ZT (o.map (Ent.mv ρ b))=true):ZT o=true/\b=true:=by
 cases o with
 |none=>cases h
 |some e=>
  cases e with
  |orow T s g=>cases g <;> cases b <;> first | exact ⟨rfl,rfl⟩ | cases h
  |cell=>cases h
  |row=>cases h
  |obj=>cases h
def kpL (Sr:St C):Bl->Nat->List Nat
 |[],_=>[]
 |b::bl,k=>(match b with
  |some id=>bif ZT (Sr.heap k) then [id] else []
  |none=>[])++kpL Sr bl (k+1)
theorem zkY {id:Nat}:∀ {bl:Bl}{k0:Nat},id∈kpL Sr bl k0->∃ k,Bl.fn bl k=some id/\ZT (Sr.heap (k0+k))=true
 |[],_,h=>by cases h
 |b::bl,k0,h=>by
  rcases G5.1 h with h | h
  ·cases b with
   |none=>cases h
   |some a=>
    cases hf:ZT (Sr.heap k0) with
    |false=>grind
    |true=>
     rw [hf] at h;have:id=a:=by simpa using h
     subst this;exact ⟨0,rfl,hf⟩
  ·obtain ⟨k,h1,h2⟩:=zkY (bl:=bl) h;exact ⟨k+1,by simpa [Bl.fn] using h1,by grind⟩
def Ent.kill (p:Nat->Bool):Ent C->Ent C
 | .cell cs =>.cell (AV.kills p cs)
 | .row T s =>.row T s
 | .obj k T b s =>.obj k T b s
 | .orow T s g =>.orow T s g
def xa (d:Nat) (bl:Bl) (k:Nat):Nat:=match Bl.fn bl k with
 |some id=>id
 |none=>nid d k
def wa (ρ:Nat->Nat) (fx:Nat->Bool) (Hr:Nat->G3 (Ent C)):List ESh->Nat->(Nat->G3 (Ent C))->Nat->G3 (Ent C)
 |[],_,base=>base
 |e::es,k,base=>fun i=>bif !e.isGone && Nat.beq i (ρ k) then (Hr k).map (Ent.mv ρ (fx (ρ k))) else wa ρ fx Hr es (k+1) base i
theorem WU {ρ:Nat->Nat}{fx:Nat->Bool}{Hr base:Nat->G3 (Ent C)}{i:Nat}:∀ {es:List ESh}{k0:Nat},(∀ k e,es[k]?=some e->e.isGone=false->i≠ρ (k0+k))->wa ρ fx Hr es k0 base i=base i
 |[],_,_=>rfl
 |e::es,k0,h=>by
  unfold wa;have ih:=WU (ρ:=ρ) (fx:=fx) (Hr:=Hr) (base:=base) (i:=i) (es:=es) (k0:=k0+1) fun k e' he hg=>by
   have:=h (k+1) e' (by simpa using he) hg;grind
  cases hg:e.isGone with
  |true=>simpa using ih
  |false=>
   cases hb:Nat.beq i (ρ k0) with
   |true=>exact absurd (jz hb) (h 0 e rfl hg)
   |false=>simpa using ih
theorem zck {ρ:Nat->Nat}{fx:Nat->Bool}{Hr base:Nat->G3 (Ent C)}:∀ {es:List ESh}{k0:Nat},(∀ i j ei ej,es[i]?=some ei->es[j]?=some ej->ei.isGone=false->ej.isGone=false->ρ (k0+i)=ρ (k0+j)->i=j)->∀ {k:Nat}{e:ESh},es[k]?=some e->e.isGone=false->wa ρ fx Hr es k0 base (ρ (k0+k))=(Hr (k0+k)).map (Ent.mv ρ (fx (ρ (k0+k))))
 |[],_,_,k,e,h,_=>by simp at h
 |e0::es,k0,hinj,k,e,h,hg=>by
  unfold wa;cases k with
  |zero=>
   simp at h;subst h;simp [hg]
  |succ k=>
   have h':es[k]?=some e:=by simpa using h
   have hne:(!e0.isGone && Nat.beq (ρ (k0+(k+1))) (ρ k0))=false:=by
    cases hg0:e0.isGone with
    |true=>rfl
    |false=>
     cases hb:Nat.beq (ρ (k0+(k+1))) (ρ k0) with
     |false=>rfl
     |true=>
      have:=hinj (k+1) 0 e e0 h rfl hg hg0 (jz hb);omega
   rw [hne,G8]
   have:=zck (ρ:=ρ) (fx:=fx) (Hr:=Hr) (base:=base) (es:=es) (k0:=k0+1) (fun i j ei ej hi hj gi gj e=>by
    have:=hinj (i+1) (j+1) ei ej (by simpa using hi) (by simpa using hj) gi gj (by grind)
    omega) h' hg
   grind
def Zt (S Sr:St C) (d:Nat) (bl:Bl) (es:List ESh):St C:=
 let gone:=fun i=>zA i (Yk es bl)
 let lent:=fun i=>Z5 i bl && !zA i (kpL Sr bl 0)
 {env:=fun t=>AV.kill gone (AV.knx lent (S.env t)),heap:=wa (xa d bl) (fun i=>ZT (S.heap i)) Sr.heap es 0 fun i=>bif gone i then none else (S.heap i).map fun e=>Ent.kill gone (Ent.knx lent e)}
theorem ztt {d i j:Nat}(h:nid d i=nid d j):i=j:=by unfold nid at h;omega
theorem AbsL.merge (h:AbsL κ S ν vs ids L b Z PV) (hr:AbsL κs Sr νr vsr idsr Lr br Z' A') (hle:Z.le Z') {bl:Bl}{d:Nat}{es:List ESh}
    (hinj:∀ i j id,Bl.fn bl i=some id->Bl.fn bl j=some id->i=j) (hlt:∀ k id,Bl.fn bl k=some id->k < κs.m) (hin:∀ k id,Bl.fn bl k=some id->(S.heap id).isSome=true)
    (hkeep:∀ k id,Bl.fn bl k=some id->κs.ν0.hdr k=ν.hdr id/\κs.ν0.adr k=ν.adr id)
    (hal:∀ k,(Sr.heap k).isSome=true↔∃ e,es[k]?=some e/\e.isGone=false) (hfr:∀ k,(Sr.heap k).isSome=true->Bl.fn bl k=none->S.heap (nid d k)=none) (hlen:κs.m<=es.length) :
    ∃ ν2 vs2 ids2,AbsL κ (Zt S Sr d bl es) ν2 vs2 ids2 L b Z' (A'++((ids.filter fun j=> !Z5 j bl).map fun j=>zG C ν vs j (S.heap j)))/\
      (∀ k,(Sr.heap k).isSome=true->ν2.hdr (xa d bl k)=νr.hdr k/\ν2.adr (xa d bl k)=νr.adr k)/\∀ k,(Sr.heap k).isSome=true->((Zt S Sr d bl es).heap (xa d bl k)).isSome=true:=by
  classical
  let ρ:=xa d bl
  let gone:Nat->Bool:=fun i=>zA i (Yk es bl)
  let lent:Nat->Bool:=fun i=>Z5 i bl && !zA i (kpL Sr bl 0)
  let kk:Ent C->Ent C:=fun e=>Ent.kill gone (Ent.knx lent e)
  have hrs:∀ k id,Bl.fn bl k=some id->ρ k=id:=fun k id e=>by simp [ρ,xa,e]
  have hrn:∀ k,Bl.fn bl k=none->ρ k=nid d k:=fun k e=>by simp [ρ,xa,e]
  have hρ:∀ i j,(Sr.heap i).isSome=true->(Sr.heap j).isSome=true->ρ i=ρ j->i=j:=fun i j hi hj e=>by
    cases ei:Bl.fn bl i with
    |some a=>
      rw [hrs i a ei] at e;cases ej:Bl.fn bl j with
      |some c=>grind
      |none=>
        grind
    |none=>
      rw [hrn i ei] at e;cases ej:Bl.fn bl j with
      |some c=>
        grind
      |none=>rw [hrn j ej] at e;exact ztt e
  let nm:Nat->G3 Nat:=fun i=>if hx:∃ k,(Sr.heap k).isSome=true/\ρ k=i then some hx.choose else none
  have hnm:∀ k,(Sr.heap k).isSome=true->nm (ρ k)=some k:=fun k hk=>by
    have hx:∃ j,(Sr.heap j).isSome=true/\ρ j=ρ k:=⟨k,hk,rfl⟩
    grind
  have hnm0:∀ i,(∀ k,(Sr.heap k).isSome=true->ρ k≠i)->nm i=none:=fun i hi=>by
    grind
  let ν2:Val:={hdr:=fun i=>match nm i with | some k=>νr.hdr k | none=>ν.hdr i,adr:=fun i=>match nm i with | some k=>νr.adr k | none=>ν.adr i}
  let vs2:Nat->List Value:=fun i=>match nm i with | some k=>vsr k | none=>vs i
  have f1:∀ k,(Sr.heap k).isSome=true->ν2.hdr (ρ k)=νr.hdr k/\ν2.adr (ρ k)=νr.adr k:=fun k hk=>by grind
  have old:∀ k i,(Sr.heap k).isSome=true->(S.heap i).isSome=true->ρ k=i->Bl.fn bl k=some i:=fun k i hk hi e=>by
    cases ek:Bl.fn bl k with
    |some a=>grind
    |none=>grind
  have f2:∀ i,(S.heap i).isSome=true->ν.hdr i=ν2.hdr i/\(ν.adr i).a=(ν2.adr i).a:=fun i hi=>by
    by_cases hx:∃ k,(Sr.heap k).isSome=true/\ρ k=i
    ·obtain ⟨k,h1,h2⟩:=hx;have e:=old k i h1 hi h2;have k1:=hr.keep k (hlt k i e) h1;have k2:=hkeep k i e;have k3:=f1 k h1;rw [h2] at k3;grind
    grind
  have fk:∀ k i,(Sr.heap k).isSome=true->Bl.fn bl k=some i->ZT (Sr.heap k)=true->(ν.adr i).sub=(ν2.adr i).sub:=fun k i h1 e hf=>by
    have k1:=hr.keep k (hlt k i e) h1;have k3:=f1 k h1;rw [hrs k i e] at k3;grind
  have f3:∀ i,(S.heap i).isSome=true->lent i=false->(ν.adr i).sub=(ν2.adr i).sub:=fun i hi hm=>by
    by_cases hx:∃ k,(Sr.heap k).isSome=true/\ρ k=i
    ·obtain ⟨k,h1,h2⟩:=hx;have e:=old k i h1 hi h2;have hm:(Z5 i bl && !zA i (kpL Sr bl 0))=false:=hm;rw [xQ e,Bool.true_and,Bool.not_eq_false'] at hm;obtain ⟨j,e1,e2⟩:=zkY (zN.1 hm);grind
    grind
  have H1:∀ k,(Sr.heap k).isSome=true->(Zt S Sr d bl es).heap (ρ k)=(Sr.heap k).map (Ent.mv ρ (ZT (S.heap (ρ k)))):=fun k hk=>by
    obtain ⟨e,he,hg⟩:=(hal k).1 hk
    have:=zck (ρ:=ρ) (fx:=fun i=>ZT (S.heap i)) (Hr:=Sr.heap) (base:=fun i=>bif gone i then none else (S.heap i).map kk) (es:=es) (k0:=0) (fun i j ei ej hi hj gi gj e=>by
      rw [GY,GY] at e
      exact hρ i j ((hal i).2 ⟨ei,hi,gi⟩) ((hal j).2 ⟨ej,hj,gj⟩) e) he hg
    rw [GY] at this;exact this
  have H2:∀ i,(∀ k,(Sr.heap k).isSome=true->ρ k≠i)->(Zt S Sr d bl es).heap i=bif gone i then none else (S.heap i).map kk:=fun i hi=>
    WU fun k e he hg=>by rw [GY];exact fun e'=>hi k ((hal k).2 ⟨e,he,hg⟩) e'.symm
  have gmem:∀ i,gone i=true->Z5 i bl=true:=fun i hi=>by
    obtain ⟨k,e,_,_,h3⟩:=Vx.1 (zN.1 hi);exact xQ h3
  have galive:∀ i,gone i=true->∀ k,(Sr.heap k).isSome=true->ρ k≠i:=fun i hi k hk e=>by
    obtain ⟨j,ee,h1,h2,h3⟩:=Vx.1 (zN.1 hi);have hi':=hin j i h3;have e2:=old k i hk hi' e;have:=hinj j k i h3 e2;subst this;obtain ⟨e3,h4,h5⟩:=(hal j).1 hk;rw [h1] at h4;cases h4;rw [h2] at h5;cases h5
  have rest:∀ i,i∈ids.filter (fun j=> !Z5 j bl)->(S.heap i).isSome=true/\gone i=false/\∀ k,(Sr.heap k).isSome=true->ρ k≠i:=fun i hi=>by
    obtain ⟨h1,h2⟩:=U2.1 hi;have h3:=(h.dom i).1 h1;have h2:Z5 i bl=false:=by simpa using h2
    refine ⟨h3,?_,fun k hk e=>?_⟩
    · cases hg:gone i with
      |false=>rfl
      |true=>rw [gmem i hg] at h2;cases h2
    ·rw [xQ (old k i hk h3 e)] at h2;cases h2
  have live1:∀ k,(Sr.heap k).isSome=true->((Zt S Sr d bl es).heap (ρ k)).isSome=true:=fun k hk=>by rw [H1 k hk];simpa using hk
  have live2:∀ i,(S.heap i).isSome=true/\gone i=false->((Zt S Sr d bl es).heap i).isSome=true:=fun i ⟨h1,h2⟩=>by
    by_cases hx:∃ k,(Sr.heap k).isSome=true/\ρ k=i
    ·obtain ⟨k,h3,h4⟩:=hx;rw [<- h4];exact live1 k h3
    ·rw [H2 i fun k h3 h4=>hx ⟨k,h3,h4⟩,h2];simpa using h1
  have idr:∀ k,k∈idsr↔(Sr.heap k).isSome=true:=hr.dom
  refine ⟨ν2,vs2,idsr.map ρ++ids.filter fun j=> !Z5 j bl,⟨⟨?_,fun i=>?_,?_,fun i cs hi=>?_,fun t=>?_,fun i=>?_⟩,fun t=>?_,fun i cs hi=>?_,fun k hk hs=>?_⟩,f1,live1⟩
  · refine List.nodup_append.2 ⟨?_,List.Nodup.sublist List.filter_sublist h.nd,?_⟩
    ·rw [GD,List.pairwise_map];refine List.Pairwise.imp_of_mem ?_ (GD.1 hr.nd);intro i j hi hj hne e;exact hne (hρ i j ((idr i).1 hi) ((idr j).1 hj) e)
    ·intro i hi j hj e;subst e;obtain ⟨k,hk,rfl⟩:=U0.1 hi;exact (rest _ hj).2.2 k ((idr k).1 hk) rfl
  · rw [G5];constructor
    · rintro (hi | hi)
      ·obtain ⟨k,hk,rfl⟩:=U0.1 hi;exact live1 k ((idr k).1 hk)
      ·have:=rest i hi;exact live2 i ⟨this.1,this.2.1⟩
    · intro hi;by_cases hx:∃ k,(Sr.heap k).isSome=true/\ρ k=i
      ·obtain ⟨k,h3,h4⟩:=hx;exact .inl (U0.2 ⟨k,(idr k).2 h3,h4⟩)
      · right;have h2:=H2 i fun k h3 h4=>hx ⟨k,h3,h4⟩
        rw [h2] at hi;cases hg:gone i with
        |true=>rw [hg] at hi;cases hi
        |false=>
          rw [hg] at hi;have hs:(S.heap i).isSome=true:=by simpa using hi
          refine U2.2 ⟨(h.dom i).2 hs,?_⟩;cases hm:Z5 i bl with
          |false=>rfl
          |true=>
            exfalso;obtain ⟨k,ek⟩:=zec hm;have hkl:k < es.length:=Nat.lt_of_lt_of_le (hlt k i ek) hlen;cases hge:es[k].isGone with
            |true=>
              have:gone i=true:=zN.2 (Vx.2 ⟨k,es[k],GI hkl,hge,ek⟩);rw [hg] at this;cases this
            |false=>exact hx ⟨k,(hal k).2 ⟨_,GI hkl,hge⟩,hrs k i ek⟩
  · rw [U5];congr 1
    · rw [hr.pv,List.map_map];refine Ux fun k hk=>?_
      have hk:=(idr k).1 hk;show _=zG C ν2 vs2 (ρ k) ((Zt S Sr d bl es).heap (ρ k));rw [H1 k hk];have e1:=f1 k hk;cases hs:Sr.heap k with
      |none=>rw [hs] at hk;cases hk
      |some en=>
        cases en with
        |orow T s g=>
          show Priv.row (Zh C T) T (νr.hdr k) (hpl C T (νr.adr k).sub s g)=Priv.row (Zh C T) T (ν2.hdr (ρ k)) (hpl C T (ν2.adr (ρ k)).sub s (g.ufx _));rw [e1.1,e1.2,zb9 (g:=g) (g':=g.ufx (ZT (S.heap (ρ k)))) fun j _=>⟨(Own.ufx_fl j).symm,rfl⟩]
        |cell=>simp [zG,Ent.mv,e1,vs2,hnm k hk]
        |row=>simp [zG,Ent.mv,e1]
        |obj=>simp [zG,Ent.mv,e1]
    · refine Ux fun i hi=>?_
      obtain ⟨r1,r2,r3⟩:=rest i hi;show _=zG C ν2 vs2 i ((Zt S Sr d bl es).heap i);rw [H2 i r3,r2,G8];have e1:=f2 i r1;have e2:=hnm0 i r3;cases hs:S.heap i with
      |none=>rw [hs] at r1;cases r1
      |some en=>
        have e3:=f3 i r1 (by show (Z5 i bl && _)=false;rw [show Z5 i bl=false by simpa using (U2.1 hi).2];rfl);cases en <;> simp [zG,kk,Ent.kill,Ent.knx,<- e1.1,<- e1.2,<- e3,vs2,e2]
  · by_cases hx:∃ k,(Sr.heap k).isSome=true/\ρ k=i
    · obtain ⟨k,h3,h4⟩:=hx;subst h4;rw [H1 k h3] at hi;cases hs:Sr.heap k with
      |none=>rw [hs] at h3;cases h3
      |some en=>
        rw [hs] at hi;cases en with
        |row T s=>cases hi
        |obj q T b s=>cases hi
        |orow T s g=>cases hi
        |cell cs0=>
          cases hi;show VRs C Z' ν2 (vs2 (ρ k)) _;simp only [vs2,hnm k h3];exact VRs.ren (p:=fun id=>(Sr.heap id).isSome=true) (fun j hj=>f1 j hj) (hr.livec k cs0 hs) (hr.cell k cs0 hs)
    · have r3:∀ k,(Sr.heap k).isSome=true->ρ k≠i:=fun k h3 h4=>hx ⟨k,h3,h4⟩
      rw [H2 i r3] at hi;cases hg:gone i with
      |true=>rw [hg] at hi;cases hi
      |false=>
        rw [hg,G8] at hi;cases hs:S.heap i with
        |none=>rw [hs] at hi;cases hi
        |some en=>
          rw [hs] at hi;cases en with
          |row T s=>cases hi
          |obj q T b s=>cases hi
          |orow T s g=>cases hi
          |cell cs0=>
            cases hi;show VRs C Z' ν2 (vs2 i) _;simp only [vs2,hnm0 i r3];exact VRs.kill (VRs.knx (q:=lent) f2 f3 (h.livec i cs0 hs) ((h.cell i cs0 hs).mono hle))
  ·exact VR.kill (VR.knx (q:=lent) f2 f3 (h.live t) ((h.env t).mono hle))
  · show (ν2.hdr i).oneCell'=true;simp only [ν2];cases nm i with
    |none=>exact h.one i
    |some k=>exact hr.one k
  ·exact AV.ok_mono live2 (AV.ok_kill (AV.ok_knx (h.live t)))
  · by_cases hx:∃ k,(Sr.heap k).isSome=true/\ρ k=i
    · obtain ⟨k,h3,h4⟩:=hx;subst h4;rw [H1 k h3] at hi;cases hs:Sr.heap k with
      |none=>rw [hs] at h3;cases h3
      |some en=>
        rw [hs] at hi;cases en with
        |row T s=>cases hi
        |obj q T b s=>cases hi
        |orow T s g=>cases hi
        |cell cs0=>cases hi;exact AV.oks_ren live1 (hr.livec k cs0 hs)
    · have r3:∀ k,(Sr.heap k).isSome=true->ρ k≠i:=fun k h3 h4=>hx ⟨k,h3,h4⟩
      rw [H2 i r3] at hi;cases hg:gone i with
      |true=>rw [hg] at hi;cases hi
      |false=>
        rw [hg,G8] at hi;cases hs:S.heap i with
        |none=>rw [hs] at hi;cases hi
        |some en=>
          rw [hs] at hi;cases en with
          |row T s=>cases hi
          |obj q T b s=>cases hi
          |orow T s g=>cases hi
          |cell cs0=>cases hi;exact AV.oks_mono live2 (AV.oks_kill (AV.oks_knx (h.livec i cs0 hs)))
  · have hsome:(S.heap k).isSome=true:=by
      by_cases hx:∃ j,(Sr.heap j).isSome=true/\ρ j=k
      · obtain ⟨j,h3,h4⟩:=hx;cases ej:Bl.fn bl j with
        |some a=>rw [hrs j a ej] at h4;rw [<- h4];exact hin j a ej
        |none=>
          rw [hrn j ej] at h4;have:=Yx κ d j;omega
      · rw [H2 k fun j h3 h4=>hx ⟨j,h3,h4⟩] at hs;cases hg:gone k with
        |true=>rw [hg] at hs;cases hs
        |false=>rw [hg] at hs;simpa using hs
    have:=h.keep k hk hsome;have e2:=f2 k hsome;refine ⟨e2.1.symm.trans this.1,e2.2.symm.trans this.2.1,fun hf=>?_⟩;by_cases hx:∃ j,(Sr.heap j).isSome=true/\ρ j=k
    ·obtain ⟨j,h3,h4⟩:=hx;subst h4;rw [H1 j h3] at hf;obtain ⟨g1,g2⟩:=zts hf;exact (fk j _ h3 (old j _ h3 hsome rfl) g1).symm.trans (this.2.2 g2)
    · have r3:∀ j,(Sr.heap j).isSome=true->ρ j≠k:=fun j h3 h4=>hx ⟨j,h3,h4⟩
      have e3:ν2.adr k=ν.adr k:=by simp [ν2,hnm0 k r3]
      rw [e3];refine this.2.2 ?_;rw [H2 k r3] at hf;cases hg:gone k with
      |true=>rw [hg] at hf;cases hf
      |false=>
        rw [hg,G8] at hf;cases hs2:S.heap k with
        |none=>rw [hs2] at hf;cases hf
        |some en=>rw [hs2] at hf;cases en <;> first | exact hf | cases hf
end
variable [Dfr]
section
variable {C:Cod}
def ye:(outs:List (XK×Sig))->zi C outs->List ESh
 |[],y=>y.elim
 |[o],_=>o.2.es
 |o::o2::r,y=>match (y:XK.ty C o.1 o.2⊕zi C (o2::r)) with
  | .inl _=>o.2.es
  | .inr y=>ye (o2::r) y
def zc8 (es:List ESh) (S:St C):Prop:=∀ k,(S.heap k).isSome=true↔∃ e,es[k]?=some e/\e.isGone=false
theorem zcl:∀ (es:List ESh) (k0:Nat) (x:Sh.tys C (es.map ESh.sh)) (k:Nat),(ZI (fun k=>k) es k0 x k).isSome=true↔∃ j e,k=k0+j/\es[j]?=some e/\e.isGone=false
 |[],k0,x,k=>by simp [ZI]
 |e::es,k0,x,k=>by
  unfold ZI;cases hb:Nat.beq k k0 with
  |true=>
   have hk:=jz hb;subst hk;rw [Uv];constructor
   ·intro h;refine ⟨0,e,rfl,rfl,?_⟩;cases e <;> first | rfl | (simp [ESh.ent] at h)
   ·rintro ⟨j,e',h1,h2,h3⟩;have:j=0:=by omega
    subst this;simp at h2;subst h2;cases e <;> first | rfl | cases h3
  |false=>
   rw [G8,zcl es (k0+1)];constructor
   ·rintro ⟨j,e',h1,h2,h3⟩;exact ⟨j+1,e',by omega,by simpa using h2,h3⟩
   ·rintro ⟨j,e',h1,h2,h3⟩;cases j with
    |zero=>subst h1;simp at hb
    |succ j=>grind
theorem xr (g:Sig) (x:g.ty C):zc8 g.es (g.open x):=fun k=>by
 show (ZI (fun k=>k) g.es 0 (We g.ts (g.es.map ESh.sh) x) k).isSome=true↔_;rw [zcl];constructor
 ·grind
 grind
theorem Xa {α:Type}{Q:XE C->St C->Prop}{K:XE C->St C->α}{z:α}:∀ {outs:List (XK×Sig)}{r:zi C outs},zQ outs r K=z->zQ outs r Q->∃ e S,K e S=z/\Q e S/\zc8 (ye outs r) S
 |[],r,_,_=>r.elim
 |[o],r,h,q=>one h q
 |o::o2::l,r,h,q=>by
  unfold zQ at h q;unfold ye;cases r with
  |inl a=>exact one h q
  |inr y=>exact Xa h q
where
 one {α:Type} {Q:XE C->St C->Prop} {K:XE C->St C->α} {z:α} {o:XK×Sig} {y:XK.ty C o.1 o.2} (h:yQ o.1 o.2 y K=z) (q:yQ o.1 o.2 y Q):∃ e S,K e S=z/\Q e S/\zc8 o.2.es S:=by
  obtain ⟨k,g⟩:=o;cases k with
  |normal=>exact ⟨_,_,h,q,xr g _⟩
  |exit i=>exact ⟨_,_,h,q,xr g _⟩
  |ret=>exact ⟨_,_,h,q,xr g _⟩
  |pan s=>exact ⟨_,_,h,q,xr g _⟩
end
def vB:Nat:=1000000000
section
variable {κ:Kp}{C:Cod}{S:St C}{n:Nat}{w0:Start}{σ0 Z:FS}{P:Program}{L:List (Nat×Value)}{b:Nat->Value}{PV:List Priv}{ν:Val}{vs:Nat->List Value}{ids:List Nat}
def virt (S:St C) (As:List (AV C.D)):St C:={env:=fun t=>bif Nat.blt t vB then S.env t else (As[t - vB]?).getD .und,heap:=S.heap}
def unvirt (S:St C):St C:={env:=fun t=>bif Nat.blt t vB then S.env t else .und,heap:=S.heap}
def yf (L:List (Nat×Value)) (b:Nat->Value) (us:List Value) (t:Nat):Value:=bif Nat.blt t vB then look L b t else (us[t - vB]?).getD undef
omit [Dfr] in
theorem AbsL.virt (h:AbsL κ S ν vs ids L b Z PV) {us:List Value}{As:List (AV C.D)}(hr:VRs C Z ν us As) (hl:AV.oks (fun id=>(S.heap id).isSome=true) As):AbsL κ (virt S As) ν vs ids [] (yf L b us) Z PV:=by
 refine ⟨⟨h.nd,h.dom,h.pv,h.cell,fun t=>?_,h.one⟩,fun t=>?_,h.livec,h.keep⟩
 ·show VR C Z ν (yf L b us t) (bif Nat.blt t vB then S.env t else (As[t - vB]?).getD .und);unfold yf;cases Nat.blt t vB with
  |true=>exact h.env t
  |false=>
   simp only [G8];cases e:As[t - vB]? with
   |none=>trivial
   |some A=>
    obtain ⟨u,e1,e2⟩:=hr.get _ A e;grind
 ·show (bif Nat.blt t vB then S.env t else (As[t - vB]?).getD .und).ok _;cases Nat.blt t vB with
  |true=>exact h.live t
  |false=>
   simp only [G8];cases e:As[t - vB]? with
   |none=>trivial
   |some A=>exact AV.oks_iff.1 hl A (GS e)
omit [Dfr] in
theorem AbsL.unvirt {us:List Value}(h:AbsL κ S ν vs ids [] (yf L b us) Z PV):AbsL κ (unvirt S) ν vs ids L b Z PV:=by
 refine ⟨⟨h.nd,h.dom,h.pv,h.cell,fun t=>?_,h.one⟩,fun t=>?_,h.livec,h.keep⟩
 ·show VR C Z ν _ (bif Nat.blt t vB then S.env t else .und);have:=h.env t;have this:VR C Z ν (yf L b us t) (S.env t):=this;unfold yf at this;cases e:Nat.blt t vB with
  |true=>grind
  |false=>trivial
 ·show (bif Nat.blt t vB then S.env t else .und).ok _;cases Nat.blt t vB with
  |true=>exact h.live t
  |false=>trivial
def Sig.shift (g:Sig):Sig:={ts:=g.ts.map fun t=>(vB+t.1,t.2),es:=g.es}
def YT (S:St C):St C:={env:=fun t=>S.env (vB+t),heap:=S.heap}
def Yq (ins:Sig) (T:St C) (n:Nat):G3 (St C×Bl×ins.ty C):=
 let S2:=ins.shift.prep 0 T
 let bl:=Zu ins.shift 0 S2
 chk (Nat.beq n ins.ts.length && Nat.ble ins.es.length 64) ((YC ins 0 (YT S2) bl).map fun x=>(S2,bl,x))
def YA (ins:Sig) (S:St C) (As:List (AV C.D)):G3 (St C×Bl×ins.ty C):=
 let S2:=ins.shift.prep 0 (virt S As)
 let bl:=Zu ins.shift 0 S2
 chk (Nat.beq As.length ins.ts.length && Nat.ble ins.es.length 64) ((YC ins 0 (YT S2) bl).map fun x=>(S2,bl,x))
def vM (S Sr:St C) (d:Nat) (bl:Bl):Nat->Bool
 |0=>true
 |k+1=>(match Bl.fn bl k with
  |some _=>true
  |none=>isNone (Sr.heap k) || isNone (S.heap (nid d k))) && vM S Sr d bl k
theorem zcm {S Sr:St C}{d:Nat}{bl:Bl}:∀ {N:Nat},vM S Sr d bl N=true->∀ k,k < N->(Sr.heap k).isSome=true->Bl.fn bl k=none->S.heap (nid d k)=none
 |N+1,h,k,hk,h1,h2=>by
  simp only [vM,g9] at h;by_cases e:k=N
  ·subst e;rw [h2] at h;simp only [GO] at h;rcases h.1 with q | q
   ·rw [Zi q] at h1;cases h1
   ·exact Zi q
  ·exact zcm h.2 k (by omega) h1 h2
def ziZ (ρ:Nat->Nat) (nr:Nat) (Sr:St C):AV C.D:=match nr with
 |1=>AV.ren ρ (Sr.env 0)
 |k =>.tup ((List.range k).map fun i=>AV.ren ρ (Sr.env i))
def wy (S2:St C) (d nr:Nat) (bl:Bl) (es:List ESh) (e:XE C) (Sr:St C):G3 (Out C):=
 chk (vM S2 Sr d bl es.length) (match e with
  | .ret=>some (.go ((unvirt (Zt S2 Sr d bl es)).put d (ziZ (xa d bl) nr Sr)))
  | .pan A=>some (.pan A (unvirt (Zt S2 Sr d bl es)))
  |_=>none)
def xb (s:Spec C) (d:Nat) (S2:St C) (bl:Bl) (x:s.ins.ty C):G3 (Out C):=
 (s.F x).bind fun r=>chk (Nat.ble s.ins.es.length (ye s.outs r).length) (zQ s.outs r fun e Sr=>wy S2 d s.nr bl (ye s.outs r) e Sr)
mutual
def AV.flat {D:Nat->Type}:AV D->Bool
 | .int _ _=>true
 | .bool _=>true
 | .str _=>true
 | .pnil=>true
 | .nils=>true
 | .nilf=>true
 | .nili=>true
 | .und=>true
 | .agg cs=>AV.flats cs
 | .tup cs=>AV.flats cs
 | .clo _ cs=>AV.flats cs
 | .ifc _ A=>AV.flat A
 |_=>false
def AV.flats {D:Nat->Type}:List (AV D)->Bool
 |[]=>true
 |A::As=>AV.flat A && AV.flats As
end
omit [Dfr] in
mutual
theorem VR.flat {Z':FS}{ν':Val}:∀ {A:AV C.D}{v:Value},A.flat=true->VR C Z ν v A->VR C Z' ν' v A
 | .int _ _,v,_,r=>by rw [r.int_inv];exact Rv.int
 | .bool _,v,_,r=>by rw [r.bool_inv];exact Rv.bool
 | .str _,v,_,r=>by rw [r.str_inv];exact Rv.str
 | .pnil,v,_,r=>by rw [r.pnil_inv];exact Rv.pnil
 | .nils,v,_,r=>r
 | .nilf,v,_,r=>by
  have:Rv C Z v .nilf:=r;cases this;exact Rv.nilf
 | .nili,v,_,r=>by rw [r.nili_inv];exact Rv.nili
 | .und,v,_,r=>trivial
 | .agg cs,v,h,⟨vs,e,r⟩=>⟨vs,e,VRs.flat h r⟩
 | .tup cs,v,h,⟨vs,e,r⟩=>⟨vs,e,VRs.flat h r⟩
 | .clo _ cs,v,h,⟨vs,e,r⟩=>⟨vs,e,VRs.flat h r⟩
 | .ifc _ A,v,h,⟨u,e,r⟩=>⟨u,e,VR.flat (A:=A) h r⟩
 | .sl _ _ _,_,h,_=>by cases h
 | .row _,_,h,_=>by cases h
 | .pc _ _,_,h,_=>by cases h
 | .pr _ _ _ _,_,h,_=>by cases h
 | .nx _ _ _ _,_,h,_=>by cases h
 | .pz _ _ _,_,h,_=>by cases h
theorem VRs.flat {Z':FS}{ν':Val}:∀ {cs:List (AV C.D)}{vs:List Value},AV.flats cs=true->VRs C Z ν vs cs->VRs C Z' ν' vs cs
 |[],[],_,_=>trivial
 |A::As,v::vs,h,⟨r,s⟩=>by
  simp only [AV.flats,g9] at h;exact ⟨VR.flat h.1 r,VRs.flat h.2 s⟩
 |[],_::_,_,r=>r.elim
 |_::_,[],_,r=>r.elim
end
omit [Dfr] in
mutual
theorem w7 {D:Nat->Type}{p:Nat->Prop}:∀ {A:AV D},A.flat=true->A.ok p
 | .int _ _,_=>trivial
 | .bool _,_=>trivial
 | .str _,_=>trivial
 | .pnil,_=>trivial
 | .nils,_=>trivial
 | .nilf,_=>trivial
 | .nili,_=>trivial
 | .und,_=>trivial
 | .agg cs,h=>za4 (A:=cs) h
 | .tup cs,h=>za4 (A:=cs) h
 | .clo _ cs,h=>za4 (A:=cs) h
 | .ifc _ A,h=>w7 (A:=A) h
 | .sl _ _ _,h=>by cases h
 | .row _,h=>by cases h
 | .pc _ _,h=>by cases h
 | .pr _ _ _ _,h=>by cases h
 | .nx _ _ _ _,h=>by cases h
 | .pz _ _ _,h=>by cases h
theorem za4 {D:Nat->Type}{p:Nat->Prop}:∀ {A:List (AV D)},AV.flats A=true->AV.oks p A
 |[],_=>trivial
 |A::As,h=>by
  simp only [AV.flats,g9] at h;exact ⟨w7 h.1,za4 h.2⟩
end
mutual
def Sh.flat:Sh->Bool
 | .int _=>true
 | .bool=>true
 | .str=>true
 | .pnil=>true
 | .nilf=>true
 | .nili=>true
 | .und=>true
 | .tup l=>Sh.flats l
 | .ifc _ s=>Sh.flat s
 |_=>false
def Sh.flats:List Sh->Bool
 |[]=>true
 |s::l=>Sh.flat s && Sh.flats l
end
def Spec.view (s:Spec C):Bool:=s.ins.es.isEmpty && s.outs.all fun o=>o.2.es.isEmpty && (Sh.flats (o.2.ts.map (·.2)) && (match o.1 with | .pan t=>t.flat | _=>true))
mutual
def AV.flatN {D:Nat->Type}:AV D->Bool
 | .int _ _=>true
 | .bool _=>true
 | .str _=>true
 | .pnil=>true
 | .nils=>true
 | .nilf=>true
 | .nili=>true
 | .und=>true
 | .row _=>true
 | .pc _ _=>true
 | .pr _ _ _ _=>true
 | .nx _ _ _ _=>true
 | .agg cs=>AV.flatNs cs
 | .tup cs=>AV.flatNs cs
 | .clo _ cs=>AV.flatNs cs
 | .ifc _ A=>AV.flatN A
 |_=>false
def AV.flatNs {D:Nat->Type}:List (AV D)->Bool
 |[]=>true
 |A::As=>AV.flatN A && AV.flatNs As
end
omit [Dfr] in
mutual
theorem VR.flatN {Z':FS}:∀ {A:AV C.D}{v:Value},A.flatN=true->VR C Z ν v A->VR C Z' ν v A
 | .int _ _,v,_,r=>by rw [r.int_inv];exact Rv.int
 | .bool _,v,_,r=>by rw [r.bool_inv];exact Rv.bool
 | .str _,v,_,r=>by rw [r.str_inv];exact Rv.str
 | .pnil,v,_,r=>by rw [r.pnil_inv];exact Rv.pnil
 | .nils,v,_,r=>r
 | .nilf,v,_,r=>by
  have:Rv C Z v .nilf:=r;cases this;exact Rv.nilf
 | .nili,v,_,r=>by rw [r.nili_inv];exact Rv.nili
 | .und,v,_,r=>trivial
 | .row _,v,_,r=>r
 | .pc _ _,v,_,r=>r
 | .pr _ _ _ _,v,_,r=>r
 | .nx _ _ _ _,v,_,r=>r
 | .agg cs,v,h,⟨vs,e,r⟩=>⟨vs,e,VRs.flatN h r⟩
 | .tup cs,v,h,⟨vs,e,r⟩=>⟨vs,e,VRs.flatN h r⟩
 | .clo _ cs,v,h,⟨vs,e,r⟩=>⟨vs,e,VRs.flatN h r⟩
 | .ifc _ A,v,h,⟨u,e,r⟩=>⟨u,e,VR.flatN (A:=A) h r⟩
 | .sl _ _ _,_,h,_=>by cases h
 | .pz _ _ _,_,h,_=>by cases h
theorem VRs.flatN {Z':FS}:∀ {cs:List (AV C.D)}{vs:List Value},AV.flatNs cs=true->VRs C Z ν vs cs->VRs C Z' ν vs cs
 |[],[],_,_=>trivial
 |A::As,v::vs,h,⟨r,s⟩=>by
  simp only [AV.flatNs,g9] at h;exact ⟨VR.flatN h.1 r,VRs.flatN h.2 s⟩
 |[],_::_,_,r=>r.elim
 |_::_,[],_,r=>r.elim
end
mutual
def Sh.flatN:Sh->Bool
 | .int _=>true
 | .bool=>true
 | .str=>true
 | .pnil=>true
 | .nils=>true
 | .nilf=>true
 | .nili=>true
 | .und=>true
 | .row _=>true
 | .pc _ _=>true
 | .pr _ _ _=>true
 | .nx _ _=>true
 | .nxe _ _ _ _=>true
 | .nxp _ _ _=>true
 | .agg l=>Sh.flatNs l
 | .tup l=>Sh.flatNs l
 | .clo _ l=>Sh.flatNs l
 | .ifc _ s=>Sh.flatN s
 |_=>false
def Sh.flatNs:List Sh->Bool
 |[]=>true
 |s::l=>Sh.flatN s && Sh.flatNs l
end
omit [Dfr] in
mutual
theorem Sh.put_flatN {ρ:Nat->Nat}:∀ (s:Sh) {x:s.ty C},s.flatN=true->(Sh.put ρ s x).flatN=true
 | .int _,_,_=>rfl
 | .bool,_,_=>rfl
 | .str,_,_=>rfl
 | .pnil,_,_=>rfl
 | .nils,_,_=>rfl
 | .nilf,_,_=>rfl
 | .nili,_,_=>rfl
 | .und,_,_=>rfl
 | .row _,_,_=>rfl
 | .pc _ _,_,_=>rfl
 | .pr _ _ _,_,_=>rfl
 | .nx _ _,_,_=>rfl
 | .nxe _ _ _ _,_,_=>rfl
 | .nxp _ _ _,_,_=>rfl
 | .agg l,x,h=>Sh.putc_flatN l h
 | .tup l,x,h=>Sh.puts_flatN l h
 | .clo _ l,x,h=>Sh.puts_flatN l h
 | .ifc _ s,x,h=>Sh.put_flatN s h
 | .val _,_,h=>by cases h
 | .sl _,_,h=>by cases h
 | .pz _ _,_,h=>by cases h
 | .orow _,_,h=>by cases h
theorem Sh.puts_flatN {ρ:Nat->Nat}:∀ (l:List Sh) {x:Sh.tys C l},Sh.flatNs l=true->AV.flatNs (Sh.puts ρ l x)=true
 |[],_,_=>rfl
 |s::l,x,h=>by
  simp only [Sh.flatNs,g9] at h;simp only [Sh.puts,AV.flatNs,g9];exact ⟨Sh.put_flatN s h.1,Sh.puts_flatN l h.2⟩
theorem Sh.putc_flatN {ρ:Nat->Nat}:∀ (l:List Sh) {x:Sh.tys C l},Sh.flatNs l=true->AV.flatNs (Sh.putc ρ l x)=true
 |[],_,_=>rfl
 |s::l,x,h=>by
  simp only [Sh.flatNs,g9] at h;have hv:Sh.isVal s=none:=by cases s <;> first | rfl | (simp [Sh.flatN] at h)
  unfold Sh.putc;simp only [hv,AV.flatNs,g9];exact ⟨Sh.put_flatN s h.1,Sh.putc_flatN l h.2⟩
end
def zwO:G3 Nat->Bool
 |none=>true
 |some _=>false
def Cod.flt (C:Cod) (T:Nat):Bool:=(C.lfs T).all zwO
def Cod.floE (C:Cod) (T:Nat):List (G3 Nat)->Nat->Bool
 |[],_=>true
 |none::r,k=>Cod.floE C T r (k+1)
 |some U::r,k=>Nat.beq k (C.nst T) && (C.flt U && Cod.floE C T r (k+1))
def Cod.flo (C:Cod) (T:Nat):Bool:=Cod.floE C T (C.lfs T) 0
def ESh.free (C:Cod):ESh->Bool
 | .cell l=>Sh.flatNs l
 | .row T=>C.flt T
 | .orow T=>C.flo T
 | .gone=>true
 |_=>false
theorem ztu {T:Nat}(h:C.flt T=true) {x:C.D T}{j:Nat}{A:AV C.D}(hj:(C.emb T x)[j]?=some A):A.num=true:=by
 rcases C.lfs_ok T x j A hj with h1 | ⟨U,s,_,h2⟩ | ⟨U,s,_,h2⟩
 ·exact h1
 ·have:=Uu.1 h _ (GS h2);cases this
 ·have:=Uu.1 h _ (GS h2);cases this
theorem zat {T:Nat}:∀ {l:List (G3 Nat)}{k j:Nat}{U:Nat},Cod.floE C T l k=true->l[j]?=some (some U)->k+j=C.nst T/\C.flt U=true
 |none::r,k,0,U,h,e=>by simp at e
 |none::r,k,j+1,U,h,e=>by
  have:=zat (l:=r) (k:=k+1) (j:=j) (U:=U) h (by simpa using e);grind
 |some V::r,k,0,U,h,e=>by
  simp at e;subst e;simp only [Cod.floE,g9] at h;exact ⟨by have:=jz h.1;omega,h.2.1⟩
 |some V::r,k,j+1,U,h,e=>by
  simp only [Cod.floE,g9] at h;have:=zat (l:=r) (k:=k+1) (j:=j) (U:=U) h.2.2 (by simpa using e);grind
 |[],k,j,U,h,e=>by simp at e
theorem zi0 {Z Z':FS}{u:Value}{A:AV C.D}(h:A.num=true) (r:Rv C Z u A):Rv C Z' u A:=by
 cases r <;> first | (cases h;done) | exact .int | exact .bool | exact .str
theorem zi1 {α:Type}{T:OTy α}{e:TypeId}{v:Value}{s:Sl α}{Z Z':FS}{h:zc}(hf:∀ x cs g,x∈s.xs->T.rel Z g cs x->T.rel Z' g cs x) (r:zo T e v s Z h):zo T e v s Z' h:=by
 rcases r with r | r | ⟨q,cap,cur,hb,gg,r1,r2,r3,r4,r5,r0,r6,r7,r8,r9,r10⟩
 ·exact .inl r
 ·exact .inr (.inl r)
 ·refine .inr (.inr ⟨q,cap,cur,hb,gg,r1,r2,r3,r4,r5,r0,r6,r7,r8,r9,?_⟩);obtain ⟨h1,hs,h2,h3,h4⟩:=r10;exact ⟨h1,hs,fun i x hx=>hf x _ _ (GS hx) (h2 i x hx),h3,h4⟩
theorem zkZ {Z Z':FS}{T:Nat}{v:Value}{s:Sl (C.D T)}{h:zc}(hf:C.flt T=true) (r:zo (zE C T).o T v s Z h):zo (zE C T).o T v s Z' h:=
 zi1 (fun x cs g _ r=>⟨r.1,fun j A hj=>by
  obtain ⟨u,k1,k2⟩:=r.2 j A hj
  exact ⟨u,k1,zi0 (ztu hf hj) k2⟩⟩) r
theorem ztv {Z Z':FS}{T:Nat}{v:Value}{sub:Nat->Value}{s:Sl (C.D T)}{h:zc}(hf:C.flo T=true) (r:zo (Zh C T) T v (hpl C T sub s .all) Z h):zo (Zh C T) T v (hpl C T sub s .all) Z' h:=by
 refine zi1 (fun p cs g hp r=>?_) r;have h1:p.2.1=1:=by
  obtain ⟨j,hj⟩:=List.mem_iff_getElem?.1 hp;simp only [hpl,Ur] at hj;cases hx:s.xs[j]? with
  |none=>grind
  |some x=>rw [hx] at hj;cases hj;rfl
 obtain ⟨k1,k2,k3,k4,k5,k6⟩:=(r:yP C T Z g cs p);refine ⟨k1,k2,fun j A hj hn=>?_,k4,fun e=>(by grind),fun e=>?_⟩
 ·obtain ⟨u,q1,q2⟩:=k3 j A hj hn;refine ⟨u,q1,zi0 ?_ q2⟩;rcases C.lfs_ok T p.1 j A hj with h2 | ⟨U,s',_,h2⟩ | ⟨U,s',_,h2⟩
  ·exact h2
  ·have:=(zat hf h2).1;omega
  ·have:=(zat hf h2).1;omega
 ·obtain ⟨U,s',q1,q2⟩:=k6 e;refine ⟨U,s',q1,zkZ ?_ q2⟩;have hh:Z1 C T p.1 ≠.und:=by grind
  unfold Z1 at q1 hh;cases hg:(C.emb T p.1)[C.nst T]? with
  |none=>grind
  |some A=>
   rw [hg] at q1;have q1:A = .sl U s' false:=q1;subst q1;rcases C.lfs_ok T p.1 _ _ hg with h2 | ⟨U',s2,e2,h2⟩ | ⟨U',s2,e2,h2⟩
   ·cases h2
   ·cases e2;exact (zat hf h2).2
   ·cases e2
theorem zbX {ρ:Nat->Nat}:∀ (ts:List (Nat×Sh)) (rest:List Sh) (x:Sh.tys C (ts.map (·.2)++rest)) (t:Nat),Sh.flatNs (ts.map (·.2))=true->(Wd ρ ts rest x t).flatN=true
 |[],_,_,_,_=>rfl
 |(t0,s)::ts,rest,x,t,h=>by
  simp only [GE,Sh.flatNs,g9] at h;unfold Wd;cases Nat.beq t t0 with
  |true=>exact Sh.put_flatN s h.1
  |false=>exact zbX ts rest _ t h.2
theorem zbY {ρ:Nat->Nat}:∀ (es:List ESh) (k0:Nat) (x:Sh.tys C (es.map ESh.sh)) (i:Nat) {e:Ent C},es.all (ESh.free C)=true->ZI ρ es k0 x i=some e->(∃ cs,e = .cell cs/\AV.flatNs cs=true)\/(∃ T s,e = .row T s/\C.flt T=true)\/∃ T s,e = .orow T s .all/\C.flo T=true
 |[],k0,x,i,e,h,he=>by cases he
 |e0::es,k0,x,i,e,h,he=>by
  simp only [List.all_cons,g9] at h;unfold ZI at he;cases hb:Nat.beq i (ρ k0) with
  |false=>rw [hb] at he;exact zbY es (k0+1) _ i h.2 he
  |true=>
   rw [hb,Uv] at he;have h1:=h.1;cases e0 with
   |cell l=>cases he;exact .inl ⟨_,rfl,Sh.putc_flatN l h1⟩
   |row T=>cases he;exact .inr (.inl ⟨T,_,rfl,h1⟩)
   |orow T=>cases he;exact .inr (.inr ⟨T,_,rfl,h1⟩)
   |obj k T=>cases h1
   |xrow T=>cases h1
   |forow T=>cases h1
   |gone=>cases he
omit [Dfr] in
theorem AbsL.free {κ:Kp}{g:Sig}{x:g.ty C}{ν:Val}{vs:Nat->List Value}{ids:List Nat}{L:List (Nat×Value)}{b:Nat->Value}{Z Z':FS}{PV:List Priv}(h:AbsL κ (g.open x) ν vs ids L b Z' PV) (h1:Sh.flatNs (g.ts.map (·.2))=true) (h2:g.es.all (ESh.free C)=true) :
    AbsL κ (g.open x) ν vs ids L b Z PV/\∀ hh,Sep Z' PV hh->Sep Z PV hh:=by
  have hent:∀ i e,(g.open x).heap i=some e->(∃ cs,e = .cell cs/\AV.flatNs cs=true)\/(∃ T s,e = .row T s/\C.flt T=true)\/∃ T s,e = .orow T s .all/\C.flo T=true:=fun i e he=>zbY g.es 0 _ i h2 he
  refine ⟨⟨⟨h.nd,h.dom,h.pv,fun id cs hc=>?_,fun t=>VR.flatN (zbX g.ts _ _ t h1) (h.env t),h.one⟩,h.live,h.livec,h.keep⟩,fun hh hs=>?_⟩
  · rcases hent id _ hc with ⟨cs',e,h3⟩ | ⟨T,s,e,_⟩ | ⟨T,s,e,_⟩
    ·cases e;exact VRs.flatN h3 (h.cell id cs hc)
    all_goals grind
  · obtain ⟨hs',k1,k2,k3⟩:=hs;refine ⟨hs',fun i p hp=>?_,k2,k3⟩;have hold:=k1 i p hp;rw [h.pv,GA] at hp;cases hid:ids[i]? with
    |none=>grind
    |some id=>
      rw [hid] at hp;cases hp;have hsome:=(h.dom id).1 (GS hid);cases he:(g.open x).heap id with
      |none=>grind
      |some e=>
        have hold:(zG C ν vs id ((g.open x).heap id)).holds Z' (hs' i):=hold;show (zG C ν vs id ((g.open x).heap id)).holds Z (hs' i);rw [he] at hold |-
        rcases hent id e he with ⟨cs',e1,_⟩ | ⟨T,s,e1,h3⟩ | ⟨T,s,e1,h3⟩
        ·subst e1;exact hold
        ·subst e1;exact zkZ h3 hold
        ·subst e1;exact ztv h3 hold
def Spec.viewO (s:Spec C):Bool:=s.ins.es.isEmpty && s.outs.all fun o=>(o.2.es.all (ESh.free C) && Sh.flatNs (o.2.ts.map (·.2))) && Nat.ble o.2.es.length 64
theorem Inv.past_own {w w':World}{τ Z':FS}{A':List Priv}(hi:Inv w0 σ0 Z PV w) (hle:Z.le τ) (k:Inv ⟨w,zc.none⟩ τ Z' A' w') (hf:∀ h,Sep Z' A' h->Sep Z A' h):Inv w0 σ0 Z (A'++PV) w':=by
 obtain ⟨h,hs,hg⟩:=hi.own;obtain ⟨h',hs',hg'⟩:=k.own;have hl2:=hle.trans k.le
 have k2:Inv ⟨w,zc.none⟩ Z Z A' w':=⟨hl2.sub k.sub,.refl Z,fun _ _ _ e =>.inl e,⟨h',hf h' hs',hg'.sub,fun q o e=>by
  cases hx:Z q o with
  |none=>rfl
  |some v=>exact absurd (hg'.apart q o e) (by rw [hl2 q o v hx];simp),hg'.mine⟩,k.ext⟩
 exact hi.call (A':=A') (C:=PV) (h1:=zc.none) (h2:=h) hg hs (zc.none_le _) (.refl _) (zc.none_disj _) k2
theorem zdL {α:Type}{Q:XE C->St C->Prop}{K:XE C->St C->α}{z:α}:∀ {outs:List (XK×Sig)}{r:zi C outs},zQ outs r K=z->zQ outs r Q->∃ e S,K e S=z/\Q e S/\zc8 (ye outs r) S/\∃ o∈outs,∃ x:o.2.ty C,S=o.2.open x
 |[],r,_,_=>r.elim
 |[o],r,h,q=>by
  obtain ⟨e,S,h1,h2,h3,h4⟩:=one h q;exact ⟨e,S,h1,h2,h3,o,by simp,h4⟩
 |o::o2::l,r,h,q=>by
  unfold zQ at h q;unfold ye;cases r with
  |inl a=>
   obtain ⟨e,S,h1,h2,h3,h4⟩:=one h q;grind
  |inr y=>
   obtain ⟨e,S,h1,h2,h3,o',ho,h4⟩:=zdL h q;grind
where
 one {α:Type} {Q:XE C->St C->Prop} {K:XE C->St C->α} {z:α} {o:XK×Sig} {y:XK.ty C o.1 o.2} (h:yQ o.1 o.2 y K=z) (q:yQ o.1 o.2 y Q):∃ e S,K e S=z/\Q e S/\zc8 o.2.es S/\∃ x:o.2.ty C,S=o.2.open x:=by
  obtain ⟨k,g⟩:=o;cases k with
  |normal=>exact ⟨_,_,h,q,xr g _,_,rfl⟩
  |exit i=>exact ⟨_,_,h,q,xr g _,_,rfl⟩
  |ret=>exact ⟨_,_,h,q,xr g _,_,rfl⟩
  |pan s=>exact ⟨_,_,h,q,xr g _,_,rfl⟩
def zau (S:St C) (d nr:Nat) (e:XE C) (Sr:St C):G3 (Out C):=match e with
 | .ret=>chk (ziZ (fun k=>k) nr Sr).flat (some (.go (S.put d (ziZ (fun k=>k) nr Sr))))
 | .pan A=>chk A.flat (some (.pan A S))
 |_=>none
def yF (s:Spec C) (d:Nat) (S:St C) (x:s.ins.ty C):G3 (Out C):=
 chk s.ins.es.isEmpty ((s.F x).bind fun r=>zQ s.outs r fun e Sr=>zau S d s.nr e Sr)
def zsd:XE C->Bool
 | .pan A=>A.flat
 |_=>true
def yv (s:Spec C) (d:Nat) (S:St C) (x:s.ins.ty C):G3 (Out C):=
 (s.F x).bind fun r=>zQ s.outs r fun e Sr=>chk (zsd e) (wy S d s.nr [] (ye s.outs r) e Sr)
theorem zfZ {ρ:Nat->Nat}{ν':Val}{Sr:St C}{νr:Val}{vals:List Value}{p q:Nat->Prop}(henv:∀ t,VR C Z νr (look (yh 0 vals) (fun _=>undef) t) (Sr.env t)) (hlive:∀ t,(Sr.env t).ok p) (hν:∀ k,p k->ν'.hdr (ρ k)=νr.hdr k/\ν'.adr (ρ k)=νr.adr k) (hq:∀ k,p k->q (ρ k)) :
    VR C Z ν' (zci vals) (ziZ ρ vals.length Sr)/\(ziZ ρ vals.length Sr).ok q:=by
  have key:∀ i,VR C Z ν' ((vals[i]?).getD undef) (AV.ren ρ (Sr.env i))/\(AV.ren ρ (Sr.env i)).ok q:=fun i=>by
    have:=henv i;rw [yi] at this;exact ⟨this.ren hν (hlive i),AV.ok_ren hq (hlive i)⟩
  have many:∀ (m:Nat) (l:List Value),(∀ i,i < l.length->l[i]?=vals[m+i]?)->VRs C Z ν' l ((List.range' m l.length).map fun i=>AV.ren ρ (Sr.env i))/\AV.oks q ((List.range' m l.length).map fun i=>AV.ren ρ (Sr.env i)):=by
    intro m l
    induction l generalizing m with
    |nil=>exact fun _=>⟨trivial,trivial⟩
    |cons v l ih=>
      intro h;have h0:=h 0 (by simp);have k:=key m;rw [show vals[m]?=some v from by grind] at k;have:=ih (m+1) fun i hi=>by
        have:=h (i+1) (by simpa using hi);grind
      simp only [ju,List.range'_succ,GE];exact ⟨⟨k.1,this.1⟩,⟨k.2,this.2⟩⟩
  have hall:=many 0 vals fun i _=>by grind
  rw [<- List.range_eq_range'] at hall
  match vals,key,hall with
  |[],_,hall=>exact ⟨⟨[],rfl,hall.1⟩,hall.2⟩
  |[v],key,_=>exact key 0
  |u::v::l,_,hall=>exact ⟨⟨_,rfl,hall.1⟩,hall.2⟩
def Spec.OKc (s:Spec C) (us:List Value) (cl:World->(Ending->World->Prop)->Prop):Prop:=
 ∀ (x:s.ins.ty C) r,s.F x=some r->∀ (κ:Kp) (st:Start) (Z:FS),C.gl st.w Z->∀ (PV:List Priv) (ν:Val) (vs:Nat->List Value) (ids:List Nat),κ.m=s.ins.es.length->us.length=s.ins.ts.length->AbsL κ (s.ins.open x) ν vs ids (yh 0 us) (fun _=>undef) Z PV->Pre st Z PV->cl st.w (Ww κ st Z s.nr s.outs r)
theorem zdM {s:Spec C}{us:List Value}{cl:World->(Ending->World->Prop)->Prop}(hs:s.OKc us cl) (hmono:∀ {w:World}{Q Q':Ending->World->Prop},cl w Q->(∀ e w,Q e w->Q' e w)->cl w Q') (hgl:C.gl w0.w σ0) {d:Nat}{As:List (AV C.D)}{S2:St C}{bl:Bl}{x:s.ins.ty C}(hl:YA s.ins S As=some (S2,bl,x))
    (h:AbsL κ S ν vs ids L b Z PV) (hr:VRs C Z ν us As) (hlive:AV.oks (fun id=>(S.heap id).isSome=true) As) {out:Out C} (ho:xb s d S2 bl x=some out) {w:World} (hi:Inv w0 σ0 Z PV w) :
    cl w fun e w'=>match e with
      | .returned v=>∃ S' Z' PV',out = .go S'/\Inv w0 σ0 Z' PV' w'/\zz κ S' ((d,v)::L) b Z' PV'
      | .panicked chain=>∃ A S' u Z' PV',out = .pan A S'/\chain=[{v:=u,recovered:=false}]/\Inv w0 σ0 Z' PV' w'/\x8 C Z' u A/\zz κ S' L b Z' PV'
      | .outgrown=>False:=by
  unfold YA at hl;obtain ⟨hc,hl⟩:=zb hl;simp only [g9] at hc;have c1:=jz hc.1;have c2:=Uf hc.2;obtain ⟨x',hx,he⟩:=U4.1 hl;cases he;obtain ⟨σ1,PV1,hi1,ν1,vs1,ids1,h1⟩:=zbq (g:=s.ins.shift) (m:=0) ⟨ν,vs,ids,h.virt hr hlive⟩ hi;generalize hS2:s.ins.shift.prep 0 (virt S As)=S2 at *
  generalize hbl:Zu s.ins.shift 0 S2=bl at *
  have henv:∀ t,VR C σ1 ν1 (look (yh 0 us) (fun _=>undef) t) ((YT S2).env t):=fun t=>by
    have:=h1.env (vB+t);rw [yi];have e:look [] (yf L b us) (vB+t)=(us[t]?).getD undef:=by
      show yf L b us (vB+t)=_;unfold yf;have:Nat.blt (vB+t) vB=false:=by
        cases e:Nat.blt (vB+t) vB with
        |false=>rfl
        |true=>rw [GZ] at e;omega
      rw [this];simp
    rw [e] at this;exact this
  obtain ⟨ν',vs',ids',k1,k2,k3,k4,k5⟩:=h1.lend (T:=YT S2) rfl henv hx c2;have hB:=BdOK.of ((g9 _ _).mp (zb hx).1).1;obtain ⟨gg,hsep,hg⟩:=hi1.own;obtain ⟨f1,f2,s1,s2,l1,l2,dd⟩:=(k5 gg hsep).split;obtain ⟨r,hr',ho⟩:=jy ho;obtain ⟨hlen,ho⟩:=zb ho;have hlen:=Uf hlen;have hus:us.length=s.ins.ts.length:=by rw [<- c1,hr.len]
  have hcalls:=hs x r hr' ⟨s.ins.es.length,c2,ν'⟩ ⟨w,f1⟩ σ1 (C.glm hi1.le hi1.ext hgl) _ ν' vs' ids' rfl hus k1 ⟨hi1.sub,s1,hg.sub.mono l1,(hg.mono l1).apart⟩;refine hmono hcalls ?_;intro e w' hp;obtain ⟨e',Sr,q1,q2,q3⟩:=Xa ho hp;unfold wy at q1;obtain ⟨hfr,q1⟩:=zb q1
  have merge:∀ {Lr br Z' A'},zz ⟨s.ins.es.length,c2,ν'⟩ Sr Lr br Z' A'->Inv ⟨w,f1⟩ σ1 Z' A' w'->∃ νr ν2 vs2 ids2 PV2,Inv w0 σ0 Z' PV2 w'/\AbsL κ (unvirt (Zt S2 Sr d bl (ye s.outs r))) ν2 vs2 ids2 L b Z' PV2/\(∀ t,VR C Z' νr (look Lr br t) (Sr.env t))/\(∀ t,(Sr.env t).ok fun id=>(Sr.heap id).isSome=true)/\
      (∀ k,(Sr.heap k).isSome=true->ν2.hdr (xa d bl k)=νr.hdr k/\ν2.adr (xa d bl k)=νr.adr k)/\∀ k,(Sr.heap k).isSome=true->((Zt S2 Sr d bl (ye s.outs r)).heap (xa d bl k)).isSome=true:=by
    rintro Lr br Z' A' ⟨νr,vsr,idsr,hA⟩ hi';have hfree:∀ k,(Sr.heap k).isSome=true->Bl.fn bl k=none->S2.heap (nid d k)=none:=fun k hk hn=>by
      obtain ⟨e,he,_⟩:=(q3 k).1 hk;exact zcm hfr k (GC.1 he).1 hk hn
    obtain ⟨ν2,vs2,ids2,m1,m2,m3⟩:=h1.merge (d:=d) (es:=ye s.outs r) hA hi'.le hB.inj hB.lt k4 k2 q3 hfree hlen;exact ⟨νr,ν2,vs2,ids2,_,hi1.call hg s2 l1 l2 dd hi',m1.unvirt,hA.env,hA.live,m2,m3⟩
  cases e' with
  |normal=>cases q1
  |exit i=>cases q1
  |ret=>
    cases e with
    |returned v=>
      obtain ⟨vals,Z',A',rfl,hnr,hi',hA⟩:=q2;obtain ⟨νr,ν2,vs2,ids2,PV2,m1,m2,m3,m4,m5,m6⟩:=merge hA hi';cases q1;have hres:=zfZ (ρ:=xa d bl) (q:=fun i=>((Zt S2 Sr d bl (ye s.outs r)).heap i).isSome=true) m3 m4 m5 m6;rw [hnr] at hres;exact ⟨_,Z',PV2,rfl,m1,ν2,vs2,ids2,m2.put hres.1 hres.2⟩
    |panicked chain=>exact q2.elim
    |outgrown=>exact q2.elim
  |pan A=>
    cases e with
    |returned v=>exact q2.elim
    |outgrown=>exact q2.elim
    |panicked chain=>
      obtain ⟨u,Z',A',rfl,hi',hp',hA⟩:=q2;obtain ⟨νr,ν2,vs2,ids2,PV2,m1,m2,m3,m4,m5,m6⟩:=merge hA hi';cases q1;exact ⟨_,_,u,Z',PV2,rfl,rfl,m1,hp',ν2,vs2,ids2,m2⟩
theorem zlX {s:Spec C}(hs:s.OK P) (hgl:C.gl w0.w σ0) {d:Nat}{As:List (AV C.D)}{us:List Value}{S2:St C}{bl:Bl}{x:s.ins.ty C}(hl:YA s.ins S As=some (S2,bl,x))
    (h:AbsL κ S ν vs ids L b Z PV) (hr:VRs C Z ν us As) (hlive:AV.oks (fun id=>(S.heap id).isSome=true) As) {out:Out C} (ho:xb s d S2 bl x=some out) {w:World} (hi:Inv w0 σ0 Z PV w) :
    Calls P s.f us.toArray w fun e w'=>match e with
      | .returned v=>∃ S' Z' PV',out = .go S'/\Inv w0 σ0 Z' PV' w'/\zz κ S' ((d,v)::L) b Z' PV'
      | .panicked chain=>∃ A S' u Z' PV',out = .pan A S'/\chain=[{v:=u,recovered:=false}]/\Inv w0 σ0 Z' PV' w'/\x8 C Z' u A/\zz κ S' L b Z' PV'
      | .outgrown=>False:=by
  obtain ⟨fn,hf,_,_,hs⟩:=hs;exact zdM (cl:=fun w Q=>Calls P s.f us.toArray w Q) (fun x r hx κ st Z hgl PV ν vs ids h1 h2 h3 h4=>hs x r hx κ st Z hgl PV ν vs ids us h1 h2 h3 h4) (fun h k=>Calls.mono h k) hgl hl h hr hlive ho hi
theorem zdN {s:Spec C}(hs:s.OK P) (hgl:C.gl w0.w σ0) {d:Nat}{T:St C}{N:Nat}{us:List Value}{S2:St C}{bl:Bl}{x:s.ins.ty C}(hl:Yq s.ins T N=some (S2,bl,x)) (hN:us.length=N)
    (h:AbsL κ S ν vs ids L b Z PV) {out:Out C} (ho:yF s d S x=some out) {w:World} (hi:Inv w0 σ0 Z PV w) (hT:∀ w0 σ0,Inv w0 σ0 Z PV w->∃ σ1 PV1,Inv w0 σ0 σ1 PV1 w/\zz κ T [] (yf L b us) σ1 PV1) :
    Calls P s.f us.toArray w fun e w'=>match e with
      | .returned v=>∃ S' Z' PV',out = .go S'/\Inv w0 σ0 Z' PV' w'/\zz κ S' ((d,v)::L) b Z' PV'
      | .panicked chain=>∃ A S' u Z' PV',out = .pan A S'/\chain=[{v:=u,recovered:=false}]/\Inv w0 σ0 Z' PV' w'/\x8 C Z' u A/\zz κ S' L b Z' PV'
      | .outgrown=>False:=by
  obtain ⟨hes,ho⟩:=zb ho;unfold Yq at hl;obtain ⟨hc,hl⟩:=zb hl;simp only [g9] at hc;have c1:=jz hc.1;have c2:=Uf hc.2;obtain ⟨x',hx,he⟩:=U4.1 hl;cases he;obtain ⟨gg,hsep,hg⟩:=hi.own;obtain ⟨σ0',PV0',hi0',hA0'⟩:=hT ⟨w,gg⟩ Z ⟨hi.sub,.refl Z,fun b o v hb =>.inl hb,⟨gg,hsep,hg.sub,hg.apart,fun b i e =>.inr e⟩,.refl w gg⟩;obtain ⟨σ1,PV1,hi1,ν1,vs1,ids1,h1⟩:=zbq (g:=s.ins.shift) (m:=0) hA0' hi0';generalize hS2:s.ins.shift.prep 0 T=S2 at *
  generalize hbl:Zu s.ins.shift 0 S2=bl at *
  have henv:∀ t,VR C σ1 ν1 (look (yh 0 us) (fun _=>undef) t) ((YT S2).env t):=fun t=>by
    have:=h1.env (vB+t);rw [yi];have e:look [] (yf L b us) (vB+t)=(us[t]?).getD undef:=by
      show yf L b us (vB+t)=_;unfold yf;have:Nat.blt (vB+t) vB=false:=by
        cases e:Nat.blt (vB+t) vB with
        |false=>rfl
        |true=>rw [GZ] at e;omega
      rw [this];simp
    rw [e] at this;exact this
  obtain ⟨ν',vs',ids',k1,k2,k3,k4,k5⟩:=h1.lend (T:=YT S2) rfl henv hx c2;have hB:=BdOK.of ((g9 _ _).mp (zb hx).1).1;have hids:ids'=[]:=List.eq_nil_iff_forall_not_mem.2 fun k hk=>by
    obtain ⟨id,e⟩:=GN.1 ((k3 k).1 hk);have:=hB.lt k id e;grind
  rw [hids] at k1;obtain ⟨r,hr',ho⟩:=jy ho;have hus:us.length=s.ins.ts.length:=by rw [hN,c1]
  obtain ⟨fn,hf,_,_,hs⟩:=hs;have hcalls:=hs x r hr' ⟨s.ins.es.length,c2,ν'⟩ ⟨w,zc.none⟩ σ1 (C.glm hi1.le hi1.ext (C.glm hi.le hi.ext hgl)) _ ν' vs' _ us rfl hus k1 (Pre.empty hi1.sub);refine Calls.mono hcalls ?_;intro e w' hp;obtain ⟨e',Sr,q1,q2,q3⟩:=Xa ho hp;unfold zau at q1;cases e' with
  |normal=>cases q1
  |exit i=>cases q1
  |ret=>
    cases e with
    |returned v=>
      obtain ⟨vals,Z',A',rfl,hnr,hi',νr,vsr,idsr,hA⟩:=q2;obtain ⟨hfl,q1⟩:=zb q1;cases q1;have hres:=zfZ (Z:=Z') (ρ:=fun k=>k) (ν':=νr) (q:=fun i=>(Sr.heap i).isSome=true) hA.env hA.live (fun k _=>⟨rfl,rfl⟩) (fun k hk=>hk);rw [hnr] at hres;exact ⟨_,Z,PV,rfl,hi.past hi1.le hi',ν,vs,ids,h.put (VR.flat hfl hres.1) (w7 hfl)⟩
    |panicked chain=>exact q2.elim
    |outgrown=>exact q2.elim
  |pan A=>
    cases e with
    |returned v=>exact q2.elim
    |outgrown=>exact q2.elim
    |panicked chain=>
      obtain ⟨u,Z',A',rfl,hi',hp',hA⟩:=q2;obtain ⟨hfl,q1⟩:=zb q1;cases q1;exact ⟨_,_,u,Z,PV,rfl,rfl,hi.past hi1.le hi',⟨w7 hfl,fun ν hν=>VR.flat hfl (hp'.2 ν hν)⟩,ν,vs,ids,h⟩
theorem AbsL.nilB {κs:Kp}{C:Cod}{S Sr:St C}{d:Nat}{es:List ESh}{νr:Val}{vsr:Nat->List Value}{idsr:List Nat}{Lr:List (Nat×Value)}{br:Nat->Value}{A':List Priv}{κ:Kp}{ν:Val}{vs:Nat->List Value}{ids:List Nat}{L:List (Nat×Value)}{b:Nat->Value}{Z:FS}{PV:List Priv}(h:AbsL κ S ν vs ids L b Z PV) (hr:AbsL κs Sr νr vsr idsr Lr br Z A') (hm:κs.m=0)
    (hal:zc8 es Sr) (hfr:∀ k,(Sr.heap k).isSome=true->S.heap (nid d k)=none) :
    ∃ ν2 vs2 ids2,AbsL κ (Go.Px.unvirt (Zt S Sr d [] es)) ν2 vs2 ids2 L b Z (A'++PV)/\
      (∀ k,(Sr.heap k).isSome=true->ν2.hdr (xa d [] k)=νr.hdr k/\ν2.adr (xa d [] k)=νr.adr k)/\∀ k,(Sr.heap k).isSome=true->((Go.Px.unvirt (Zt S Sr d [] es)).heap (xa d [] k)).isSome=true:=by
  obtain ⟨ν2,vs2,ids2,m1,m2,m3⟩:=h.merge (bl:=[]) (d:=d) (es:=es) hr (.refl Z) (fun i j id e=>by simp [Bl.fn] at e) (fun k id e=>by simp [Bl.fn] at e) (fun k id e=>by simp [Bl.fn] at e) (fun k id e=>by simp [Bl.fn] at e) hal (fun k hk _=>hfr k hk) (by omega);have hf:(ids.filter fun j=> !Z5 j [])=ids:=List.filter_eq_self.2 fun j _=>rfl
  rw [hf,<- h.pv] at m1;refine ⟨ν2,vs2,ids2,?_,m2,m3⟩;refine ⟨⟨m1.nd,m1.dom,m1.pv,m1.cell,fun t=>?_,m1.one⟩,fun t=>?_,m1.livec,m1.keep⟩
  · show VR C Z ν2 _ (bif Nat.blt t vB then _ else .und);cases Nat.blt t vB with
    |true=>exact m1.env t
    |false=>trivial
  · show (bif Nat.blt t vB then _ else AV.und).ok _;cases Nat.blt t vB with
    |true=>exact m1.live t
    |false=>trivial
theorem zdO {s:Spec C}(hs:s.OK P) (hvo:s.viewO=true) (hgl:C.gl w0.w σ0) {d:Nat}{T:St C}{N:Nat}{us:List Value}{S2:St C}{bl:Bl}{x:s.ins.ty C}(hl:Yq s.ins T N=some (S2,bl,x)) (hN:us.length=N)
    (h:AbsL κ S ν vs ids L b Z PV) {out:Out C} (ho:yv s d S x=some out) {w:World} (hi:Inv w0 σ0 Z PV w) (hT:∀ w0 σ0,Inv w0 σ0 Z PV w->∃ σ1 PV1,Inv w0 σ0 σ1 PV1 w/\zz κ T [] (yf L b us) σ1 PV1) :
    Calls P s.f us.toArray w fun e w'=>match e with
      | .returned v=>∃ S' Z' PV',out = .go S'/\Inv w0 σ0 Z' PV' w'/\zz κ S' ((d,v)::L) b Z' PV'
      | .panicked chain=>∃ A S' u Z' PV',out = .pan A S'/\chain=[{v:=u,recovered:=false}]/\Inv w0 σ0 Z' PV' w'/\x8 C Z' u A/\zz κ S' L b Z' PV'
      | .outgrown=>False:=by
  simp only [Spec.viewO,g9] at hvo;obtain ⟨hes,hvo⟩:=hvo;unfold Yq at hl;obtain ⟨hc,hl⟩:=zb hl;simp only [g9] at hc;have c1:=jz hc.1;have c2:=Uf hc.2;obtain ⟨x',hx,he⟩:=U4.1 hl;cases he;obtain ⟨gg,hsep,hg⟩:=hi.own;obtain ⟨σ0',PV0',hi0',hA0'⟩:=hT ⟨w,gg⟩ Z ⟨hi.sub,.refl Z,fun b o v hb =>.inl hb,⟨gg,hsep,hg.sub,hg.apart,fun b i e =>.inr e⟩,.refl w gg⟩;obtain ⟨σ1,PV1,hi1,ν1,vs1,ids1,h1⟩:=zbq (g:=s.ins.shift) (m:=0) hA0' hi0';generalize hS2:s.ins.shift.prep 0 T=S2 at *
  generalize hbl:Zu s.ins.shift 0 S2=bl at *
  have henv:∀ t,VR C σ1 ν1 (look (yh 0 us) (fun _=>undef) t) ((YT S2).env t):=fun t=>by
    have:=h1.env (vB+t);rw [yi];have e:look [] (yf L b us) (vB+t)=(us[t]?).getD undef:=by
      show yf L b us (vB+t)=_;unfold yf;have:Nat.blt (vB+t) vB=false:=by
        cases e:Nat.blt (vB+t) vB with
        |false=>rfl
        |true=>rw [GZ] at e;omega
      rw [this];simp
    rw [e] at this;exact this
  obtain ⟨ν',vs',ids',k1,k2,k3,k4,k5⟩:=h1.lend (T:=YT S2) rfl henv hx c2;have hB:=BdOK.of ((g9 _ _).mp (zb hx).1).1;have hids:ids'=[]:=List.eq_nil_iff_forall_not_mem.2 fun k hk=>by
    obtain ⟨id,e⟩:=GN.1 ((k3 k).1 hk);have:=hB.lt k id e;rw [List.isEmpty_iff.1 hes] at this;simp at this
  rw [hids] at k1;obtain ⟨r,hr',ho⟩:=jy ho;have hus:us.length=s.ins.ts.length:=by rw [hN,c1]
  obtain ⟨fn,hf,_,_,hs⟩:=hs;have hcalls:=hs x r hr' ⟨s.ins.es.length,c2,ν'⟩ ⟨w,zc.none⟩ σ1 (C.glm hi1.le hi1.ext (C.glm hi.le hi.ext hgl)) _ ν' vs' _ us rfl hus k1 (Pre.empty hi1.sub);refine Calls.mono hcalls ?_;intro e w' hp;obtain ⟨e',Sr,q1,q2,q3,o,ho1,x1,rfl⟩:=zdL ho hp;have hfree:=Uu.1 hvo o ho1;simp only [g9] at hfree;obtain ⟨hpf,q1⟩:=zb q1;unfold wy at q1;obtain ⟨hfr,q1⟩:=zb q1;have hm0:s.ins.es.length=0:=by rw [List.isEmpty_iff.1 hes];rfl
  have merge:∀ {Lr br Z' A'},zz ⟨s.ins.es.length,c2,ν'⟩ (o.2.open x1) Lr br Z' A'->Inv ⟨w,zc.none⟩ σ1 Z' A' w'->∃ νr ν2 vs2 ids2,Inv w0 σ0 Z (A'++PV) w'/\AbsL κ (unvirt (Zt S (o.2.open x1) d [] (ye s.outs r))) ν2 vs2 ids2 L b Z (A'++PV)/\(∀ t,VR C Z νr (look Lr br t) ((o.2.open x1).env t))/\(∀ t,((o.2.open x1).env t).ok fun id=>((o.2.open x1).heap id).isSome=true)/\
      (∀ k,((o.2.open x1).heap k).isSome=true->ν2.hdr (xa d [] k)=νr.hdr k/\ν2.adr (xa d [] k)=νr.adr k)/\∀ k,((o.2.open x1).heap k).isSome=true->((unvirt (Zt S (o.2.open x1) d [] (ye s.outs r))).heap (xa d [] k)).isSome=true:=by
    rintro Lr br Z' A' ⟨νr,vsr,idsr,hA⟩ hi';obtain ⟨hA0,hsp⟩:=hA.free (Z:=Z) hfree.1.2 hfree.1.1;obtain ⟨ν2,vs2,ids2,m1,m2,m3⟩:=h.nilB (d:=d) hA0 hm0 q3 fun k hk=>by
      obtain ⟨e,he,_⟩:=(q3 k).1 hk;exact zcm hfr k (GC.1 he).1 hk (by simp [Bl.fn])
    exact ⟨νr,ν2,vs2,ids2,hi.past_own hi1.le hi' hsp,m1,hA0.env,hA0.live,m2,m3⟩
  cases e' with
  |normal=>cases q1
  |exit i=>cases q1
  |ret=>
    cases e with
    |returned v=>
      obtain ⟨vals,Z',A',rfl,hnr,hi',hA⟩:=q2;obtain ⟨νr,ν2,vs2,ids2,m1,m2,m3,m4,m5,m6⟩:=merge hA hi';cases q1;have hres:=zfZ (ρ:=xa d []) (q:=fun i=>((unvirt (Zt S (o.2.open x1) d [] (ye s.outs r))).heap i).isSome=true) m3 m4 m5 m6;rw [hnr] at hres;exact ⟨_,Z,_,rfl,m1,ν2,vs2,ids2,m2.put hres.1 hres.2⟩
    |panicked chain=>exact q2.elim
    |outgrown=>exact q2.elim
  |pan A=>
    cases e with
    |returned v=>exact q2.elim
    |outgrown=>exact q2.elim
    |panicked chain=>
      obtain ⟨u,Z',A',rfl,hi',hp',hA⟩:=q2;obtain ⟨νr,ν2,vs2,ids2,m1,m2,m3,m4,m5,m6⟩:=merge hA hi';cases q1;exact ⟨_,_,u,Z,_,rfl,rfl,m1,⟨w7 hpf,fun ν hν=>VR.flat hpf (hp'.2 ν hν)⟩,ν2,vs2,ids2,m2⟩
end
variable [Dfr]
section
variable {κ:Kp}{C:Cod}{S:St C}{n:Nat}{w0:Start}{σ0 Z:FS}{P:Program}{L:List (Nat×Value)}{b:Nat->Value}{PV:List Priv}{ν:Val}{vs:Nat->List Value}{ids:List Nat}
mutual
def AV.nxs {D:Nat->Type}:AV D->List Nat
 | .nx id _ _ _=>[id]
 | .agg cs=>AV.nxss cs
 |_=>[]
def AV.nxss {D:Nat->Type}:List (AV D)->List Nat
 |[]=>[]
 |A::As=>AV.nxs A++AV.nxss As
end
mutual
def WV {α:Type}(S:St C):AV C.D->(AV C.D->G3 α)->G3 α
 | .nx id T i .whole,K=>zH S id T i fun U u=>K (.sl U u false)
 | .agg cs,K=>wz S cs fun cs'=>K (.agg cs')
 |A,K=>K A
def wz {α:Type}(S:St C):List (AV C.D)->(List (AV C.D)->G3 α)->G3 α
 |[],K=>K []
 |A::As,K=>WV S A fun A'=>wz S As fun As'=>K (A'::As')
end
mutual
def zf0 (S:St C):AV C.D->AV C.D->Prop
 | .nx id T i .whole,B=>∃ s g q U u c,S.heap id=some (.orow T s g)/\g.rd=true/\zd s i=some q/\Z1 C T q = .sl U u c/\B = .sl U u false
 | .agg cs,B=>∃ ds,B = .agg ds/\W7 S cs ds
 |A,B=>B=A
def W7 (S:St C):List (AV C.D)->List (AV C.D)->Prop
 |[],Bs=>Bs=[]
 |A::As,Bs=>∃ B Bs',Bs=B::Bs'/\zf0 S A B/\W7 S As Bs'
end
theorem zlY {α:Type}{id T:Nat}{i:Int}{K:(U:Nat)->Sl (C.D U)->G3 α}{a:α}(h:zH S id T i K=some a):∃ s g q U u c,S.heap id=some (.orow T s g)/\g.rd=true/\zd s i=some q/\Z1 C T q = .sl U u c/\K U u=some a:=by
 unfold zH at h;split at h
 ·rename_i T' s g hs;obtain ⟨hc,h⟩:=zb h;simp only [g9] at hc;obtain rfl:=jz hc.1;obtain ⟨q,hq,h⟩:=jy h;grind
 ·cases h
omit [Dfr] in
mutual
theorem ztw {α:Type}{r:α}:∀ {A:AV C.D}{K:AV C.D->G3 α},WV S A K=some r->∃ B,K B=some r/\zf0 S A B
 | .nx id T i .whole,K,h=>by
  obtain ⟨s,g,q,U,u,c,h1,h2,h3,h4,h5⟩:=zlY h;exact ⟨_,h5,s,g,q,U,u,c,h1,h2,h3,h4,rfl⟩
 | .agg cs,K,h=>by
  obtain ⟨ds,h1,h2⟩:=za5 (As:=cs) h;exact ⟨_,h1,ds,rfl,h2⟩
 | .nx _ _ _ (.part _ _ _),K,h=>⟨_,h,rfl⟩
 | .nx _ _ _ (.elem _ _ _),K,h=>⟨_,h,rfl⟩
 | .int _ _,K,h=>⟨_,h,rfl⟩
 | .bool _,K,h=>⟨_,h,rfl⟩
 | .str _,K,h=>⟨_,h,rfl⟩
 | .tup _,K,h=>⟨_,h,rfl⟩
 | .sl _ _ _,K,h=>⟨_,h,rfl⟩
 | .row _,K,h=>⟨_,h,rfl⟩
 | .pc _ _,K,h=>⟨_,h,rfl⟩
 | .pr _ _ _ _,K,h=>⟨_,h,rfl⟩
 | .pz _ _ _,K,h=>⟨_,h,rfl⟩
 | .pnil,K,h=>⟨_,h,rfl⟩
 | .nils,K,h=>⟨_,h,rfl⟩
 | .clo _ _,K,h=>⟨_,h,rfl⟩
 | .nilf,K,h=>⟨_,h,rfl⟩
 | .ifc _ _,K,h=>⟨_,h,rfl⟩
 | .nili,K,h=>⟨_,h,rfl⟩
 | .und,K,h=>⟨_,h,rfl⟩
theorem za5 {α:Type}{r:α}:∀ {As:List (AV C.D)}{K:List (AV C.D)->G3 α},wz S As K=some r->∃ Bs,K Bs=some r/\W7 S As Bs
 |[],K,h=>⟨_,h,rfl⟩
 |A::As,K,h=>by
  obtain ⟨B,h1,h2⟩:=ztw (A:=A) h;obtain ⟨Bs,h3,h4⟩:=za5 (As:=As) h1;exact ⟨_,h3,B,Bs,rfl,h2,h4⟩
end
omit [Dfr] in
mutual
theorem zoD {α β:Type}{k:α->G3 β}:∀ {A:AV C.D}{K:AV C.D->G3 α},(WV S A K).bind k=WV S A fun B=>(K B).bind k
 | .nx id T i .whole,K=>by
  show (zH S id T i _).bind k=zH S id T i _;unfold zH;split
  ·cases hc:(Nat.beq T _ && Own.rd _) with
   |false=>rfl
   |true=>
    show ((zd _ i).bind _).bind k=(zd _ i).bind _;grind
  ·rfl
 | .agg cs,K=>za6 (As:=cs)
 | .nx _ _ _ (.part _ _ _),K=>rfl
 | .nx _ _ _ (.elem _ _ _),K=>rfl
 | .int _ _,K=>rfl
 | .bool _,K=>rfl
 | .str _,K=>rfl
 | .tup _,K=>rfl
 | .sl _ _ _,K=>rfl
 | .row _,K=>rfl
 | .pc _ _,K=>rfl
 | .pr _ _ _ _,K=>rfl
 | .pz _ _ _,K=>rfl
 | .pnil,K=>rfl
 | .nils,K=>rfl
 | .clo _ _,K=>rfl
 | .nilf,K=>rfl
 | .ifc _ _,K=>rfl
 | .nili,K=>rfl
 | .und,K=>rfl
theorem za6 {α β:Type}{k:α->G3 β}:∀ {As:List (AV C.D)}{K:List (AV C.D)->G3 α},(wz S As K).bind k=wz S As fun Bs=>(K Bs).bind k
 |[],K=>rfl
 |A::As,K=>by
  show (WV S A _).bind k=WV S A _;rw [zoD (A:=A)];congr 1;funext B;exact za6 (As:=As)
end
def AV.bas {D:Nat->Type}:AV D->Bool
 | .agg cs=>cs.all AV.base
 |A=>A.base
def FzR (C:Cod) (S:St C) (ν:Val) (τ:FS) (l:List Nat):Prop:=∀ id∈l,∀ T s g,S.heap id=some (.orow T s g)->g.rd=true->∀ i q U u c,zd s i=some q->Z1 C T q = .sl U u c->Rv C τ ((ν.adr id).sub i.toNat) (.sl U u c)
theorem ztx (h:AbsL κ S ν vs ids L b Z PV) (id:Nat) {w:World}(hi:Inv w0 σ0 Z PV w):∃ Z' PV' ids',Inv w0 σ0 Z' PV' w/\AbsL κ (S.frz1 id) ν vs ids' L b Z' PV'/\Z.le Z'/\FzR C S ν Z' [id]:=by
 unfold St.frz1;split
 ·rename_i T s hs;obtain ⟨m,hm,hid⟩:=h.at hs;obtain ⟨h1,hh,hsub,hle,hi'⟩:=hi.freeze hm;have hh:zo (zE C T).o T (ν.hdr id) s Z h1:=hh;refine ⟨_,_,_,hi',h.sub hid hle ((Rv.of_vrel (hh.fast hle fun b o v e=>x7 b o v e)).vr) trivial rfl,hle,?_⟩;intro j hj T' s' g he;grind
 ·rename_i T s g hs;cases hg:g.rd with
  |false=>
   refine ⟨Z,PV,ids,hi,h,.refl Z,?_⟩;intro j hj T' s' g' he hg';grind
  |true=>
   obtain ⟨m,hm,hid⟩:=h.at hs;obtain ⟨h1,hh,hsub,hle,hi'⟩:=hi.freeze hm;have hh:zo (Zh C T) T (ν.hdr id) (hpl C T (ν.adr id).sub s g) Z h1:=hh;have hv:=hh.fast hle fun b o v e=>x7 b o v e
   refine ⟨_,_,_,hi',h.sub hid hle ((Rv.of_vrel (ziL hg hv)).vr) trivial rfl,hle,?_⟩;intro j hj T' s' g' he hg' i q U u c hq hu;have hj:=Uw.1 hj;subst hj;rw [hs] at he;cases he;exact ztj hg hv hq hu
 ·rename_i h1 h2;refine ⟨Z,PV,ids,hi,h,.refl Z,?_⟩;intro j hj T' s' g' he;grind
theorem zoE {id j T:Nat}{s:Sl (C.D T)}{g:Own}(hne:j≠id) (h:S.heap j=some (.orow T s g)):(S.frz1 id).heap j=some (.orow T s g):=by
 have key:∀ R:AV C.D,(S.sub id R).heap j=some (.orow T s g):=fun R=>by
  show (bif Nat.beq j id then none else (S.heap j).map _)=_;cases hb:Nat.beq j id with
  |true=>exact absurd (jz hb) hne
  |false=>rw [h];rfl
 unfold St.frz1;grind
theorem zi2:∀ (l:List Nat) {S:St C}{Z:FS}{PV:List Priv}{ids:List Nat}(h:AbsL κ S ν vs ids L b Z PV) {w:World}(hi:Inv w0 σ0 Z PV w),∃ Z' PV' ids',Inv w0 σ0 Z' PV' w/\AbsL κ (S.frz l) ν vs ids' L b Z' PV'/\Z.le Z'/\FzR C S ν Z' l
 |[],S,Z,PV,ids,h,w,hi=>⟨Z,PV,ids,hi,h,.refl Z,fun id hid=>by cases hid⟩
 |id::r,S,Z,PV,ids,h,w,hi=>by
  obtain ⟨σ1,PV1,ids1,hi1,h1,l1,f1⟩:=ztx h id hi;obtain ⟨σ2,PV2,ids2,hi2,h2,l2,f2⟩:=zi2 r h1 hi1;refine ⟨σ2,PV2,ids2,hi2,h2,l1.trans l2,?_⟩;intro j hj T s g he hg i q U u c hq hu;by_cases e:j=id
  ·exact (f1 j (by simp [e]) T s g he hg i q U u c hq hu).mono l2
  ·have hj':j∈r:=by
    grind
   exact f2 j hj' T s g (zoE e he) hg i q U u c hq hu
omit [Dfr] in
mutual
theorem zf0.vr {τ:FS}{l:List Nat}(hl:Z.le τ) (hf:FzR C S ν τ l):∀ {A B:AV C.D}{v:Value},zf0 S A B->(∀ j∈A.nxs,j∈l)->VR C Z ν v A->VR C τ ν v B
 | .nx id T i .whole,B,v,⟨s,g,q,U,u,c,h1,h2,h3,h4,h5⟩,hm,r=>by
  subst h5;have:=hf id (hm id (by simp [AV.nxs])) T s g h1 h2 i q U u c h3 h4;rw [show v=(ν.adr id).sub i.toNat from r.1];exact (Rv.of_vrel this.vrel).vr
 | .agg cs,B,v,⟨ds,e,h⟩,hm,⟨vs,e2,r⟩=>by
  subst e;exact ⟨vs,e2,W7.vr hl hf h hm r⟩
 | .nx _ _ _ (.part _ _ _),B,v,h,hm,r=>by rw [show B=_ from h];exact r.mono hl
 | .nx _ _ _ (.elem _ _ _),B,v,h,hm,r=>by rw [show B=_ from h];exact r.mono hl
 | .int _ _,B,v,h,hm,r=>by rw [show B=_ from h];exact r.mono hl
 | .bool _,B,v,h,hm,r=>by rw [show B=_ from h];exact r.mono hl
 | .str _,B,v,h,hm,r=>by rw [show B=_ from h];exact r.mono hl
 | .tup _,B,v,h,hm,r=>by rw [show B=_ from h];exact r.mono hl
 | .sl _ _ _,B,v,h,hm,r=>by rw [show B=_ from h];exact r.mono hl
 | .row _,B,v,h,hm,r=>by rw [show B=_ from h];exact r.mono hl
 | .pc _ _,B,v,h,hm,r=>by rw [show B=_ from h];exact r.mono hl
 | .pr _ _ _ _,B,v,h,hm,r=>by rw [show B=_ from h];exact r.mono hl
 | .pz _ _ _,B,v,h,hm,r=>by rw [show B=_ from h];exact r.mono hl
 | .pnil,B,v,h,hm,r=>by rw [show B=_ from h];exact r.mono hl
 | .nils,B,v,h,hm,r=>by rw [show B=_ from h];exact r.mono hl
 | .clo _ _,B,v,h,hm,r=>by rw [show B=_ from h];exact r.mono hl
 | .nilf,B,v,h,hm,r=>by rw [show B=_ from h];exact r.mono hl
 | .ifc _ _,B,v,h,hm,r=>by rw [show B=_ from h];exact r.mono hl
 | .nili,B,v,h,hm,r=>by rw [show B=_ from h];exact r.mono hl
 | .und,B,v,h,hm,r=>by rw [show B=_ from h];trivial
theorem W7.vr {τ:FS}{l:List Nat}(hl:Z.le τ) (hf:FzR C S ν τ l):∀ {As Bs:List (AV C.D)}{us:List Value},W7 S As Bs->(∀ j∈AV.nxss As,j∈l)->VRs C Z ν us As->VRs C τ ν us Bs
 |[],Bs,[],h,_,_=>by rw [show Bs=[] from h];trivial
 |A::As,Bs,u::us,⟨B,Bs',e,h1,h2⟩,hm,⟨r1,r2⟩=>by
  subst e;exact ⟨zf0.vr hl hf h1 (fun j hj=>hm j (by simp only [AV.nxss,G5];exact .inl hj)) r1,W7.vr hl hf h2 (fun j hj=>hm j (by simp only [AV.nxss,G5];exact .inr hj)) r2⟩
 |[],_,_::_,_,_,r=>r.elim
 |_::_,_,[],_,_,r=>r.elim
end
def zab {D:Nat->Type}:List (AV D)->List (AV D)->Nat->G3 (AV D)
 |A::_,B::_,0=>bif A.nxs.isEmpty then none else some B
 |_::As,_::Bs,t+1=>zab As Bs t
 |_,_,_=>none
def zeP (S:St C) (As Bs:List (AV C.D)):St C:=
  let T:=(virt S As).frz (AV.nxss As)
  {env:=fun t=>bif Nat.blt t vB then T.env t else match zab As Bs (t - vB) with
      |some B=>B
      |none=>T.env t,heap:=T.heap}
def okX {D:Nat->Type}:List (AV D)->List (AV D)->Bool
 |A::As,B::Bs=>(A.nxs.isEmpty || B.bas) && okX As Bs
 |_,_=>true
omit [Dfr] in
theorem VR.bas {Z:FS}{ν ν':Val}{A:AV C.D}{v:Value}(h:A.bas=true) (r:VR C Z ν v A):VR C Z ν' v A/\A.ok (fun _=>False):=by
 by_cases e:∃ cs,A = .agg cs
 ·obtain ⟨cs,rfl⟩:=e;obtain ⟨vs,e,r⟩:=r;have hb:∀ B∈cs,B.base=true:=fun B hB=>Uu.1 h B hB
  refine ⟨⟨vs,e,.of r.len fun j u B h1 h2=>((r.rel h1 h2).rv (hb B (GS h2))).vr⟩,?_⟩;exact AV.oks_iff.2 fun B hB=>vp (hb B hB)
 ·have hb:A.base=true:=by
   cases A <;> first | exact h | grind
  exact ⟨(r.rv hb).vr,vp hb⟩
theorem zf1 {ν':Val}{τ:FS}{l:List Nat}(hl:Z.le τ) (hf:FzR C S ν τ l):∀ {As Bs:List (AV C.D)}{us:List Value}{t:Nat}{B:AV C.D},W7 S As Bs->okX As Bs=true->(∀ j∈AV.nxss As,j∈l)->VRs C Z ν us As->zab As Bs t=some B->VR C τ ν' ((us[t]?).getD undef) B/\B.ok (fun _=>False)
 |A::As,B0::Bs,u::us,0,B,⟨B1,Bs1,e,h1,h2⟩,hk,hm,⟨r1,r2⟩,hs=>by
  cases e;simp only [okX,g9] at hk;unfold zab at hs;cases hn:A.nxs.isEmpty with
  |true=>grind
  |false=>
   rw [hn] at hs hk;cases hs;have:=zf0.vr hl hf h1 (fun j hj=>hm j (by simp only [AV.nxss,G5];exact .inl hj)) r1;exact VR.bas (by grind) this
 |A::As,B0::Bs,u::us,t+1,B,⟨B1,Bs1,e,h1,h2⟩,hk,hm,⟨r1,r2⟩,hs=>by
  cases e;simp only [okX,g9] at hk;have:=zf1 (ν':=ν') hl hf (t:=t) h2 hk.2 (fun j hj=>hm j (by simp only [AV.nxss,G5];exact .inr hj)) r2 hs;grind
 |[],Bs,us,t,B,h,_,_,_,hs=>by
  rw [show Bs=[] from h] at hs;cases t <;> cases hs
 |A::As,[],us,t,B,⟨_,_,e,_⟩,_,_,_,hs=>by cases e
 |A::As,B0::Bs,[],t,B,_,_,_,r,hs=>r.elim
theorem zqa (h:AbsL κ S ν vs ids L b Z PV) {us:List Value}{As Bs:List (AV C.D)}(hr:VRs C Z ν us As) (hlive:AV.oks (fun id=>(S.heap id).isSome=true) As) (hk:okX As Bs=true) (hR:W7 S As Bs) {w:World}{w0:Start}{σ0:FS}(hi:Inv w0 σ0 Z PV w) :
    ∃ σ1 PV1,Inv w0 σ0 σ1 PV1 w/\zz κ (zeP S As Bs) [] (yf L b us) σ1 PV1:=by
  obtain ⟨σ1,PV1,ids1,hi1,h1,l1,f1⟩:=zi2 (AV.nxss As) (h.virt hr hlive) hi;have f1':FzR C S ν σ1 (AV.nxss As):=f1;refine ⟨σ1,PV1,hi1,ν,vs,ids1,⟨h1.nd,h1.dom,h1.pv,h1.cell,fun t=>?_,h1.one⟩,fun t=>?_,h1.livec,h1.keep⟩
  · show VR C σ1 ν (look [] (yf L b us) t) (bif Nat.blt t vB then _ else match zab As Bs (t - vB) with | some B=>B | none=>_);cases hb:Nat.blt t vB with
    |true=>exact h1.env t
    |false=>
      simp only [G8];cases hs:zab As Bs (t - vB) with
      |none=>exact h1.env t
      |some B=>
        have:=(zf1 (ν':=ν) l1 f1' hR hk (fun j hj=>hj) hr hs).1;show VR C σ1 ν (yf L b us t) B;unfold yf;grind
  · show (bif Nat.blt t vB then _ else match zab As Bs (t - vB) with | some B=>B | none=>_:AV C.D).ok _;cases hb:Nat.blt t vB with
    |true=>exact h1.live t
    |false=>
      simp only [G8];cases hs:zab As Bs (t - vB) with
      |none=>exact h1.live t
      |some B=>exact AV.ok_mono (fun _ h=>h.elim) (zf1 (ν':=ν) l1 f1' hR hk (fun j hj=>hj) hr hs).2
def Xb (S:St C) (id:Nat):List Nat:=match S.heap id with
 |some (.cell cs)=>AV.rowss cs
 |_=>[]
def XS {α:Type}:List (Nat×Sh)->St C->(St C->G3 α)->G3 α
 |[],T,K=>K T
 |(t,s)::ts,T,K=>match s,T.env (vB+t) with
  | .pz T0 _,.pc id off=>(match (T.frz (Xb T id)).heap id with
   |some (.cell cs)=>(C.imp T0 cs).bind fun q=>XS ts {env:=upd ((T.frz (Xb T id)).sub id .und).env (vB+t) (.pz T0 q off),heap:=((T.frz (Xb T id)).sub id .und).heap} K
   |_=>none)
  |_,_=>XS ts T K
theorem za7 {α β:Type}{k:α->G3 β}:∀ {ts:List (Nat×Sh)}{T:St C}{K:St C->G3 α},(XS ts T K).bind k=XS ts T fun T'=>(K T').bind k
 |[],T,K=>rfl
 |(t,s)::ts,T,K=>by
  unfold XS;split
  ·split
   ·rw [ga];congr 1;funext q;exact za7
   ·rfl
  ·exact za7
theorem zz.envv {T:St C}{L:List (Nat×Value)}{b:Nat->Value}(h:AbsL κ T ν vs ids L b Z PV) {t:Nat}{A:AV C.D}(hv:VR C Z ν (look L b t) A) (ho:A.ok fun id=>(T.heap id).isSome=true):AbsL κ {env:=upd T.env t A,heap:=T.heap} ν vs ids L b Z PV:=by
 refine ⟨⟨h.nd,h.dom,h.pv,h.cell,fun i=>?_,h.one⟩,fun i=>?_,h.livec,h.keep⟩
 ·show VR C Z ν _ (upd T.env t A i);by_cases e:i=t
  ·subst e;rw [zl];exact hv
  ·rw [zm e];exact h.env i
 ·show (upd T.env t A i).ok _;by_cases e:i=t
  ·subst e;rw [zl];exact ho
  ·rw [zm e];exact h.live i
theorem zty {T:St C}{L:List (Nat×Value)}{b:Nat->Value}(h:AbsL κ T ν vs ids L b Z PV) {t id off T0:Nat}{cs:List (AV C.D)}{q:C.D T0}(he:look L b t = .pointer (some ((ν.adr id).a.add off))) (hc:T.heap id=some (.cell cs)) (hq:C.imp T0 cs=some q) {w:World}{w0:Start}{σ0:FS}(hi:Inv w0 σ0 Z PV w) :
    ∃ σ1 PV1,Inv w0 σ0 σ1 PV1 w/\zz κ {env:=upd (T.sub id .und).env t (.pz T0 q off),heap:=(T.sub id .und).heap} L b σ1 PV1:=by
  obtain ⟨m,hm,hid⟩:=h.at hc;obtain ⟨h1,hh,hsub,hle,hi'⟩:=hi.freeze hm;have hh:ZW (ν.adr id).a (vs id) h1:=hh;have h2:=h.sub hid hle (R :=.und) trivial trivial rfl;refine ⟨_,_,hi',ν,vs,_,zz.envv h2 (A :=.pz T0 q off) ?_ trivial⟩;rw [he];have hcv:=(h.cell id cs hc).mono hle;have hrel:=zar (ν:=ν) hcv hq;have hlen:=hrel.1;refine Rv.pz (fun j=>((vs id)[j]?).getD default) (fun j A hj=>?_) (fun j A hj=>?_)
  ·obtain ⟨u,e1,e2⟩:=hrel.2 j A hj;rw [e1];rw [Addr.add_eq _ hh.1];simpa [FS.cell] using x7 (Z:=Z) _ _ _ (hh.2 j u e1)
  ·obtain ⟨u,e1,e2⟩:=hrel.2 j A hj;grind
theorem W8 {α:Type}{r:α}:∀ {ts:List (Nat×Sh)}{T:St C}{K:St C->G3 α},XS ts T K=some r->
    ∃ T',K T'=some r/\∀ {κ:Kp} {L:List (Nat×Value)} {b:Nat->Value} {us:List Value} {w:World} {w0:Start} {σ0 Z:FS} {PV:List Priv},zz κ T [] (yf L b us) Z PV->Inv w0 σ0 Z PV w->∃ σ1 PV1,Inv w0 σ0 σ1 PV1 w/\zz κ T' [] (yf L b us) σ1 PV1
  |[],T,K,h=>⟨T,h,fun hA hi=>⟨_,_,hi,hA⟩⟩
  |(t,s)::ts,T,K,h=>by
    unfold XS at h;split at h
    · rename_i T0 o id off e;split at h
      ·rename_i cs hcs;obtain ⟨q,hq,h⟩:=jy h;obtain ⟨T',h1,h2⟩:=W8 h;refine ⟨T',h1,fun hA hi=>?_⟩;obtain ⟨ν,vs,ids,hA⟩:=hA;have he:=hA.env (vB+t);rw [e] at he;obtain ⟨σ1,PV1,ids1,hi1,h3,_,_⟩:=zi2 (Xb T id) hA hi;obtain ⟨σ2,PV2,hi2,h4⟩:=zty h3 he hcs hq hi1;grind
      ·cases h
    ·exact W8 h
def xc (Γ:List (Spec C)) (S:St C) (d f:Nat) (As:List (AV C.D)):G3 (Out C):=match Γ with
  |[]=>none
  |s :: Γ=>bif Nat.beq s.f f && (s.view || s.viewO) then wz S As fun Bs=>chk (okX As Bs) (XS s.ins.ts (zeP S As Bs) fun T=>match Yq s.ins T As.length with
     |some (_,_,x)=>bif s.view then yF s d S x else yv s d S x
     |none=>none) else xc Γ S d f As
def Yr (Γ0 Γ:List (Spec C)) (S:St C) (d f:Nat) (As:List (AV C.D)):G3 (Out C):=match Γ with
 |[]=>xc Γ0 S d f As
 |s::Γ=>bif Nat.beq s.f f then (match YA s.ins S As with
  |some (S2,bl,x)=>bif s.view then yF s d S x else bif s.viewO then yv s d S x else xb s d S2 bl x
  |none=>Yr Γ0 Γ S d f As) else Yr Γ0 Γ S d f As
def vN (Γ:List (Spec C)) (S:St C) (d f:Nat) (As:List (AV C.D)):G3 (Out C):=Yr Γ Γ S d f As
theorem zeQ (hgl:C.gl w0.w σ0) {d:Nat}{f:FuncId}{As:List (AV C.D)}{us:List Value}{out:Out C}(h:AbsL κ S ν vs ids L b Z PV) (hr:VRs C Z ν us As) (hlive:AV.oks (fun id=>(S.heap id).isSome=true) As) {w:World}(hi:Inv w0 σ0 Z PV w):∀ {Γ:List (Spec C)},(∀ s∈Γ,s.OK P)->xc Γ S d f As=some out->
    ∃ fn, P.funcs[f]? = some fn /\ (fn.name == "runtime.NumGoroutine") = false /\ fn.body.isNone = false /\ Calls P f us.toArray w fun e w' => match e with
      | .returned v=>∃ S' Z' PV',out = .go S'/\Inv w0 σ0 Z' PV' w'/\zz κ S' ((d,v)::L) b Z' PV'
      | .panicked chain=>∃ A S' u Z' PV',out = .pan A S'/\chain=[{v:=u,recovered:=false}]/\Inv w0 σ0 Z' PV' w'/\x8 C Z' u A/\zz κ S' L b Z' PV'
      | .outgrown=>False
  |[],_,ho=>by cases ho
  |s::Γ,hΓ,ho=>by
    unfold xc at ho;cases hf:(Nat.beq s.f f && (s.view || s.viewO)) with
    |false=>
      rw [hf,G8] at ho;exact zeQ hgl h hr hlive hi (fun s hs=>hΓ s (Uz _ hs)) ho
    |true=>
      rw [hf,Uv] at ho;simp only [g9,GO] at hf;have:=jz hf.1;subst this;obtain ⟨Bs,ho,hR⟩:=za5 ho;obtain ⟨hk,ho⟩:=zb ho;obtain ⟨T,hT,hTA⟩:=W8 ho;have hTi:∀ w0 σ0,Inv w0 σ0 Z PV w->∃ σ1 PV1,Inv w0 σ0 σ1 PV1 w/\zz κ T [] (yf L b us) σ1 PV1:=fun w0 σ0 hi=>by
        obtain ⟨σ1,PV1,hi1,hA1⟩:=zqa h hr hlive hk hR hi;grind
      obtain ⟨fn,h1,h2,h3,_⟩:=hΓ s (by simp);split at hT
      · rename_i S2 bl x hl;have hN:us.length=As.length:=hr.len;cases hv:s.view with
        |true=>rw [hv] at hT;exact ⟨fn,h1,h2,h3,zdN (hΓ s (by simp)) hgl hl hN h hT hi hTi⟩
        |false=>
          rw [hv] at hT;have hvo:s.viewO=true:=by grind
          exact ⟨fn,h1,h2,h3,zdO (hΓ s (by simp)) hvo hgl hl hN h hT hi hTi⟩
      ·cases hT
theorem za8 (hgl:C.gl w0.w σ0) {d:Nat}{f:FuncId}{As:List (AV C.D)}{us:List Value}{out:Out C}(h:AbsL κ S ν vs ids L b Z PV) (hr:VRs C Z ν us As) (hlive:AV.oks (fun id=>(S.heap id).isSome=true) As) {w:World}(hi:Inv w0 σ0 Z PV w):∀ {Γ0 Γ:List (Spec C)},(∀ s∈Γ0,s.OK P)->(∀ s∈Γ,s.OK P)->Yr Γ0 Γ S d f As=some out->
    ∃ fn, P.funcs[f]? = some fn /\ (fn.name == "runtime.NumGoroutine") = false /\ fn.body.isNone = false /\ Calls P f us.toArray w fun e w' => match e with
      | .returned v=>∃ S' Z' PV',out = .go S'/\Inv w0 σ0 Z' PV' w'/\zz κ S' ((d,v)::L) b Z' PV'
      | .panicked chain=>∃ A S' u Z' PV',out = .pan A S'/\chain=[{v:=u,recovered:=false}]/\Inv w0 σ0 Z' PV' w'/\x8 C Z' u A/\zz κ S' L b Z' PV'
      | .outgrown=>False
  |Γ0,[],hΓ0,_,ho=>zeQ hgl h hr hlive hi hΓ0 ho
  |Γ0,s::Γ,hΓ0,hΓ,ho=>by
    unfold Yr at ho;cases hf:Nat.beq s.f f with
    |false=>
      rw [hf,G8] at ho;exact za8 hgl h hr hlive hi hΓ0 (fun s hs=>hΓ s (Uz _ hs)) ho
    |true=>
      rw [hf,Uv] at ho;have:=jz hf;subst this;split at ho
      · rename_i S2 bl x hl;have hs:=hΓ s (by simp);obtain ⟨fn,h1,h2,h3,_⟩:=hs;cases hv:s.view with
        |true=>rw [hv] at ho;exact ⟨fn,h1,h2,h3,zdN (hΓ s (by simp)) hgl (T:=virt S As) (N:=As.length) hl hr.len h ho hi (fun w0 σ0 hi=>⟨Z,PV,hi,ν,vs,ids,h.virt hr hlive⟩)⟩
        |false=>
          rw [hv,G8] at ho;cases hv2:s.viewO with
          |true=>rw [hv2] at ho;exact ⟨fn,h1,h2,h3,zdO (hΓ s (by simp)) hv2 hgl (T:=virt S As) (N:=As.length) hl hr.len h ho hi (fun w0 σ0 hi=>⟨Z,PV,hi,ν,vs,ids,h.virt hr hlive⟩)⟩
          |false=>rw [hv2] at ho;exact ⟨fn,h1,h2,h3,zlX (hΓ s (by simp)) hgl hl h hr hlive ho hi⟩
      ·exact za8 hgl h hr hlive hi hΓ0 (fun s hs=>hΓ s (Uz _ hs)) ho
theorem zoF (hgl:C.gl w0.w σ0) {d:Nat}{f:FuncId}{As:List (AV C.D)}{us:List Value}{out:Out C}(h:AbsL κ S ν vs ids L b Z PV) (hr:VRs C Z ν us As) (hlive:AV.oks (fun id=>(S.heap id).isSome=true) As) {w:World}(hi:Inv w0 σ0 Z PV w) {Γ:List (Spec C)}(hΓ:∀ s∈Γ,s.OK P) (ho:vN Γ S d f As=some out) :
    ∃ fn, P.funcs[f]? = some fn /\ (fn.name == "runtime.NumGoroutine") = false /\ fn.body.isNone = false /\ Calls P f us.toArray w fun e w' => match e with
      | .returned v=>∃ S' Z' PV',out = .go S'/\Inv w0 σ0 Z' PV' w'/\zz κ S' ((d,v)::L) b Z' PV'
      | .panicked chain=>∃ A S' u Z' PV',out = .pan A S'/\chain=[{v:=u,recovered:=false}]/\Inv w0 σ0 Z' PV' w'/\x8 C Z' u A/\zz κ S' L b Z' PV'
      | .outgrown=>False:=za8 hgl h hr hlive hi hΓ hΓ ho
end
end
end Go.Px
