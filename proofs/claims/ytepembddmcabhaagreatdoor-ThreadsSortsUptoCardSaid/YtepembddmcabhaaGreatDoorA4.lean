/- Part A4: PxM16 PxM17 PxM18 PxM19 PxM20 PxMP. -/
import Derived.Test.YtepembddmcabhaaGreatDoorB3
import Derived.Scope
namespace Go.Px
set_option linter.unusedSectionVars false
variable [Dfr]
set_option linter.unusedVariables false
section
variable {κ:Kp}{C:Cod}{S:St C}{n:Nat}{w0:Start}{σ0:FS}{P:Program}{ρ:Type}{stp:yV C}{dr:Y5 C}{lp:zc}{hs:Nat→Option Hint}
def At (n:Nat) (w0:Start) (σ0:FS) (κ:Kp) (S:St C) (a:Act) (w:World):Prop:=∃ L b σ PV,zC κ S L b σ PV∧Inv w0 σ0 σ PV w∧Fits n L b a
def AtP (n:Nat) (w0:Start) (σ0:FS) (κ:Kp) (v:AV C.D) (S:St C) (chain:List PanicEntry) (a:Act) (w:World):Prop:=∃ u L b σ PV,chain=[{v:=u,recovered:=false}]∧wj C σ u v∧zC κ S L b σ PV∧Inv w0 σ0 σ PV w∧Fits n L b a
def Zj (n:Nat) (w0:Start) (σ0:FS) (κ:Kp) (K:XE C→St C→Option ρ) (r:ρ):Exit→Act→World→Prop
 | .normal,a,w=>∃ S',K .normal S'=some r∧At n w0 σ0 κ S' a w
 | .exit i,a,w=>∃ S',K (.exit i) S'=some r∧At n w0 σ0 κ S' a w
 | .ret,a,w=>∃ S',K .ret S'=some r∧At n w0 σ0 κ S' a w
 | .panic chain,a,w=>∃ v S',K (.pan v) S'=some r∧AtP n w0 σ0 κ v S' chain a w
 |_,_,_=>False
def zdV (n:Nat) (w0:Start) (σ0:FS) (κ:Kp) (S:St C) (e:XE C) (x:Exit) (a:Act) (w:World):Prop:=match e,x with
 | .normal,.normal=>At n w0 σ0 κ S a w
 | .exit i,.exit j=>i=j∧At n w0 σ0 κ S a w
 | .ret,.ret=>At n w0 σ0 κ S a w
 | .pan v,.panic chain=>AtP n w0 σ0 κ v S chain a w
 |_,_=>False
def zhH (P:Program) (n:Nat) (κ:Kp) (stp:Oper→St C→Option (Out C)):Prop:=
 ∀ (w0:Start) (σ0:FS),C.gl w0.w σ0→∀ (o:Oper) (S:St C) L b σ PV,zC κ S L b σ PV→OpA κ P n w0 σ0 o (stp o S) L b σ PV
def Xw (P:Program) (n:Nat) (κ:Kp) (stp:yV C):Prop:=zhH P n κ (fun o S=>stp o S _ some)∧∀ (o:Oper) (S:St C) (ρ:Type) (k:Out C→Option ρ),stp o S ρ k=(stp o S _ some).bind k
def vK (P:Program) (n:Nat) (κ:Kp) (dr:Y5 C):Prop:=
 ∀ (w0:Start) (σ0:FS),C.gl w0.w σ0→∀ (ρ:Type) (id:Nat) (ops:Array Oper) (ord:List (Nat×Bool)) (S:St C) (K:XE C→St C→Option ρ) (r:ρ),dr ops ord ρ S K=some r→∀ (a:Act) (w:World),At n w0 σ0 κ S a w→(Code.region id ops true).wp P (Zj n w0 σ0 κ K r) a w
def Xb (lp:zc):Prop:=∀ {s β:Type}(f:s→Option (Step s β)) (x:s) (y:β),lp f x=some y→∃ k,Y7 f k x=some y
omit [Dfr] in
theorem wj.mono {σ τ:FS}(l:σ.le τ) {u:Value}{v:AV C.D}(h:wj C σ u v):wj C τ u v:=⟨h.1,fun ν hν=>(h.2 ν hν).mono l⟩
theorem At.close {g:Sig}{x:g.ty C}{a:Act}{w:World}(hc:g.close κ.m S=some x) (h:At n w0 σ0 κ S a w):At n w0 σ0 κ (g.open x) a w:=by
 obtain ⟨L,b,σ,PV,hA,hi,hf⟩:=h
 obtain ⟨σ',PV',hi',h'⟩:=zcH hc hA hi
 exact ⟨L,b,σ',PV',h',hi',hf⟩
omit [Dfr] in
theorem WE {g:Sig}{x:g.ty C}{L:List (Nat×Value)}{b:Nat→Value}{σ:FS}{PV:List Priv}{w:World}(hc:g.close κ.m S=some x) (hA:zC κ S L b σ PV) (hi:Inv w0 σ0 σ PV w):∃ σ' PV',σ.le σ'∧Inv w0 σ0 σ' PV' w∧zC κ (g.open x) L b σ' PV':=by
 obtain ⟨g1,hsep,hg⟩:=hi.own
 obtain ⟨σ',PV',hi',h'⟩:=zcH (w0:=⟨w,g1⟩) (σ0:=σ) hc hA (w:=w) ⟨hi.sub,.refl σ,fun b o v hb =>.inl hb,⟨g1,hsep,hg.sub,hg.apart,fun b i e =>.inr e⟩,.refl w g1⟩
 refine ⟨σ',PV',hi'.le,?_,h'⟩
 obtain ⟨g2,hsep2,hg2⟩:=hi'.own
 refine ⟨hi'.sub,hi.le.trans hi'.le,fun b o v hb=>?_,⟨g2,hsep2,hg2.sub,hg2.apart,fun b i e=>?_⟩,hi.ext⟩
 ·rcases hi'.fresh b o v hb with z | z | z
  ·exact hi.fresh b o v z
  ·have:=hi'.lt hb;simp only at z;omega
  ·exact .inr (hg.mine b (o+1) z)
 ·rcases hg2.mine b i e with z | z
  ·obtain ⟨y,hy⟩:=Option.isSome_iff_exists.1 e
   have:=Bit.at_lt (hg2.sub b i y hy);simp only at z;omega
  ·exact hg.mine b i z
omit [Dfr] in
theorem wj.again {σ τ:FS}(l:σ.le τ) {u:Value}{v:AV C.D}(h:wj C σ u v) {s:Sh}{y:s.ty C}(hy:Sh.get (fun _=>none) s v=some y):wj C τ u (Sh.put (fun k=>k) s y):=by
 refine ⟨AV.ok_mono (fun j hj=>?_) (Sh.put_ok (ρ:=fun k=>k) s hy),fun ν' hν'=>?_⟩
 ·obtain ⟨k,id,e,_⟩:=hj;cases e
 ·exact Sh.get_put (ν:=ν') (B:=fun _=>none) ⟨(fun k id e=>by cases e),hν'⟩ s hy ((h.2 ν' hν').mono l)
theorem AtP.close {g:Sig}{x:g.ty C}{a:Act}{w:World}{v:AV C.D}{chain:List PanicEntry}{s:Sh}{y:s.ty C}(hy:Sh.get (fun _=>none) s v=some y) (hc:g.close κ.m S=some x) (h:AtP n w0 σ0 κ v S chain a w):AtP n w0 σ0 κ (Sh.put (fun k=>k) s y) (g.open x) chain a w:=by
 obtain ⟨u,L,b,σ,PV,e,hp,hA,hi,hf⟩:=h
 obtain ⟨σ',PV',hl,hi',h'⟩:=WE hc hA hi
 exact ⟨u,L,b,σ',PV',e,hp.again hl hy,h',hi',hf⟩
theorem zf0 {k:XK}{g:Sig}{e:XE C}{y:XK.ty C k g}{K:XE C→St C→Option ρ}{r:ρ}(hc:zeR κ.m k g e S=some y) (ho:YD k g y K=some r) {x:Exit}{a:Act}{w:World} :
    zdV n w0 σ0 κ S e x a w→Zj n w0 σ0 κ K r x a w:=by
  intro h
  cases e with
  |normal=>
    cases x <;> first | exact h.elim | skip
    cases k <;> first | (cases hc;done) | exact ⟨_,ho,At.close hc h⟩
  |exit i=>
    cases x <;> first | exact h.elim | skip
    obtain ⟨rfl,h⟩:=h
    cases k <;> first | (cases hc;done) | skip
    obtain ⟨hij,hc2⟩:=zb hc
    obtain rfl:=Nat.eq_of_beq_eq_true hij
    exact ⟨_,ho,At.close hc2 h⟩
  |ret=>
    cases x <;> first | exact h.elim | skip
    cases k <;> first | (cases hc;done) | exact ⟨_,ho,At.close hc h⟩
  |pan v=>
    cases x <;> first | exact h.elim | skip
    cases k <;> first | (cases hc;done) | skip
    rename_i chain s
    obtain ⟨z,hz,hc2⟩:=Option.bind_eq_some_iff.1 hc
    obtain ⟨x',hx',hc3⟩:=Option.bind_eq_some_iff.1 hc2
    cases hc3
    have e1:Sh.hd (s:=s) (l:=g.shs) (Sh.pk (s:=s) (l:=g.shs) z x')=z:=Sh.hd_pk
    have e2:Sh.tl (s:=s) (l:=g.shs) (Sh.pk (s:=s) (l:=g.shs) z x')=x':=Sh.tl_pk
    have ho2:K (.pan (Sh.put (fun k=>k) s (Sh.hd (s:=s) (l:=g.shs) (Sh.pk (s:=s) (l:=g.shs) z x')))) (g.open (Sh.tl (s:=s) (l:=g.shs) (Sh.pk (s:=s) (l:=g.shs) z x')))=some r:=ho
    rw [e1,e2] at ho2
    exact ⟨_,_,ho2,AtP.close hz hx' h⟩
theorem YV:∀ {outs:List (XK×Sig)}{e:XE C}{y:zk C outs}{K:XE C→St C→Option ρ}{r:ρ},zQ κ.m outs e S=some y→zO outs y K=some r→∀ {x:Exit}{a:Act}{w:World},
    zdV n w0 σ0 κ S e x a w→Zj n w0 σ0 κ K r x a w
  |[],e,y,K,r,hc,ho,x,a,w,h=>by cases hc
  |[o],e,y,K,r,hc,ho,x,a,w,h=>zf0 hc ho h
  |o::o2::l,e,y,K,r,hc,ho,x,a,w,h=>by
    unfold zQ at hc
    unfold zO at ho
    cases hi:XK.is o.1 e with
    |true=>
      rw [hi,cond_true] at hc
      split at hc
      · rename_i z hz
        cases hc
        exact zf0 hz ho h
      · obtain ⟨z,hz,rfl⟩:=Option.map_eq_some_iff.1 hc
        exact YV hz ho h
    |false=>
      rw [hi,cond_false] at hc
      obtain ⟨z,hz,rfl⟩:=Option.map_eq_some_iff.1 hc
      exact YV hz ho h
theorem Zj.out {outs:List (XK×Sig)}{y:zk C outs}{K:XE C→St C→Option ρ}{r:ρ}(ho:zO outs y K=some r) {x:Exit}{a:Act}{w:World}(h:Zj n w0 σ0 κ (fun e S'=>zQ κ.m outs e S') y x a w):Zj n w0 σ0 κ K r x a w:=by
 cases x with
 |normal=>obtain ⟨S',hc,h⟩:=h;exact YV hc ho (e :=.normal) h
 |exit i=>obtain ⟨S',hc,h⟩:=h;exact YV hc ho (e :=.exit i) (x :=.exit i) ⟨rfl,h⟩
 |ret=>obtain ⟨S',hc,h⟩:=h;exact YV hc ho (e :=.ret) (x :=.ret) h
 |panic chain=>obtain ⟨v,S',hc,h⟩:=h;exact YV hc ho (e :=.pan v) (x :=.panic chain) h
 |goto l=>exact h.elim
 |outgrown=>exact h.elim
theorem At.skip {a:Act}{w:World}(h:At n w0 σ0 κ S a w) {d:Nat}(hd:Nat.blt d n=true):At n w0 σ0 κ (S.put d (.tup [])) (a.put (some d) undef) w:=by
 obtain ⟨L,b,σ,PV,⟨ν,vs,ids,hA⟩,hi,hf⟩:=h
 exact ⟨_,b,σ,PV,⟨ν,vs,ids,hA.put (v:=undef) ⟨[],rfl,trivial⟩ trivial⟩,hi,hf.put (by simpa [Nat.blt_eq] using hd) _⟩
theorem At.lit {a:Act}{w:World}(h:At n w0 σ0 κ S a w) {d:Nat}{q:Bool}(he:S.env d = .bool q):At n w0 σ0 κ (S.put d (.bool q)) a w:=by
 obtain ⟨L,b,σ,PV,⟨ν,vs,ids,hA⟩,hi,hf⟩:=h
 have:S.put d (.bool q)=S:=by
  unfold St.put
  have:upd S.env d (.bool q)=S.env:=by
   funext t
   by_cases e:t=d
   ·subst e;rw [zp,he]
   ·rw [zr e]
  rw [this]
 rw [this];exact ⟨L,b,σ,PV,⟨ν,vs,ids,hA⟩,hi,hf⟩
theorem At.yield {a:Act}{w:World}(h:At n w0 σ0 κ S a w) {ops:Array Oper}{j dg:Nat}(hj:(ops[j]?).bind (·.dst)=some dg):(∀ q,S.env dg = .bool q→yielded ops a.tmps j=some q)∧(S.env dg = .tup []→yielded ops a.tmps j=none):=by
 obtain ⟨L,b,σ,PV,⟨ν,vs,ids,hA⟩,hi,hf⟩:=h
 have hy:=congrFun (hf.yielded ops) j
 have hv:=hA.env dg
 rw [hy]
 unfold zdL
 rw [hj]
 refine ⟨fun q e=>?_,fun e=>?_⟩
 ·rw [e] at hv
  show (match look L b dg with | .bool c=>some c | _=>none)=some q
  have:=hv.bool_inv
  generalize look L b dg=v at this
  rw [this]
 ·rw [e] at hv
  obtain ⟨us,e2,h3⟩:=hv
  show (match look L b dg with | .bool c=>some c | _=>none)=none
  generalize look L b dg=v at e2
  rw [e2]
theorem zmP (hgl:C.gl w0.w σ0) (hstp:Xw P n κ stp) {o:Oper}{next:St C→(XE C→St C→Option ρ)→Option ρ}{K:XE C→St C→Option ρ}{r:ρ}
    (h:(stp o S ρ fun out=>match out with
      | .go S'=>next S' K
      | .pan v S'=>K (.pan v) S')=some r) {a:Act} {w:World} (hA:At n w0 σ0 κ S a w) {Kw:Act→World→Prop} (hK:∀ S' a' w',next S' K=some r→At n w0 σ0 κ S' a' w'→Kw a' w') :
    o.wp P a w Kw (Zj n w0 σ0 κ K r):=by
  obtain ⟨L,b,σ,PV,hA,hi,hf⟩:=hA
  rw [hstp.2] at h
  obtain ⟨out,ho,h⟩:=Option.bind_eq_some_iff.1 h
  refine hstp.1 w0 σ0 hgl o S L b σ PV hA out ho a w hi hf Kw _ ?_ ?_
  · rintro S' rfl L' σ' PV' a' w' hi' hf' hA'
    exact hK S' a' w' h ⟨L',b,σ',PV',hA',hi',hf'⟩
  · rintro v S' rfl u σ' PV' w' hi' hA' hp
    exact ⟨v,S',h,u,L,b,σ',PV',rfl,hp,hA',hi',hf⟩
theorem xz (hgl:C.gl w0.w σ0) (hstp:Xw P n κ stp) {ops:Array Oper}:∀ (l:List Oper) {S:St C}{K:XE C→St C→Option ρ}{r:ρ},ZG stp n ops l S K=some r→∀ {a:Act}{w:World},At n w0 σ0 κ S a w→wpList P ops (Zj n w0 σ0 κ K r) l a w
  |[],S,K,r,h,a,w,hA=>⟨S,h,hA⟩
  |o::l,S,K,r,h,a,w,hA=>by
    unfold ZG at h
    split at h
    · rename_i hg
      refine wpList_plain hg fun Kw hK=>?_
      exact zmP hgl hstp (next:=fun S K=>ZG stp n ops l S K) h hA fun S' a' w' h' hA'=>hK _ _ (xz hgl hstp l h' hA')
    · rename_i j want hg
      split at h
      · cases h
      · rename_i dg hj
        have hy:=hA.yield hj
        have skip:∀ {S:St C},At n w0 σ0 κ S a w→ZG.skip n o S K (fun S K=>ZG stp n ops l S K)=some r→∀ (Kw:Act→World→Prop),(∀ a w,wpList P ops (Zj n w0 σ0 κ K r) l a w→Kw a w)→Kw (a.put o.dst undef) w:=by
          intro S hA h Kw hK
          unfold ZG.skip at h
          split at h
          · rename_i d hd
            obtain ⟨hn,h⟩:=zb h
            rw [hd]
            exact hK _ _ (xz hgl hstp l h (hA.skip hn))
          · rename_i hd
            rw [hd]
            exact hK _ _ (xz hgl hstp l h hA)
        have go:∀ {S:St C} {run:Bool},At n w0 σ0 κ S a w→ZG.go stp n o l S run K (fun S K=>ZG stp n ops l S K)=some r→∀ (Kw:Act→World→Prop),(∀ a w,wpList P ops (Zj n w0 σ0 κ K r) l a w→Kw a w)→
            (if run=true then o.wp P a w Kw (Zj n w0 σ0 κ K r) else Kw (a.put o.dst undef) w):=by
          intro S run hA h Kw hK
          unfold ZG.go at h
          cases run with
          |true=>
            rw [if_pos rfl]
            exact zmP hgl hstp (next:=fun S K=>ZG stp n ops l S K) h hA fun S' a' w' h' hA'=>hK _ _ (xz hgl hstp l h' hA')
          |false=>exact skip hA h Kw hK
        split at h
        · rename_i q e
          have hyq:=hy.1 q e
          refine wpList_step fun Kw hK=>?_
          have hw:Region.wanted o (yielded ops a.tmps)=(q == want):=by simp [Region.wanted,hg,hyq]
          rw [hw]
          cases q with
          |true=>
            rw [if_pos rfl] at h
            have:=go (run:=want) (hA.lit e) h Kw hK
            cases want <;> simpa using this
          |false=>
            rw [if_neg (by simp)] at h
            have:=go (run:= !want) (hA.lit e) h Kw hK
            cases want <;> simpa using this
        · rename_i e
          have hyn:=hy.2 e
          refine wpList_step fun Kw hK=>?_
          have hw:Region.wanted o (yielded ops a.tmps)=false:=by simp [Region.wanted,hg,hyn]
          rw [hw]
          exact skip hA h Kw hK
        · cases h
def XR (P:Program) (n:Nat) (w0:Start) (σ0:FS) (κ:Kp) (c:Code) (run:(ρ:Type)→St C→(XE C→St C→Option ρ)→Option ρ):Prop:=
 ∀ (ρ:Type) (S:St C) (K:XE C→St C→Option ρ) (r:ρ),run ρ S K=some r→∀ (a:Act) (w:World),At n w0 σ0 κ S a w→c.wp P (Zj n w0 σ0 κ K r) a w
theorem wF {c:Code}{i:Nat}{raw:(ρ:Type)→St C→(XE C→St C→Option ρ)→Option ρ}(h:XR P n w0 σ0 κ c raw):XR P n w0 σ0 κ c (fun _ S K=>ZC.wrap κ.m hs i S K raw):=by
 intro ρ S K r hr a w hA
 unfold ZC.wrap at hr
 split at hr
 ·rename_i outs _
  obtain ⟨y,hy,ho⟩:=Option.bind_eq_some_iff.1 hr
  exact wp_mono (h _ _ _ _ hy _ _ hA) fun e a w hq=>hq.out ho
 ·exact h _ _ _ _ hr _ _ hA
theorem yZ (hgl:C.gl w0.w σ0) (hstp:Xw P n κ stp) (hdr:vK P n κ dr) (hlp:Xb lp):∀ (c:Code) (i:Nat),XR P n w0 σ0 κ c (fun ρ S K=>ZC stp dr lp n κ.m hs c i ρ S K)
  | .skip,i=>by
    show XR P n w0 σ0 κ .skip fun _ S K=>ZC.wrap κ.m hs i S K _
    exact wF fun _ _ _ _ hr a w hA=>wp_skip ⟨_,hr,hA⟩
  | .ret,i=>by
    show XR P n w0 σ0 κ .ret fun _ S K=>ZC.wrap κ.m hs i S K _
    exact wF fun _ _ _ _ hr a w hA=>wp_ret ⟨_,hr,hA⟩
  | .exit j,i=>by
    show XR P n w0 σ0 κ (.exit j) fun _ S K=>ZC.wrap κ.m hs i S K _
    exact wF fun _ _ _ _ hr a w hA=>wp_exit ⟨_,hr,hA⟩
  | .seq c d,i=>by
    show XR P n w0 σ0 κ (.seq c d) fun _ S K=>ZC.wrap κ.m hs i S K _
    refine wF fun ρ S K r hr a w hA=>?_
    refine wp_seq (wp_mono (yZ hgl hstp hdr hlp c (i+1) _ _ _ _ hr _ _ hA) ?_)
    intro e a w hq
    cases e with
    |normal=>obtain ⟨S',hk,hA'⟩:=hq;exact yZ hgl hstp hdr hlp d _ _ _ _ _ hk _ _ hA'
    |exit j=>obtain ⟨S',hk,hA'⟩:=hq;exact ⟨S',hk,hA'⟩
    |ret=>obtain ⟨S',hk,hA'⟩:=hq;exact ⟨S',hk,hA'⟩
    |panic chain=>obtain ⟨v,S',hk,hA'⟩:=hq;exact ⟨v,S',hk,hA'⟩
    |goto l=>exact hq.elim
    |outgrown=>exact hq.elim
  | .cond x c d,i=>by
    show XR P n w0 σ0 κ (.cond x c d) fun _ S K=>ZC.wrap κ.m hs i S K _
    refine wF fun ρ S K r hr a w hA=>?_
    have hr:(match S.op x with
      | .bool q=>if q=true then ZC stp dr lp n κ.m hs c (i+1) _ S K else ZC stp dr lp n κ.m hs d (i+1+Xz c) _ S K
      |_=>none)=some r:=hr
    split at hr
    · rename_i q e
      have hev:a.eval x = .bool q:=by
        obtain ⟨L,b,σ,PV,⟨ν,vs,ids,hA⟩,hi,hf⟩:=hA
        have:=hA.op x
        rw [e] at this
        rw [hf.eval];exact this.bool_inv
      cases q with
      |true=>exact wp_cond_true hev (yZ hgl hstp hdr hlp c _ _ _ _ _ (by simpa using hr) _ _ hA)
      |false=>exact wp_cond_false hev (yZ hgl hstp hdr hlp d _ _ _ _ _ (by simpa using hr) _ _ hA)
    · cases hr
  | .block j c,i=>by
    show XR P n w0 σ0 κ (.block j c) fun _ S K=>ZC.wrap κ.m hs i S K _
    refine wF fun ρ S K r hr a w hA=>?_
    refine wp_block (wp_mono (yZ hgl hstp hdr hlp c (i+1) _ _ _ _ hr _ _ hA) ?_)
    intro e a w hq
    cases e with
    |normal=>obtain ⟨S',hk,hA'⟩:=hq;exact ⟨S',hk,hA'⟩
    |exit j'=>
      obtain ⟨S',hk,hA'⟩:=hq
      have hk:(bif Nat.beq j' j then K .normal S' else K (.exit j') S')=some r:=hk
      show if j'=j then _ else _
      cases e:Nat.beq j' j with
      |true=>rw [e] at hk;rw [if_pos (Nat.eq_of_beq_eq_true e)];exact ⟨S',hk,hA'⟩
      |false=>rw [e] at hk;rw [if_neg (fun h=>by rw [h] at e;simp at e)];exact ⟨S',hk,hA'⟩
    |ret=>obtain ⟨S',hk,hA'⟩:=hq;exact ⟨S',hk,hA'⟩
    |panic chain=>obtain ⟨v,S',hk,hA'⟩:=hq;exact ⟨v,S',hk,hA'⟩
    |goto l=>exact hq.elim
    |outgrown=>exact hq.elim
  | .loop c,i=>by
    intro ρ S K r hr a w hA
    unfold ZC at hr
    split at hr
    case h_2=>cases hr
    rename_i g outs _
    obtain ⟨x0,hx0,hr⟩:=Option.bind_eq_some_iff.1 hr
    obtain ⟨y,hy,ho⟩:=Option.bind_eq_some_iff.1 hr
    obtain ⟨m0,hm0⟩:=hlp _ _ _ hy
    have hA0:=hA.close hx0
    generalize hf:(fun x=>ZC stp dr lp n κ.m hs c (i+1) _ (g.open x) fun e S'=>match e with
          | .normal=>(g.close κ.m S').bind fun x'=>some (Step.next x')
          |e=>(zQ κ.m outs e S').bind fun y=>some (Step.done y))=f at hm0
    classical
    let I:Nat→Act→World→Prop:=fun m a w=>∃ x,Y7 f m x=some y∧At n w0 σ0 κ (g.open x) a w
    refine wp_loop (fun a w=>∃ m,I m a w) (fun a w=>if h:∃ m,I m a w then (Wx h).choose else 0) ⟨m0,x0,hm0,hA0⟩ ?_
    intro a1 w1 h1
    have hfind:=(Wx h1).choose_spec.1
    rw [dif_pos h1]
    generalize (Wx h1).choose=m1 at hfind ⊢
    obtain ⟨x,hit,hA1⟩:=hfind
    cases m1 with
    |zero=>simp [Y7] at hit
    |succ m1=>
      simp only [Y7] at hit
      cases hfx:f x with
      |none=>rw [hfx] at hit;simp at hit
      |some st=>
        rw [hfx] at hit
        rw [← hf] at hfx
        refine wp_mono (yZ hgl hstp hdr hlp c (i+1) _ _ _ _ hfx _ _ hA1) ?_
        intro e a2 w2 hq
        have dn:∀ {e':XE C} {S':St C} {y':zk C outs},zQ κ.m outs e' S'=some y'→st = .done y'→∀ {x},zdV n w0 σ0 κ S' e' x a2 w2→Zj n w0 σ0 κ K r x a2 w2:=by
          intro e' S' y' hc hst x hx
          subst hst
          simp only [Option.bind_some,Option.some.injEq] at hit
          subst hit
          exact YV hc ho hx
        cases e with
        |normal=>
          obtain ⟨S',hk,hA'⟩:=hq
          obtain ⟨x',hx',hk⟩:=Option.bind_eq_some_iff.1 hk
          cases hk
          have hI:I m1 a2 w2:=⟨x',hit,hA'.close hx'⟩
          refine ⟨⟨m1,hI⟩,?_⟩
          rw [dif_pos ⟨m1,hI⟩]
          exact Nat.lt_succ_of_le ((Wx ⟨m1,hI⟩).choose_spec.2 _ hI)
        |exit j=>
          obtain ⟨S',hk,hA'⟩:=hq
          obtain ⟨y',hy',hk⟩:=Option.bind_eq_some_iff.1 hk
          exact dn hy' (Option.some.inj hk).symm (x :=.exit j) ⟨rfl,hA'⟩
        |ret=>
          obtain ⟨S',hk,hA'⟩:=hq
          obtain ⟨y',hy',hk⟩:=Option.bind_eq_some_iff.1 hk
          exact dn hy' (Option.some.inj hk).symm (x :=.ret) hA'
        |panic chain=>
          obtain ⟨v,S',hk,hA'⟩:=hq
          obtain ⟨y',hy',hk⟩:=Option.bind_eq_some_iff.1 hk
          exact dn hy' (Option.some.inj hk).symm (x :=.panic chain) hA'
        |goto l=>exact hq.elim
        |outgrown=>exact hq.elim
  | .region id ops false,i=>by
    show XR P n w0 σ0 κ (.region id ops false) fun _ S K=>ZC.wrap κ.m hs i S K _
    exact wF fun _ _ _ _ hr a w hA=>wp_region_list (xz hgl hstp _ hr hA)
  | .region id ops true,i=>fun ρ S K r hr a w hA=>by
    have hr:(match hs i with
      |some (.draw ord [])=>dr ops ord ρ S K
      |some (.draw ord (o::outs))=>(dr ops ord _ S fun e S'=>zQ κ.m (o::outs) e S').bind fun y=>zO (o::outs) y K
      |_=>none)=some r:=hr
    split at hr
    · exact hdr _ _ hgl _ _ _ _ _ _ _ hr _ _ hA
    · obtain ⟨y,hy,ho⟩:=Option.bind_eq_some_iff.1 hr
      exact wp_mono (hdr _ _ hgl _ _ _ _ _ _ _ hy _ _ hA) fun e a w hq=>hq.out ho
    · cases hr
  | .rangeFunc ..,i=>fun _ _ _ _ hr=>by simp [ZC] at hr
  | .scope c,i=>by
    show XR P n w0 σ0 κ (.scope c) fun _ S K=>ZC.wrap κ.m hs i S K _
    refine wF fun ρ S K r hr a w hA=>?_
    refine wp_scope_straight (wp_mono (yZ hgl hstp hdr hlp c (i+1) _ _ _ _ hr _ _ hA) ?_)
    intro e a w hq
    cases e <;> first | exact hq | exact hq.elim
  | .label _,i=>by
    show XR P n w0 σ0 κ (.label _) fun _ S K=>ZC.wrap κ.m hs i S K _
    exact wF fun _ _ _ _ hr a w hA=>wp_label ⟨_,hr,hA⟩
  | .goto _,i=>fun _ _ _ _ hr=>by simp [ZC] at hr
  | .refuse _,i=>fun _ _ _ _ hr=>by simp [ZC] at hr
end
end Go.Px
namespace Go.Px
set_option linter.unusedSectionVars false
variable [Dfr]
set_option linter.unusedVariables false
def zck:List Value→Value
 |[v]=>v
 |vs =>.tuple vs.toArray
section
variable {κ:Kp}{C:Cod}{S:St C}{n:Nat}{w0:Start}{σ0 σ:FS}{P:Program}{ρ:Type}{L:List (Nat×Value)}{b:Nat→Value}{PV:List Priv}
def rvA (P:Program) (S:St C):ResultVar→Option (AV C.D)
 | .tmp t=>some (S.env t)
 | .cell t T=>match S.env t with
  | .pc id 0=>(match S.heap id with
   |some (.cell cs)=>Y1 P T cs 0
   |_=>none)
  |_=>none
def WF (P:Program) (S:St C):List ResultVar→Option (List (AV C.D))
 |[]=>some []
 |r::rs=>(rvA P S r).bind fun A=>(WF P S rs).bind fun As=>some (A::As)
omit [Dfr] in
theorem zrQ {ν:Val}{vs:Nat→List Value}{ids:List Nat}(h:AbsL κ S ν vs ids L b σ PV) {rv:ResultVar}{A:AV C.D}(hr:rvA P S rv=some A) {w:World}(hw:Xt σ PV w) {tmps:Array Value}(ht:∀ i,tmps.getD i undef=look L b i) :
    ∃ v,(ZP tmps rv).run P w = .ok v w∧VR C σ ν v A∧A.ok fun id=>(S.heap id).isSome=true:=by
  cases rv with
  |tmp t=>cases hr;exact ⟨_,by simp [ZP,ht],h.env t,h.live t⟩
  |cell t T=>
    simp only [rvA] at hr
    split at hr
    · rename_i id e
      have hp:=h.env t
      rw [e] at hp
      have hp:look L b t = .pointer (some ((ν.adr id).add 0)):=hp
      split at hr
      · rename_i cs hcs
        obtain ⟨td,ti,hu,hi,h1,h2,e3⟩:=VT hr
        obtain ⟨m,hm,_⟩:=h.at hcs
        obtain ⟨hh,hrr,hsub⟩:=hw.get hm
        have hrr:ZZ (ν.adr id).a (vs id) hh:=hrr
        have hc:=h.cell id cs hcs
        have hl2:(((vs id).drop 0).take ti.size).length=ti.size:=by rw [← h1];simp [hc.len]
        have:=vQ (P:=P) (w:=w) ((ν.adr id).add 0) (((vs id).drop 0).take ti.size) hu hi hl2.symm (fun e=>by rw [hl2];exact h2 e) (fun j u hj=>by
          have hj':j < ti.size:=by
            have:=(List.getElem?_eq_some_iff.1 hj).1
            rw [hl2] at this;exact this
          rw [List.getElem?_take_of_lt hj',List.drop_zero] at hj
          rw [Addr.add_add];simpa using hrr.cell hsub hj)
        refine ⟨_,?_,by rw [e3];exact ((hc.drop 0).take _).val (agg:=Zh td),va hr (h.livec id cs hcs)⟩
        show (do loadVar T (← asAddr (tmps.getD t undef)):Sem Value).run P w=_
        rw [ht t,hp]
        simpa [asAddr] using this
      · cases hr
    · cases hr
omit [Dfr] in
theorem zi1 {ν:Val}{vs:Nat→List Value}{ids:List Nat}(h:AbsL κ S ν vs ids L b σ PV) {w:World}(hw:Xt σ PV w) {tmps:Array Value}(ht:∀ i,tmps.getD i undef=look L b i):∀ {rvs:List ResultVar}{As:List (AV C.D)},WF P S rvs=some As→
    ∃ us:List Value,us.length=rvs.length∧(∀ (j:Nat) rv u,rvs[j]?=some rv→us[j]?=some u→(ZP tmps rv).run P w = .ok u w)∧VRs C σ ν us As∧AV.oks (fun id=>(S.heap id).isSome=true) As
  |[],As,hr=>by cases hr;exact ⟨[],rfl,fun j rv u h=>by simp at h,trivial,trivial⟩
  |rv::rvs,As,hr=>by
    obtain ⟨A,hA,hr⟩:=Option.bind_eq_some_iff.1 hr
    obtain ⟨As',hAs,hr⟩:=Option.bind_eq_some_iff.1 hr
    cases hr
    obtain ⟨u,h1,h2,h3⟩:=zrQ h hA hw ht
    obtain ⟨us,k1,k2,k3,k4⟩:=zi1 h hw ht hAs
    refine ⟨u::us,by simp [k1],fun j rv' u' hj hu=>?_,⟨h2,k3⟩,⟨h3,k4⟩⟩
    cases j with
    |zero=>simp at hj hu;subst hj;subst hu;exact h1
    |succ j=>exact k2 j rv' u' (by simpa using hj) (by simpa using hu)
omit [Dfr] in
theorem ziH {fn:Func}{rvs:List ResultVar}(hr:fn.results.toList=rvs) (hl:rvs.length≤4) {tmps:Array Value}{w:World}{us:List Value}(hus:us.length=rvs.length) (h:∀ (j:Nat) rv u,rvs[j]?=some rv→us[j]?=some u→(ZP tmps rv).run P w = .ok u w) :
    (results fn tmps).run P w = .ok (zck us) w:=by
  have hre:fn.results=rvs.toArray:=by apply Array.toList_inj.1;rw [hr]
  match rvs,us,hus,hl with
  |[],[],_,_=>exact ziC hre
  |[r1],[u1],_,_=>exact ziy hre (h 0 r1 u1 rfl rfl)
  |[r1,r2],[u1,u2],_,_=>exact ziz hre (h 0 r1 u1 rfl rfl) (h 1 r2 u2 rfl rfl)
  |[r1,r2,r3],[u1,u2,u3],_,_=>exact ziA hre (h 0 r1 u1 rfl rfl) (h 1 r2 u2 rfl rfl) (h 2 r3 u3 rfl rfl)
  |[r1,r2,r3,r4],[u1,u2,u3,u4],_,_=>exact ziB hre (h 0 r1 u1 rfl rfl) (h 1 r2 u2 rfl rfl) (h 2 r3 u3 rfl rfl) (h 3 r4 u4 rfl rfl)
  |_::_::_::_::_::_,_,_,hl=>simp at hl
structure Spec (C:Cod) where
 f:FuncId
 nr:Nat
 ins:Sig
 outs:List (XK×Sig)
 F:ins.ty C→Option (zk C outs)
def Xc (As:List (AV C.D)) (heap:Nat→Option (Ent C)):St C:={env:=fun i=>(As[i]?).getD .und,heap:=heap}
omit [Dfr] in
def vo (κ:Kp) (st:Start) (σ0:FS) (nr:Nat) (outs:List (XK×Sig)) (r:zk C outs) (e:Ending) (w:World):Prop:=
 zO outs r fun x S'=>match x,e with
  | .ret,.returned v=>∃ vals σ' PV',v=zck vals∧vals.length=nr∧Inv st σ0 σ' PV' w∧zC κ S' (yh 0 vals) (fun _=>undef) σ' PV'
  | .pan A,.panicked chain=>∃ u σ' PV',chain=[{v:=u,recovered:=false}]∧Inv st σ0 σ' PV' w∧wj C σ' u A∧zC κ S' [] (fun _=>undef) σ' PV'
  |_,_=>False
omit [Dfr] in
def Spec.OK (P : Program) (s : Spec C) : Prop := ∃ fn, P.funcs[s.f]? = some fn ∧ (fn.name == "runtime.NumGoroutine") = false ∧ fn.body.isNone = false ∧
 ∀ (x:s.ins.ty C) r,s.F x=some r→∀ (κ:Kp) (st:Start) (σ:FS),C.gl st.w σ→∀ (PV:List Priv) (ν:Val) (vs:Nat→List Value) (ids:List Nat) (args:List Value),κ.m=s.ins.es.length→args.length=s.ins.ts.length→AbsL κ (s.ins.open x) ν vs ids (yh 0 args) (fun _=>undef) σ PV→Pre st σ PV→Calls P s.f args.toArray st.w (vo κ st σ s.nr s.outs r)
def zrR (e e':XE C):Prop:=match e,e' with
 | .pan v,.pan v'=>∃ (s:Sh) (y:s.ty C),Sh.get (fun _=>none) s v=some y∧v'=Sh.put (fun k=>k) s y
 | .normal,.normal=>True
 | .ret,.ret=>True
 | .exit i,.exit j=>i=j
 |_,_=>False
omit [Dfr] in
theorem xn {m:Nat}{Q:XE C→St C→Prop}:∀ {outs:List (XK×Sig)}{e:XE C}{r:zk C outs},zQ m outs e S=some r→
    (∀ (g:Sig) (x:g.ty C),g.close m S=some x→(∀ e',zrR e e'→Q e' (g.open x)))→zO outs r Q
  |[],e,r,h,_=>by cases h
  |[o],e,r,h,k=>closeX_prop h k
  |o::o2::l,e,r,h,k=>by
    unfold zQ at h
    unfold zO
    cases hi:XK.is o.1 e with
    |true=>
      rw [hi,cond_true] at h
      split at h
      · rename_i z hz
        cases h
        exact closeX_prop hz k
      · obtain ⟨z,hz,rfl⟩:=Option.map_eq_some_iff.1 h
        exact xn hz k
    |false=>
      rw [hi,cond_false] at h
      obtain ⟨z,hz,rfl⟩:=Option.map_eq_some_iff.1 h
      exact xn hz k
where
 closeX_prop {m:Nat} {Q:XE C→St C→Prop} {o:XK×Sig} {e:XE C} {r:XK.ty C o.1 o.2} (h:zeR m o.1 o.2 e S=some r) (k:∀ (g:Sig) (x:g.ty C),g.close m S=some x→(∀ e',zrR e e'→Q e' (g.open x))):YD o.1 o.2 r Q:=by
  obtain ⟨kk,g⟩:=o
  cases e with
  |normal=>cases kk <;> first | (cases h;done) | exact k g r h .normal trivial
  |exit i=>
   cases kk <;> first | (cases h;done) | skip
   obtain ⟨hij,h2⟩:=zb h
   obtain rfl:=Nat.eq_of_beq_eq_true hij
   exact k g r h2 (.exit _) rfl
  |ret=>cases kk <;> first | (cases h;done) | exact k g r h .ret trivial
  |pan v=>
   cases kk <;> first | (cases h;done) | skip
   rename_i s
   obtain ⟨z,hz,h2⟩:=Option.bind_eq_some_iff.1 h
   obtain ⟨x',hx',h3⟩:=Option.bind_eq_some_iff.1 h2
   cases h3
   show Q (.pan (Sh.put (fun k=>k) s (Sh.hd (s:=s) (l:=g.shs) (Sh.pk (s:=s) (l:=g.shs) z x')))) (g.open (Sh.tl (s:=s) (l:=g.shs) (Sh.pk (s:=s) (l:=g.shs) z x')))
   rw [show Sh.hd (s:=s) (l:=g.shs) (Sh.pk (s:=s) (l:=g.shs) z x')=z from Sh.hd_pk,show Sh.tl (s:=s) (l:=g.shs) (Sh.pk (s:=s) (l:=g.shs) z x')=x' from Sh.tl_pk]
   exact k g x' hx' _ ⟨s,z,hz,rfl⟩
def znL (stp:Nat→yV C) (dr:Nat→Y5 C) (lp:zc) (fn:Func) (nr:Nat) (ins:Sig) (outs:List (XK×Sig)) (hs:Nat→Option Hint) (x:ins.ty C):Option (zk C outs):=
  match fn.body with
  |none=>none
  |some c=>chk (Nat.ble ins.ts.length fn.ntmps && (Nat.beq fn.results.toList.length nr && (Nat.ble nr 4 && Nat.ble ins.es.length 64)))
      (ZC (stp fn.ntmps) (dr fn.ntmps) lp fn.ntmps ins.es.length hs c 0 _ (ins.open x) fun e S=>match e with
        | .ret=>(WF P S fn.results.toList).bind fun As=>zQ ins.es.length outs .ret (Xc As S.heap)
        | .normal=>(WF P S fn.results.toList).bind fun As=>zQ ins.es.length outs .ret (Xc As S.heap)
        | .pan v=>zQ ins.es.length outs (.pan v) (Xc [] S.heap)
        |_=>none)
end
end Go.Px
namespace Go.Px
section
variable {κ:Kp}{C:Cod}{S:St C}{n:Nat}{w0:Start}{σ0 σ:FS}{P:Program}{ρ:Type}{L:List (Nat×Value)}{b:Nat→Value}{PV:List Priv}
theorem yj {vals:List Value}:∀ i,look (yh 0 vals) (fun _=>undef) i=(vals[i]?).getD undef:=fun i=>by rw [zai];simp
theorem zbb {ν:Val}{vs:Nat→List Value}{ids:List Nat}(h:AbsL κ S ν vs ids L b σ PV) {us:List Value}{As:List (AV C.D)}(hr:VRs C σ ν us As) (hl:AV.oks (fun id=>(S.heap id).isSome=true) As):AbsL κ (Xc As S.heap) ν vs ids (yh 0 us) (fun _=>undef) σ PV:=by
 refine ⟨⟨h.nd,h.dom,h.pv,h.cell,fun t=>?_,h.one⟩,fun t=>?_,h.livec,h.keep⟩
 ·rw [yj]
  show VR C σ ν _ ((As[t]?).getD .und)
  cases e:As[t]? with
  |none=>trivial
  |some A=>
   obtain ⟨u,e1,e2⟩:=hr.get t A e
   rw [e1];exact e2
 ·show ((As[t]?).getD .und).ok _
  cases e:As[t]? with
  |none=>trivial
  |some A=>exact AV.oks_iff.1 hl A (List.mem_of_getElem? e)
theorem At.defers [Dfr] {κ:Kp}{C:Cod}{S:St C}{n:Nat}{w0:Start}{σ0:FS}{a:Act}{w:World}(h:At n w0 σ0 κ S a w):a.defers=Dfr.l:=by
 obtain ⟨_,_,_,_,_,_,hf⟩:=h;exact hf.defers
theorem zi2 {κ:Kp}{C:Cod}{P:Program}{S':St C}{L:List (Nat×Value)}{b:Nat→Value}{σ':FS}{PV':List Priv}{fn:Func}{nr:Nat}{outs:List (XK×Sig)}{r:zk C outs}{st:Start}{σ:FS}{tmps:Array Value}{w:World}(c4:fn.results.toList.length=nr) (c2:fn.results.toList.length≤4) (hk:(WF P S' fn.results.toList).bind (fun As=>zQ κ.m outs .ret (Xc As S'.heap))=some r)
    (hA':zC κ S' L b σ' PV') (hi':Inv st σ σ' PV' w) (hget:∀ i,tmps.getD i undef=look L b i):∃ v,(results fn tmps).run P w = .ok v w∧vo κ st σ nr outs r (.returned v) w:=by
  obtain ⟨As,hAs,hk⟩:=Option.bind_eq_some_iff.1 hk
  obtain ⟨ν',vs',ids',hA'⟩:=hA'
  obtain ⟨us,k1,k2,k3,k4⟩:=zi1 hA' hi'.held hget hAs
  refine ⟨_,ziH rfl c2 k1 k2,?_⟩
  have hav:=zbb hA' k3 k4
  refine xn hk fun g y hy e' he=>?_
  cases e' <;> first | exact he.elim | skip
  obtain ⟨σ2,PV2,hi2,h2⟩:=zcH hy ⟨ν',vs',ids',hav⟩ hi'
  exact ⟨us,σ2,PV2,rfl,k1.trans c4,hi2,h2⟩
theorem zcl [Dfr] {κ:Kp}{C:Cod}{P:Program}{S':St C}{fn:Func}{nr:Nat}{outs:List (XK×Sig)}{r:zk C outs}{st:Start}{σ:FS}{a:Act}{w:World}(c4:fn.results.toList.length=nr) (c2:fn.results.toList.length≤4) (hk:(WF P S' fn.results.toList).bind (fun As=>zQ κ.m outs .ret (Xc As S'.heap))=some r)
    (hA:At fn.ntmps st σ κ S' a w):∃ v,(results fn a.tmps).run P w = .ok v w∧vo κ st σ nr outs r (.returned v) w:=by
  obtain ⟨L,b,σ',PV',hA',hi',hf'⟩:=hA
  exact zi2 c4 c2 hk hA' hi' hf'.get
theorem zrb {stp : Nat → yV C} {dr : Nat → Y5 C} {lp : zc} {f : FuncId} {fn : Func} {nr : Nat} {ins : Sig} {outs : List (XK × Sig)} {hs : Nat → Option Hint} {F : ins.ty C → Option (zk C outs)} (hstp : ∀ κ, Xw P fn.ntmps κ (stp fn.ntmps)) (hdr : ∀ κ, vK P fn.ntmps κ (dr fn.ntmps)) (hlp : Xb lp) (hf : P.funcs[f]? = some fn) (hnm : (fn.name == "runtime.NumGoroutine") = false) (hbs : fn.body.isNone = false) (hF : ∀ x r, F x = some r → znL (P := P) stp dr lp fn nr ins outs hs x = some r) :
    Spec.OK P ⟨f,nr,ins,outs,F⟩:=by
  refine ⟨fn,hf,hnm,hbs,?_⟩
  intro x r hr κ st σ hg PV ν vs ids args hm hargs hA hpre
  have hr:=hF x r hr
  unfold znL at hr
  split at hr
  · cases hr
  rename_i c hb
  obtain ⟨hc,hr⟩:=zb hr
  simp only [Bool.and_eq_true] at hc
  obtain ⟨c1,c4,c2,c3⟩:=hc
  have c4:=Nat.eq_of_beq_eq_true c4
  rw [← c4] at c2
  have hm:κ.m=ins.es.length:=hm
  rw [← hm] at hr
  have hargs:args.length=ins.ts.length:=hargs
  have hn:args.length≤fn.ntmps:=by rw [hargs];exact Nat.le_of_ble_eq_true c1
  have hat:At fn.ntmps st σ κ (ins.open x) {tmps:=args.toArray++Array.replicate (fn.ntmps - args.toArray.size) undef,defers:=[]} st.w:=⟨_,_,σ,PV,⟨ν,vs,ids,hA⟩,hpre.inv,vR hn⟩
  refine calls_of_wp hf hb (wp_mono (yZ hg (hstp κ) (hdr κ) hlp c 0 _ _ _ _ hr _ _ hat) ?_)
  have hret:∀ {S':St C} {a:Act} {w:World},(WF P S' fn.results.toList).bind (fun As=>zQ κ.m outs .ret (Xc As S'.heap))=some r→At fn.ntmps st σ κ S' a w→a.defers=[]∧∃ v,(results fn a.tmps).run P w = .ok v w∧vo κ st σ nr outs r (.returned v) w:=fun hk hA'=>⟨hA'.defers,zcl c4 (Nat.le_of_ble_eq_true c2) hk hA'⟩
  intro e a w hq
  cases e with
  |normal=>obtain ⟨S',hk,hA'⟩:=hq;exact hret hk hA'
  |ret=>obtain ⟨S',hk,hA'⟩:=hq;exact hret hk hA'
  |exit j=>obtain ⟨S',hk,hA'⟩:=hq;cases hk
  |panic chain=>
    obtain ⟨v,S',hk,hA'⟩:=hq
    obtain ⟨u,L,b,σ',PV',rfl,hp,⟨ν',vs',ids',hA'⟩,hi',hf'⟩:=hA'
    refine ⟨hf'.defers,?_⟩
    have hav:AbsL κ (Xc [] S'.heap) ν' vs' ids' [] (fun _=>undef) σ' PV':=zbb (us:=[]) hA' trivial trivial
    refine xn hk fun g y hy e' he=>?_
    cases e' <;> first | exact he.elim | skip
    obtain ⟨s,z,hz,rfl⟩:=he
    obtain ⟨σ2,PV2,hl,hi2,h2⟩:=WE hy ⟨ν',vs',ids',hav⟩ hi'
    exact ⟨u,σ2,PV2,rfl,hi2,hp.again hl hz,h2⟩
  |goto l=>exact hq.elim
  |outgrown=>exact hq.elim
end
end Go.Px
namespace Go.Px
set_option linter.unusedSectionVars false
variable [Dfr]
set_option linter.unusedVariables false
mutual
def AV.ren {D:Nat→Type}(ρ:Nat→Nat):AV D→AV D
 | .row j =>.row (ρ j)
 | .pc j o =>.pc (ρ j) o
 | .pr j T i o =>.pr (ρ j) T i o
 | .nx j T i x =>.nx (ρ j) T i x
 | .agg cs =>.agg (AV.rens ρ cs)
 | .tup cs =>.tup (AV.rens ρ cs)
 | .clo f cs =>.clo f (AV.rens ρ cs)
 | .ifc t A =>.ifc t (AV.ren ρ A)
 |A=>A
def AV.rens {D:Nat→Type}(ρ:Nat→Nat):List (AV D)→List (AV D)
 |[]=>[]
 |A::As=>AV.ren ρ A::AV.rens ρ As
end
mutual
def AV.kill {D:Nat→Type}(p:Nat→Bool):AV D→AV D
 | .row j=>bif p j then .und else .row j
 | .pc j o=>bif p j then .und else .pc j o
 | .pr j T i o=>bif p j then .und else .pr j T i o
 | .nx j T i x=>bif p j then .und else .nx j T i x
 | .agg cs =>.agg (AV.kills p cs)
 | .tup cs =>.tup (AV.kills p cs)
 | .clo f cs =>.clo f (AV.kills p cs)
 | .ifc t A =>.ifc t (AV.kill p A)
 |A=>A
def AV.kills {D:Nat→Type}(p:Nat→Bool):List (AV D)→List (AV D)
 |[]=>[]
 |A::As=>AV.kill p A::AV.kills p As
end
section
variable {κ:Kp}{C:Cod}{S:St C}{n:Nat}{w0:Start}{σ0 σ:FS}{P:Program}{L:List (Nat×Value)}{b:Nat→Value}{PV:List Priv}{ν ν':Val}{vs:Nat→List Value}{ids:List Nat}
omit [Dfr] in
mutual
theorem VR.ren {ρ:Nat→Nat}{p:Nat→Prop}(h:∀ k,p k→ν'.hdr (ρ k)=ν.hdr k∧ν'.adr (ρ k)=ν.adr k):∀ {A:AV C.D}{v:Value},A.ok p→VR C σ ν v A→VR C σ ν' v (AV.ren ρ A)
 | .row _,v,k,r=>by show v=ν'.hdr _;rw [(h _ k).1];exact r
 | .pc _ _,v,k,r=>by show v = .pointer (some ((ν'.adr _).add _));rw [(h _ k).2];exact r
 | .pr _ _ _ _,v,k,r=>by show v = .pointer (some (zl (ν'.hdr _) _));rw [(h _ k).1];exact r
 | .nx _ _ _ _,v,k,r=>by refine ⟨?_,r.2⟩;rw [(h _ k).2];exact r.1
 | .agg cs,_,k,⟨vs,e,r⟩=>⟨vs,e,VRs.ren h k r⟩
 | .tup cs,_,k,⟨vs,e,r⟩=>⟨vs,e,VRs.ren h k r⟩
 | .clo _ cs,_,k,⟨vs,e,r⟩=>⟨vs,e,VRs.ren h k r⟩
 | .ifc _ A,_,k,⟨u,e,r⟩=>⟨u,e,VR.ren h k r⟩
 | .int _ _,_,_,r=>r
 | .bool _,_,_,r=>r
 | .str _,_,_,r=>r
 | .sl _ _ _,_,_,r=>r
 | .pz _ _ _,_,_,r=>r
 | .pnil,_,_,r=>r
 | .nils,_,_,r=>r
 | .nilf,_,_,r=>r
 | .nili,_,_,r=>r
 | .und,_,_,_=>trivial
theorem VRs.ren {ρ:Nat→Nat}{p:Nat→Prop}(h:∀ k,p k→ν'.hdr (ρ k)=ν.hdr k∧ν'.adr (ρ k)=ν.adr k):∀ {cs:List (AV C.D)}{vs:List Value},AV.oks p cs→VRs C σ ν vs cs→VRs C σ ν' vs (AV.rens ρ cs)
 |[],[],_,_=>trivial
 |A::As,v::vs,⟨k,l⟩,⟨r,s⟩=>⟨VR.ren h k r,VRs.ren h l s⟩
 |[],_::_,_,r=>r.elim
 |_::_,[],_,r=>r.elim
end
omit [Dfr] in
mutual
theorem AV.ok_ren {D:Nat→Type}{p q:Nat→Prop}{ρ:Nat→Nat}(h:∀ k,p k→q (ρ k)):∀ {A:AV D},A.ok p→(AV.ren ρ A).ok q
 | .row _,k=>h _ k
 | .pc _ _,k=>h _ k
 | .pr _ _ _ _,k=>h _ k
 | .nx _ _ _ _,k=>h _ k
 | .agg cs,k=>AV.oks_ren h (A:=cs) k
 | .tup cs,k=>AV.oks_ren h (A:=cs) k
 | .clo _ cs,k=>AV.oks_ren h (A:=cs) k
 | .ifc _ A,k=>AV.ok_ren h (A:=A) k
 | .int _ _,_=>trivial
 | .bool _,_=>trivial
 | .str _,_=>trivial
 | .sl _ _ _,_=>trivial
 | .pz _ _ _,_=>trivial
 | .pnil,_=>trivial
 | .nils,_=>trivial
 | .nilf,_=>trivial
 | .nili,_=>trivial
 | .und,_=>trivial
theorem AV.oks_ren {D:Nat→Type}{p q:Nat→Prop}{ρ:Nat→Nat}(h:∀ k,p k→q (ρ k)):∀ {A:List (AV D)},AV.oks p A→AV.oks q (AV.rens ρ A)
 |[],_=>trivial
 |A::As,⟨k,l⟩=>⟨AV.ok_ren h k,AV.oks_ren h l⟩
end
omit [Dfr] in
mutual
theorem VR.kill {p:Nat→Bool}:∀ {A:AV C.D}{v:Value},VR C σ ν v A→VR C σ ν v (AV.kill p A)
 | .row j,v,r=>by unfold AV.kill;cases p j <;> first | exact r | trivial
 | .pc j _,v,r=>by unfold AV.kill;cases p j <;> first | exact r | trivial
 | .pr j _ _ _,v,r=>by unfold AV.kill;cases p j <;> first | exact r | trivial
 | .nx j _ _ _,v,r=>by unfold AV.kill;cases p j <;> first | exact r | trivial
 | .agg cs,_,⟨vs,e,r⟩=>⟨vs,e,VRs.kill r⟩
 | .tup cs,_,⟨vs,e,r⟩=>⟨vs,e,VRs.kill r⟩
 | .clo _ cs,_,⟨vs,e,r⟩=>⟨vs,e,VRs.kill r⟩
 | .ifc _ A,_,⟨u,e,r⟩=>⟨u,e,VR.kill r⟩
 | .int _ _,_,r=>r
 | .bool _,_,r=>r
 | .str _,_,r=>r
 | .sl _ _ _,_,r=>r
 | .pz _ _ _,_,r=>r
 | .pnil,_,r=>r
 | .nils,_,r=>r
 | .nilf,_,r=>r
 | .nili,_,r=>r
 | .und,_,_=>trivial
theorem VRs.kill {p:Nat→Bool}:∀ {cs:List (AV C.D)}{vs:List Value},VRs C σ ν vs cs→VRs C σ ν vs (AV.kills p cs)
 |[],[],_=>trivial
 |A::As,v::vs,⟨r,s⟩=>⟨VR.kill r,VRs.kill s⟩
 |[],_::_,r=>r.elim
 |_::_,[],r=>r.elim
end
omit [Dfr] in
mutual
theorem AV.ok_kill {D:Nat→Type}{q:Nat→Prop}{p:Nat→Bool}:∀ {A:AV D},A.ok q→(AV.kill p A).ok fun j=>q j∧p j=false
 | .row j,k=>by unfold AV.kill;cases e:p j <;> first | exact ⟨k,e⟩ | trivial
 | .pc j _,k=>by unfold AV.kill;cases e:p j <;> first | exact ⟨k,e⟩ | trivial
 | .pr j _ _ _,k=>by unfold AV.kill;cases e:p j <;> first | exact ⟨k,e⟩ | trivial
 | .nx j _ _ _,k=>by unfold AV.kill;cases e:p j <;> first | exact ⟨k,e⟩ | trivial
 | .agg cs,k=>AV.oks_kill (A:=cs) k
 | .tup cs,k=>AV.oks_kill (A:=cs) k
 | .clo _ cs,k=>AV.oks_kill (A:=cs) k
 | .ifc _ A,k=>AV.ok_kill (A:=A) k
 | .int _ _,_=>trivial
 | .bool _,_=>trivial
 | .str _,_=>trivial
 | .sl _ _ _,_=>trivial
 | .pz _ _ _,_=>trivial
 | .pnil,_=>trivial
 | .nils,_=>trivial
 | .nilf,_=>trivial
 | .nili,_=>trivial
 | .und,_=>trivial
theorem AV.oks_kill {D:Nat→Type}{q:Nat→Prop}{p:Nat→Bool}:∀ {A:List (AV D)},AV.oks q A→AV.oks (fun j=>q j∧p j=false) (AV.kills p A)
 |[],_=>trivial
 |A::As,⟨k,l⟩=>⟨AV.ok_kill k,AV.oks_kill l⟩
end
omit [Dfr] in
theorem zrc {f:Nat→Priv}{l:List Nat}(hnd:l.Nodup) {ids:List Nat}(hs:∀ j∈l,j∈ids) {gg:zd}(k:Sep σ (ids.map f) gg):Sep σ (l.map f) gg:=by
 classical
 have hpos:∀ j,j∈l→∃ m:Nat,ids[m]?=some j:=fun j hj=>List.mem_iff_getElem?.1 (hs j hj)
 let pos:Nat→Nat:=fun j=>if hj:j∈l then (hpos j hj).choose else 0
 have hp:∀ j (hj:j∈l),ids[pos j]?=some j:=fun j hj=>by
  have:=(hpos j hj).choose_spec
  simp only [pos,hj,dif_pos];exact this
 refine k.select (l.map pos) ?_ ?_
 ·rw [List.nodup_iff_pairwise_ne,List.pairwise_map]
  refine List.Pairwise.imp_of_mem ?_ (List.nodup_iff_pairwise_ne.1 hnd)
  intro i j hi hj hne e
  have e1:=hp i hi
  have e2:=hp j hj
  rw [e,e2] at e1
  exact hne (Option.some.inj e1).symm
 ·rw [List.map_map,List.map_map]
  refine List.map_congr_left fun j hj=>?_
  show (ids.map f)[pos j]?=some (f j)
  rw [List.getElem?_map,hp j hj];rfl
omit [Dfr] in
theorem AbsL.lend (h:AbsL κ S ν vs ids L b σ PV) {g:Sig}{m:Nat}{bl:Bl}{x:g.ty C}{T:St C}{L':List (Nat×Value)}{b':Nat→Value}(hT:T.heap=S.heap) (henv:∀ t,VR C σ ν (look L' b' t) (T.env t)) (hg:xC g m T bl=some x) (hl:g.es.length≤64) :
    ∃ ν' vs' ids',AbsL ⟨g.es.length,hl,ν'⟩ (g.open x) ν' vs' ids' L' b' σ (ids'.map fun k=>zK C ν' vs' k ((g.open x).heap k))∧
      (∀ k id,Bl.fn bl k=some id→ν'.hdr k=ν.hdr id∧ν'.adr k=ν.adr id)∧(∀ k,k∈ids'↔(Bl.fn bl k).isSome=true)∧(∀ k id,Bl.fn bl k=some id→(S.heap id).isSome=true)∧
      ∀ gg,Sep σ PV gg→Sep σ ((ids'.map fun k=>zK C ν' vs' k ((g.open x).heap k))++((ids.filter fun j=> !Z7 j bl).map fun j=>zK C ν vs j (S.heap j))) gg:=by
  obtain ⟨hb,hg⟩:=zb hg
  have hb:=((Bool.and_eq_true _ _).mp hb).1
  have hB:=BdOK.of hb
  let B:=Bl.fn bl
  let ν':Val:={hdr:=fun k=>match B k with | some id=>ν.hdr id | none =>.slice none 0 0,adr:=fun k=>match B k with | some id=>ν.adr id | none=>default}
  let vs':Nat→List Value:=fun k=>match B k with | some id=>vs id | none=>[]
  have hν:Rn B (fun k=>k) ν ν':=⟨fun k id e=>by simp [ν',e],h.one⟩
  have hsplit:=zbx g.ts (g.es.map ESh.sh) (avs:=g.ts.map fun t=>T.env t.1) (by simp) hg
  have hsl:(List.range g.es.length).map (vH T bl)=(List.range' 0 g.es.length).map fun k=>match B k with | some id=>zgv (T.heap id) | none =>.und:=by
    rw [← List.range_eq_range'];rfl
  rw [hsl] at hsplit
  have hcell:∀ id cs,T.heap id=some (.cell cs)→VRs C σ ν (vs id) cs:=fun id cs e=>h.cell id cs (by rw [← hT];exact e)
  have hheap:=fun k id (e:B k=some id)=>zat (N:=g.es.length) hν (fun i j _ _ e=>e) hcell g.es 0 (by omega) hsplit (fun k e he=>by rw [Nat.zero_add];exact hB.gone k e he) k id e (Nat.zero_le _) (by have:=hB.lt k id e;omega)
  have hnone:∀ k,B k=none→(g.open x).heap k=none:=fun k e=>by
    refine vN g.es 0 fun j e' he hj=>?_
    have hj:k=j:=by simpa using hj
    subst hj
    exact (hB.gone k e' he).2 e
  have hsome:∀ k,((g.open x).heap k).isSome=true↔(B k).isSome=true:=fun k=>by
    cases e:B k with
    |none=>rw [hnone k e];simp
    |some id=>
      rcases hheap k id e with ⟨cs,cs',_,h2,_⟩ | ⟨T,s,_,h2⟩ | ⟨q,T,b2,s,_,h2⟩ | ⟨T,s,g1,g2,_,h2,_⟩
      all_goals rw [show (g.open x).heap k=_ from h2];simp
  have henv':=zby (L:=L') (b:=b') (σ:=σ) hν (g.es.map ESh.sh) henv g.ts hg
  let ids':=(List.range g.es.length).filter fun k=>(B k).isSome
  have hmem:∀ k,k∈ids'↔(B k).isSome=true:=fun k=>by
    simp only [ids',List.mem_filter,List.mem_range]
    refine ⟨fun h=>h.2,fun h=>⟨?_,h⟩⟩
    obtain ⟨id,e⟩:=Option.isSome_iff_exists.1 h
    exact hB.lt k id e
  have hnd:ids'.Nodup:=List.Nodup.sublist List.filter_sublist List.nodup_range
  have hin:∀ k id,B k=some id→(S.heap id).isSome=true∧zK C ν' vs' k ((g.open x).heap k)=zK C ν vs id (S.heap id):=fun k id e=>by
    rcases hheap k id e with ⟨cs,cs',h1,h2,_⟩ | ⟨T',s,h1,h2⟩ | ⟨q,T',b2,s,h1,h2⟩ | ⟨T',s,g1,g2,h1,h2,h3⟩
    · rw [hT] at h1
      refine ⟨by rw [h1];rfl,?_⟩
      rw [show (g.open x).heap k=_ from h2,h1]
      simp [zK,ν',vs',e]
    · rw [hT] at h1
      refine ⟨by rw [h1];rfl,?_⟩
      rw [show (g.open x).heap k=_ from h2,h1]
      simp [zK,ν',e]
    · rw [hT] at h1
      refine ⟨by rw [h1];rfl,?_⟩
      rw [show (g.open x).heap k=_ from h2,h1]
      simp [zK,ν',e]
    · rw [hT] at h1
      refine ⟨by rw [h1];rfl,?_⟩
      rw [show (g.open x).heap k=_ from h2,h1]
      simp only [zK,ν',e]
      rw [zb7 fun j hj=>⟨(h3 j hj).symm,rfl⟩]
  refine ⟨ν',vs',ids',⟨⟨hnd,fun k=>by rw [hmem];exact (hsome k).symm,rfl,fun k cs hk=>?_,fun t=>(henv' t).1,fun i=>?_⟩,fun t=>?_,fun k cs hk=>?_,fun k hk hs=>⟨rfl,rfl,fun _=>rfl⟩⟩,fun k id e=>?_,hmem,fun k id e=>(hin k id e).1,fun gg ks=>?_⟩
  · obtain ⟨id,e⟩:=Option.isSome_iff_exists.1 ((hsome k).1 (by rw [hk];rfl))
    rcases hheap k id e with ⟨c,c',h1,h2,h3,_⟩ | ⟨T,s,h1,h2⟩ | ⟨q,T,b2,s,h1,h2⟩ | ⟨T,s,g1,g2,h1,h2,_⟩
    · rw [show (g.open x).heap k=_ from h2] at hk;cases hk
      simpa [vs',e] using h3
    · rw [show (g.open x).heap k=_ from h2] at hk;cases hk
    · rw [show (g.open x).heap k=_ from h2] at hk;cases hk
    · rw [show (g.open x).heap k=_ from h2] at hk;cases hk
  · simp only [ν']
    cases B i with
    |none=>rfl
    |some id=>exact h.one id
  · refine AV.ok_mono (fun j hj=>?_) (henv' t).2
    obtain ⟨k2,id2,e2,e3⟩:=hj
    rw [e3]
    exact (hsome k2).2 (by rw [show B k2=some id2 from e2];rfl)
  · obtain ⟨id,e⟩:=Option.isSome_iff_exists.1 ((hsome k).1 (by rw [hk];rfl))
    rcases hheap k id e with ⟨c,c',h1,h2,_,h4⟩ | ⟨T,s,h1,h2⟩ | ⟨q,T,b2,s,h1,h2⟩ | ⟨T,s,g1,g2,h1,h2,_⟩
    · rw [show (g.open x).heap k=_ from h2] at hk;cases hk
      refine AV.oks_mono (fun j hj=>?_) h4
      obtain ⟨k2,id2,e2,e3⟩:=hj
      rw [e3]
      exact (hsome k2).2 (by rw [show B k2=some id2 from e2];rfl)
    · rw [show (g.open x).heap k=_ from h2] at hk;cases hk
    · rw [show (g.open x).heap k=_ from h2] at hk;cases hk
    · rw [show (g.open x).heap k=_ from h2] at hk;cases hk
  · have e:B k=some id:=e
    simp [ν',e]
  · rw [h.pv] at ks
    let imgs:List Nat:=ids'.map fun k=>(B k).getD 0
    have himg:∀ k,k∈ids'→B k=some ((B k).getD 0):=fun k hk=>by
      obtain ⟨id,e⟩:=Option.isSome_iff_exists.1 ((hmem k).1 hk)
      rw [e];rfl
    have e1:(ids'.map fun k=>zK C ν' vs' k ((g.open x).heap k))=imgs.map fun j=>zK C ν vs j (S.heap j):=by
      rw [List.map_map]
      exact List.map_congr_left fun k hk=>(hin k _ (himg k hk)).2
    rw [e1,← List.map_append]
    refine zrc ?_ ?_ ks
    · refine List.nodup_append.2 ⟨?_,List.Nodup.sublist List.filter_sublist h.nd,?_⟩
      · show (ids'.map fun k=>(B k).getD 0).Nodup
        rw [List.nodup_iff_pairwise_ne,List.pairwise_map]
        refine List.Pairwise.imp_of_mem ?_ (List.nodup_iff_pairwise_ne.1 hnd)
        intro i j hi hj hne e
        have h1:=himg i hi
        have h2:=himg j hj
        rw [e] at h1
        exact hne (hB.inj i j _ h1 h2)
      · intro i hi j hj e
        subst e
        obtain ⟨k,hk,rfl⟩:=List.mem_map.1 hi
        have:=(List.mem_filter.1 hj).2
        rw [X1 (himg k hk)] at this
        cases this
    · intro j hj
      rcases List.mem_append.1 hj with hj | hj
      · obtain ⟨k,hk,rfl⟩:=List.mem_map.1 hj
        exact (h.dom _).2 (hin k _ (himg k hk)).1
      · exact (List.mem_filter.1 hj).1
end
end Go.Px
namespace Go.Px
set_option linter.unusedSectionVars false
variable [Dfr]
set_option linter.unusedVariables false
def zx (id:Nat):List Nat→Bool
 |[]=>false
 |a::r=>Nat.beq id a || zx id r
omit [Dfr] in
theorem zN {id:Nat}:∀ {l:List Nat},zx id l=true↔id∈l
 |[]=>by simp [zx]
 |a::r=>by
  simp only [zx,Bool.or_eq_true,zN (l:=r),List.mem_cons]
  constructor
  ·rintro (h | h)
   ·exact .inl (Nat.eq_of_beq_eq_true h)
   ·exact .inr h
  ·rintro (rfl | h)
   ·left;simp
   ·exact .inr h
omit [Dfr] in
theorem zdW {id:Nat}:∀ {bl:Bl},Z7 id bl=true→∃ k,Bl.fn bl k=some id
 |[],h=>by cases h
 |none::r,h=>by
  obtain ⟨k,e⟩:=zdW (bl:=r) h
  exact ⟨k+1,by simpa [Bl.fn] using e⟩
 |some a::r,h=>by
  simp only [Z7,Bool.or_eq_true] at h
  rcases h with h | h
  ·exact ⟨0,by simp [Bl.fn,Nat.eq_of_beq_eq_true h]⟩
  ·obtain ⟨k,e⟩:=zdW (bl:=r) h
   exact ⟨k+1,by simpa [Bl.fn] using e⟩
def Y9:List ESh→Bl→List Nat
 |e::es,b::bl=>(match b with
  |some id=>bif e.isGone then [id] else []
  |none=>[])++Y9 es bl
 |_,_=>[]
omit [Dfr] in
theorem VW {id:Nat}:∀ {es:List ESh}{bl:Bl},id∈Y9 es bl↔∃ (k:Nat) (e:ESh),es[k]?=some e∧e.isGone=true∧Bl.fn bl k=some id
 |[],bl=>by simp [Y9]
 |e::es,[]=>by simp [Y9,Bl.fn]
 |e::es,b::bl=>by
  rw [show Y9 (e::es) (b::bl)=(match b with | some id=>bif e.isGone then [id] else [] | none=>[])++Y9 es bl from rfl,List.mem_append,VW (es:=es) (bl:=bl)]
  constructor
  ·rintro (h | ⟨k,e',h1,h2,h3⟩)
   ·cases b with
    |none=>cases h
    |some a=>
     cases hg:e.isGone with
     |false=>rw [hg] at h;cases h
     |true=>rw [hg] at h;simp at h;exact ⟨0,e,rfl,hg,by simp [Bl.fn,h]⟩
   ·exact ⟨k+1,e',by simpa using h1,h2,by simpa [Bl.fn] using h3⟩
  ·rintro ⟨k,e',h1,h2,h3⟩
   cases k with
   |zero=>
    left
    simp at h1;subst h1
    have:b=some id:=by simpa [Bl.fn] using h3
    subst this
    rw [h2];simp
   |succ k=>exact .inr ⟨k,e',by simpa using h1,h2,by simpa [Bl.fn] using h3⟩
section
variable {κ κs:Kp}{C:Cod}{S Sr:St C}{n:Nat}{w0:Start}{σ0 σ σ':FS}{P:Program}{L Lr:List (Nat×Value)}{b br:Nat→Value}{PV A':List Priv}{ν νr:Val}{vs vsr:Nat→List Value}{ids idsr:List Nat}
def Ent.ren (ρ:Nat→Nat):Ent C→Ent C
 | .cell cs =>.cell (AV.rens ρ cs)
 | .row T s =>.row T s
 | .obj k T b s =>.obj k T b s
 | .orow T s g =>.orow T s g
def Own.ufx (b:Bool):Own→Own
 | .fix=>bif b then .fix else .all
 |g=>g
omit [Dfr] in
theorem Own.ufx_fl {b:Bool}{g:Own}(j:Nat):(g.ufx b).fl j=g.fl j:=by
 cases g <;> cases b <;> rfl
def Ent.mv (ρ:Nat→Nat) (b:Bool):Ent C→Ent C
 | .cell cs =>.cell (AV.rens ρ cs)
 | .row T s =>.row T s
 | .obj k T b s =>.obj k T b s
 | .orow T s g =>.orow T s (g.ufx b)
omit [Dfr] in
theorem zrd {ρ:Nat→Nat}{b:Bool}{o:Option (Ent C)}(h:ZY (o.map (Ent.mv ρ b))=true):ZY o=true∧b=true:=by
 cases o with
 |none=>cases h
 |some e=>
  cases e with
  |orow T s g=>cases g <;> cases b <;> first | exact ⟨rfl,rfl⟩ | cases h
  |cell=>cases h
  |row=>cases h
  |obj=>cases h
def kpL (Sr:St C):Bl→Nat→List Nat
 |[],_=>[]
 |b::bl,k=>(match b with
  |some id=>bif ZY (Sr.heap k) then [id] else []
  |none=>[])++kpL Sr bl (k+1)
omit [Dfr] in
theorem zi3 {id:Nat}:∀ {bl:Bl}{k0:Nat},id∈kpL Sr bl k0→∃ k,Bl.fn bl k=some id∧ZY (Sr.heap (k0+k))=true
 |[],_,h=>by cases h
 |b::bl,k0,h=>by
  rcases List.mem_append.1 h with h | h
  ·cases b with
   |none=>cases h
   |some a=>
    cases hf:ZY (Sr.heap k0) with
    |false=>rw [hf] at h;cases h
    |true=>
     rw [hf] at h
     have:id=a:=by simpa using h
     subst this
     exact ⟨0,rfl,hf⟩
  ·obtain ⟨k,h1,h2⟩:=zi3 (bl:=bl) h
   exact ⟨k+1,by simpa [Bl.fn] using h1,by rwa [show k0+(k+1)=k0+1+k by omega]⟩
def Ent.kill (p:Nat→Bool):Ent C→Ent C
 | .cell cs =>.cell (AV.kills p cs)
 | .row T s =>.row T s
 | .obj k T b s =>.obj k T b s
 | .orow T s g =>.orow T s g
def Xd (d:Nat) (bl:Bl) (k:Nat):Nat:=match Bl.fn bl k with
 |some id=>id
 |none=>nid d k
def Wt (ρ:Nat→Nat) (fx:Nat→Bool) (Hr:Nat→Option (Ent C)):List ESh→Nat→(Nat→Option (Ent C))→Nat→Option (Ent C)
 |[],_,base=>base
 |e::es,k,base=>fun i=>bif !e.isGone && Nat.beq i (ρ k) then (Hr k).map (Ent.mv ρ (fx (ρ k))) else Wt ρ fx Hr es (k+1) base i
omit [Dfr] in
theorem vL {ρ:Nat→Nat}{fx:Nat→Bool}{Hr base:Nat→Option (Ent C)}{i:Nat}:∀ {es:List ESh}{k0:Nat},(∀ k e,es[k]?=some e→e.isGone=false→i≠ρ (k0+k))→Wt ρ fx Hr es k0 base i=base i
 |[],_,_=>rfl
 |e::es,k0,h=>by
  unfold Wt
  have ih:=vL (ρ:=ρ) (fx:=fx) (Hr:=Hr) (base:=base) (i:=i) (es:=es) (k0:=k0+1) fun k e' he hg=>by
   have:=h (k+1) e' (by simpa using he) hg
   rwa [show k0+1+k=k0+(k+1) by omega]
  cases hg:e.isGone with
  |true=>simpa using ih
  |false=>
   cases hb:Nat.beq i (ρ k0) with
   |true=>exact absurd (Nat.eq_of_beq_eq_true hb) (h 0 e rfl hg)
   |false=>simpa using ih
omit [Dfr] in
theorem zcm {ρ:Nat→Nat}{fx:Nat→Bool}{Hr base:Nat→Option (Ent C)}:∀ {es:List ESh}{k0:Nat},(∀ i j ei ej,es[i]?=some ei→es[j]?=some ej→ei.isGone=false→ej.isGone=false→ρ (k0+i)=ρ (k0+j)→i=j)→∀ {k:Nat}{e:ESh},es[k]?=some e→e.isGone=false→Wt ρ fx Hr es k0 base (ρ (k0+k))=(Hr (k0+k)).map (Ent.mv ρ (fx (ρ (k0+k))))
 |[],_,_,k,e,h,_=>by simp at h
 |e0::es,k0,hinj,k,e,h,hg=>by
  unfold Wt
  cases k with
  |zero=>
   simp at h;subst h
   simp [hg]
  |succ k=>
   have h':es[k]?=some e:=by simpa using h
   have hne:(!e0.isGone && Nat.beq (ρ (k0+(k+1))) (ρ k0))=false:=by
    cases hg0:e0.isGone with
    |true=>rfl
    |false=>
     cases hb:Nat.beq (ρ (k0+(k+1))) (ρ k0) with
     |false=>rfl
     |true=>
      have:=hinj (k+1) 0 e e0 h rfl hg hg0 (Nat.eq_of_beq_eq_true hb)
      omega
   rw [hne,cond_false]
   have:=zcm (ρ:=ρ) (fx:=fx) (Hr:=Hr) (base:=base) (es:=es) (k0:=k0+1) (fun i j ei ej hi hj gi gj e=>by
    have:=hinj (i+1) (j+1) ei ej (by simpa using hi) (by simpa using hj) gi gj (by rw [show k0+(i+1)=k0+1+i by omega,show k0+(j+1)=k0+1+j by omega];exact e)
    omega) h' hg
   rwa [show k0+1+k=k0+(k+1) by omega] at this
def Zz (S Sr:St C) (d:Nat) (bl:Bl) (es:List ESh):St C:=
 let gone:=fun i=>zx i (Y9 es bl)
 let lent:=fun i=>Z7 i bl && !zx i (kpL Sr bl 0)
 {env:=fun t=>AV.kill gone (AV.knx lent (S.env t)),heap:=Wt (Xd d bl) (fun i=>ZY (S.heap i)) Sr.heap es 0 fun i=>bif gone i then none else (S.heap i).map fun e=>Ent.kill gone (Ent.knx lent e)}
omit [Dfr] in
theorem zre {d i j:Nat}(h:nid d i=nid d j):i=j:=by unfold nid at h;omega
omit [Dfr] in
theorem AbsL.merge (h:AbsL κ S ν vs ids L b σ PV) (hr:AbsL κs Sr νr vsr idsr Lr br σ' A') (hle:σ.le σ') {bl:Bl}{d:Nat}{es:List ESh}
    (hinj:∀ i j id,Bl.fn bl i=some id→Bl.fn bl j=some id→i=j) (hlt:∀ k id,Bl.fn bl k=some id→k < κs.m) (hin:∀ k id,Bl.fn bl k=some id→(S.heap id).isSome=true)
    (hkeep:∀ k id,Bl.fn bl k=some id→κs.ν0.hdr k=ν.hdr id∧κs.ν0.adr k=ν.adr id)
    (hal:∀ k,(Sr.heap k).isSome=true↔∃ e,es[k]?=some e∧e.isGone=false) (hfr:∀ k,(Sr.heap k).isSome=true→Bl.fn bl k=none→S.heap (nid d k)=none) (hlen:κs.m≤es.length) :
    ∃ ν2 vs2 ids2,AbsL κ (Zz S Sr d bl es) ν2 vs2 ids2 L b σ' (A'++((ids.filter fun j=> !Z7 j bl).map fun j=>zK C ν vs j (S.heap j)))∧
      (∀ k,(Sr.heap k).isSome=true→ν2.hdr (Xd d bl k)=νr.hdr k∧ν2.adr (Xd d bl k)=νr.adr k)∧∀ k,(Sr.heap k).isSome=true→((Zz S Sr d bl es).heap (Xd d bl k)).isSome=true:=by
  classical
  let ρ:=Xd d bl
  let gone:Nat→Bool:=fun i=>zx i (Y9 es bl)
  let lent:Nat→Bool:=fun i=>Z7 i bl && !zx i (kpL Sr bl 0)
  let kk:Ent C→Ent C:=fun e=>Ent.kill gone (Ent.knx lent e)
  have hrs:∀ k id,Bl.fn bl k=some id→ρ k=id:=fun k id e=>by simp [ρ,Xd,e]
  have hrn:∀ k,Bl.fn bl k=none→ρ k=nid d k:=fun k e=>by simp [ρ,Xd,e]
  have hρ:∀ i j,(Sr.heap i).isSome=true→(Sr.heap j).isSome=true→ρ i=ρ j→i=j:=fun i j hi hj e=>by
    cases ei:Bl.fn bl i with
    |some a=>
      rw [hrs i a ei] at e
      cases ej:Bl.fn bl j with
      |some c=>rw [hrs j c ej] at e;subst e;exact hinj i j _ ei ej
      |none=>
        rw [hrn j ej] at e
        have h1:=hin i a ei
        rw [e,hfr j hj ej] at h1;cases h1
    |none=>
      rw [hrn i ei] at e
      cases ej:Bl.fn bl j with
      |some c=>
        rw [hrs j c ej] at e
        have h1:=hin j c ej
        rw [← e,hfr i hi ei] at h1;cases h1
      |none=>rw [hrn j ej] at e;exact zre e
  let nm:Nat→Option Nat:=fun i=>if hx:∃ k,(Sr.heap k).isSome=true∧ρ k=i then some hx.choose else none
  have hnm:∀ k,(Sr.heap k).isSome=true→nm (ρ k)=some k:=fun k hk=>by
    have hx:∃ j,(Sr.heap j).isSome=true∧ρ j=ρ k:=⟨k,hk,rfl⟩
    have:=hx.choose_spec
    simp only [nm,dif_pos hx]
    rw [hρ _ _ this.1 hk this.2]
  have hnm0:∀ i,(∀ k,(Sr.heap k).isSome=true→ρ k≠i)→nm i=none:=fun i hi=>by
    simp only [nm];rw [dif_neg];rintro ⟨k,h1,h2⟩;exact hi k h1 h2
  let ν2:Val:={hdr:=fun i=>match nm i with | some k=>νr.hdr k | none=>ν.hdr i,adr:=fun i=>match nm i with | some k=>νr.adr k | none=>ν.adr i}
  let vs2:Nat→List Value:=fun i=>match nm i with | some k=>vsr k | none=>vs i
  have f1:∀ k,(Sr.heap k).isSome=true→ν2.hdr (ρ k)=νr.hdr k∧ν2.adr (ρ k)=νr.adr k:=fun k hk=>by simp [ν2,hnm k hk]
  have old:∀ k i,(Sr.heap k).isSome=true→(S.heap i).isSome=true→ρ k=i→Bl.fn bl k=some i:=fun k i hk hi e=>by
    cases ek:Bl.fn bl k with
    |some a=>rw [hrs k a ek] at e;rw [e]
    |none=>rw [hrn k ek] at e;rw [← e,hfr k hk ek] at hi;cases hi
  have f2:∀ i,(S.heap i).isSome=true→ν.hdr i=ν2.hdr i∧(ν.adr i).a=(ν2.adr i).a:=fun i hi=>by
    by_cases hx:∃ k,(Sr.heap k).isSome=true∧ρ k=i
    · obtain ⟨k,h1,h2⟩:=hx
      have e:=old k i h1 hi h2
      have k1:=hr.keep k (hlt k i e) h1
      have k2:=hkeep k i e
      have k3:=f1 k h1
      rw [h2] at k3
      exact ⟨by rw [k3.1,k1.1,k2.1],by rw [k3.2,k1.2.1,k2.2]⟩
    · have:=hnm0 i fun k h1 h2=>hx ⟨k,h1,h2⟩
      simp [ν2,this]
  have fk:∀ k i,(Sr.heap k).isSome=true→Bl.fn bl k=some i→ZY (Sr.heap k)=true→(ν.adr i).sub=(ν2.adr i).sub:=fun k i h1 e hf=>by
    have k1:=hr.keep k (hlt k i e) h1
    have k3:=f1 k h1
    rw [hrs k i e] at k3
    rw [k3.2,k1.2.2 hf,(hkeep k i e).2]
  have f3:∀ i,(S.heap i).isSome=true→lent i=false→(ν.adr i).sub=(ν2.adr i).sub:=fun i hi hm=>by
    by_cases hx:∃ k,(Sr.heap k).isSome=true∧ρ k=i
    · obtain ⟨k,h1,h2⟩:=hx
      have e:=old k i h1 hi h2
      have hm:(Z7 i bl && !zx i (kpL Sr bl 0))=false:=hm
      rw [X1 e,Bool.true_and,Bool.not_eq_false'] at hm
      obtain ⟨j,e1,e2⟩:=zi3 (zN.1 hm)
      rw [Nat.zero_add] at e2
      have:=hinj j k i e1 e
      subst this
      exact fk j i h1 e e2
    · have:=hnm0 i fun k h1 h2=>hx ⟨k,h1,h2⟩
      simp [ν2,this]
  have H1:∀ k,(Sr.heap k).isSome=true→(Zz S Sr d bl es).heap (ρ k)=(Sr.heap k).map (Ent.mv ρ (ZY (S.heap (ρ k)))):=fun k hk=>by
    obtain ⟨e,he,hg⟩:=(hal k).1 hk
    have:=zcm (ρ:=ρ) (fx:=fun i=>ZY (S.heap i)) (Hr:=Sr.heap) (base:=fun i=>bif gone i then none else (S.heap i).map kk) (es:=es) (k0:=0) (fun i j ei ej hi hj gi gj e=>by
      rw [Nat.zero_add,Nat.zero_add] at e
      exact hρ i j ((hal i).2 ⟨ei,hi,gi⟩) ((hal j).2 ⟨ej,hj,gj⟩) e) he hg
    rw [Nat.zero_add] at this
    exact this
  have H2:∀ i,(∀ k,(Sr.heap k).isSome=true→ρ k≠i)→(Zz S Sr d bl es).heap i=bif gone i then none else (S.heap i).map kk:=fun i hi=>
    vL fun k e he hg=>by rw [Nat.zero_add];exact fun e'=>hi k ((hal k).2 ⟨e,he,hg⟩) e'.symm
  have gmem:∀ i,gone i=true→Z7 i bl=true:=fun i hi=>by
    obtain ⟨k,e,_,_,h3⟩:=VW.1 (zN.1 hi)
    exact X1 h3
  have galive:∀ i,gone i=true→∀ k,(Sr.heap k).isSome=true→ρ k≠i:=fun i hi k hk e=>by
    obtain ⟨j,ee,h1,h2,h3⟩:=VW.1 (zN.1 hi)
    have hi':=hin j i h3
    have e2:=old k i hk hi' e
    have:=hinj j k i h3 e2
    subst this
    obtain ⟨e3,h4,h5⟩:=(hal j).1 hk
    rw [h1] at h4;cases h4
    rw [h2] at h5;cases h5
  have rest:∀ i,i∈ids.filter (fun j=> !Z7 j bl)→(S.heap i).isSome=true∧gone i=false∧∀ k,(Sr.heap k).isSome=true→ρ k≠i:=fun i hi=>by
    obtain ⟨h1,h2⟩:=List.mem_filter.1 hi
    have h3:=(h.dom i).1 h1
    have h2:Z7 i bl=false:=by simpa using h2
    refine ⟨h3,?_,fun k hk e=>?_⟩
    · cases hg:gone i with
      |false=>rfl
      |true=>rw [gmem i hg] at h2;cases h2
    · rw [X1 (old k i hk h3 e)] at h2;cases h2
  have live1:∀ k,(Sr.heap k).isSome=true→((Zz S Sr d bl es).heap (ρ k)).isSome=true:=fun k hk=>by rw [H1 k hk];simpa using hk
  have live2:∀ i,(S.heap i).isSome=true∧gone i=false→((Zz S Sr d bl es).heap i).isSome=true:=fun i ⟨h1,h2⟩=>by
    by_cases hx:∃ k,(Sr.heap k).isSome=true∧ρ k=i
    · obtain ⟨k,h3,h4⟩:=hx;rw [← h4];exact live1 k h3
    · rw [H2 i fun k h3 h4=>hx ⟨k,h3,h4⟩,h2];simpa using h1
  have idr:∀ k,k∈idsr↔(Sr.heap k).isSome=true:=hr.dom
  refine ⟨ν2,vs2,idsr.map ρ++ids.filter fun j=> !Z7 j bl,⟨⟨?_,fun i=>?_,?_,fun i cs hi=>?_,fun t=>?_,fun i=>?_⟩,fun t=>?_,fun i cs hi=>?_,fun k hk hs=>?_⟩,f1,live1⟩
  · refine List.nodup_append.2 ⟨?_,List.Nodup.sublist List.filter_sublist h.nd,?_⟩
    · rw [List.nodup_iff_pairwise_ne,List.pairwise_map]
      refine List.Pairwise.imp_of_mem ?_ (List.nodup_iff_pairwise_ne.1 hr.nd)
      intro i j hi hj hne e
      exact hne (hρ i j ((idr i).1 hi) ((idr j).1 hj) e)
    · intro i hi j hj e
      subst e
      obtain ⟨k,hk,rfl⟩:=List.mem_map.1 hi
      exact (rest _ hj).2.2 k ((idr k).1 hk) rfl
  · rw [List.mem_append]
    constructor
    · rintro (hi | hi)
      · obtain ⟨k,hk,rfl⟩:=List.mem_map.1 hi
        exact live1 k ((idr k).1 hk)
      · have:=rest i hi
        exact live2 i ⟨this.1,this.2.1⟩
    · intro hi
      by_cases hx:∃ k,(Sr.heap k).isSome=true∧ρ k=i
      · obtain ⟨k,h3,h4⟩:=hx
        exact .inl (List.mem_map.2 ⟨k,(idr k).2 h3,h4⟩)
      · right
        have h2:=H2 i fun k h3 h4=>hx ⟨k,h3,h4⟩
        rw [h2] at hi
        cases hg:gone i with
        |true=>rw [hg] at hi;cases hi
        |false=>
          rw [hg] at hi
          have hs:(S.heap i).isSome=true:=by simpa using hi
          refine List.mem_filter.2 ⟨(h.dom i).2 hs,?_⟩
          cases hm:Z7 i bl with
          |false=>rfl
          |true=>
            exfalso
            obtain ⟨k,ek⟩:=zdW hm
            have hkl:k < es.length:=Nat.lt_of_lt_of_le (hlt k i ek) hlen
            cases hge:es[k].isGone with
            |true=>
              have:gone i=true:=zN.2 (VW.2 ⟨k,es[k],List.getElem?_eq_getElem hkl,hge,ek⟩)
              rw [hg] at this;cases this
            |false=>exact hx ⟨k,(hal k).2 ⟨_,List.getElem?_eq_getElem hkl,hge⟩,hrs k i ek⟩
  · rw [List.map_append]
    congr 1
    · rw [hr.pv,List.map_map]
      refine List.map_congr_left fun k hk=>?_
      have hk:=(idr k).1 hk
      show _=zK C ν2 vs2 (ρ k) ((Zz S Sr d bl es).heap (ρ k))
      rw [H1 k hk]
      have e1:=f1 k hk
      cases hs:Sr.heap k with
      |none=>rw [hs] at hk;cases hk
      |some en=>
        cases en with
        |orow T s g=>
          show Priv.row (Zc C T) T (νr.hdr k) (hpl C T (νr.adr k).sub s g)=Priv.row (Zc C T) T (ν2.hdr (ρ k)) (hpl C T (ν2.adr (ρ k)).sub s (g.ufx _))
          rw [e1.1,e1.2,zb7 (g:=g) (g':=g.ufx (ZY (S.heap (ρ k)))) fun j _=>⟨(Own.ufx_fl j).symm,rfl⟩]
        |cell=>simp [zK,Ent.mv,e1,vs2,hnm k hk]
        |row=>simp [zK,Ent.mv,e1]
        |obj=>simp [zK,Ent.mv,e1]
    · refine List.map_congr_left fun i hi=>?_
      obtain ⟨r1,r2,r3⟩:=rest i hi
      show _=zK C ν2 vs2 i ((Zz S Sr d bl es).heap i)
      rw [H2 i r3,r2,cond_false]
      have e1:=f2 i r1
      have e2:=hnm0 i r3
      cases hs:S.heap i with
      |none=>rw [hs] at r1;cases r1
      |some en=>
        have e3:=f3 i r1 (by show (Z7 i bl && _)=false;rw [show Z7 i bl=false by simpa using (List.mem_filter.1 hi).2];rfl)
        cases en <;> simp [zK,kk,Ent.kill,Ent.knx,← e1.1,← e1.2,← e3,vs2,e2]
  · by_cases hx:∃ k,(Sr.heap k).isSome=true∧ρ k=i
    · obtain ⟨k,h3,h4⟩:=hx
      subst h4
      rw [H1 k h3] at hi
      cases hs:Sr.heap k with
      |none=>rw [hs] at h3;cases h3
      |some en=>
        rw [hs] at hi
        cases en with
        |row T s=>cases hi
        |obj q T b s=>cases hi
        |orow T s g=>cases hi
        |cell cs0=>
          cases hi
          show VRs C σ' ν2 (vs2 (ρ k)) _
          simp only [vs2,hnm k h3]
          exact VRs.ren (p:=fun id=>(Sr.heap id).isSome=true) (fun j hj=>f1 j hj) (hr.livec k cs0 hs) (hr.cell k cs0 hs)
    · have r3:∀ k,(Sr.heap k).isSome=true→ρ k≠i:=fun k h3 h4=>hx ⟨k,h3,h4⟩
      rw [H2 i r3] at hi
      cases hg:gone i with
      |true=>rw [hg] at hi;cases hi
      |false=>
        rw [hg,cond_false] at hi
        cases hs:S.heap i with
        |none=>rw [hs] at hi;cases hi
        |some en=>
          rw [hs] at hi
          cases en with
          |row T s=>cases hi
          |obj q T b s=>cases hi
          |orow T s g=>cases hi
          |cell cs0=>
            cases hi
            show VRs C σ' ν2 (vs2 i) _
            simp only [vs2,hnm0 i r3]
            exact VRs.kill (VRs.knx (q:=lent) f2 f3 (h.livec i cs0 hs) ((h.cell i cs0 hs).mono hle))
  · exact VR.kill (VR.knx (q:=lent) f2 f3 (h.live t) ((h.env t).mono hle))
  · show (ν2.hdr i).oneCell'=true
    simp only [ν2]
    cases nm i with
    |none=>exact h.one i
    |some k=>exact hr.one k
  · exact AV.ok_mono live2 (AV.ok_kill (AV.ok_knx (h.live t)))
  · by_cases hx:∃ k,(Sr.heap k).isSome=true∧ρ k=i
    · obtain ⟨k,h3,h4⟩:=hx
      subst h4
      rw [H1 k h3] at hi
      cases hs:Sr.heap k with
      |none=>rw [hs] at h3;cases h3
      |some en=>
        rw [hs] at hi
        cases en with
        |row T s=>cases hi
        |obj q T b s=>cases hi
        |orow T s g=>cases hi
        |cell cs0=>cases hi;exact AV.oks_ren live1 (hr.livec k cs0 hs)
    · have r3:∀ k,(Sr.heap k).isSome=true→ρ k≠i:=fun k h3 h4=>hx ⟨k,h3,h4⟩
      rw [H2 i r3] at hi
      cases hg:gone i with
      |true=>rw [hg] at hi;cases hi
      |false=>
        rw [hg,cond_false] at hi
        cases hs:S.heap i with
        |none=>rw [hs] at hi;cases hi
        |some en=>
          rw [hs] at hi
          cases en with
          |row T s=>cases hi
          |obj q T b s=>cases hi
          |orow T s g=>cases hi
          |cell cs0=>cases hi;exact AV.oks_mono live2 (AV.oks_kill (AV.oks_knx (h.livec i cs0 hs)))
  · have hsome:(S.heap k).isSome=true:=by
      by_cases hx:∃ j,(Sr.heap j).isSome=true∧ρ j=k
      · obtain ⟨j,h3,h4⟩:=hx
        cases ej:Bl.fn bl j with
        |some a=>rw [hrs j a ej] at h4;rw [← h4];exact hin j a ej
        |none=>
          rw [hrn j ej] at h4
          have:=yi κ d j
          omega
      · rw [H2 k fun j h3 h4=>hx ⟨j,h3,h4⟩] at hs
        cases hg:gone k with
        |true=>rw [hg] at hs;cases hs
        |false=>rw [hg] at hs;simpa using hs
    have:=h.keep k hk hsome
    have e2:=f2 k hsome
    refine ⟨e2.1.symm.trans this.1,e2.2.symm.trans this.2.1,fun hf=>?_⟩
    by_cases hx:∃ j,(Sr.heap j).isSome=true∧ρ j=k
    · obtain ⟨j,h3,h4⟩:=hx
      subst h4
      rw [H1 j h3] at hf
      obtain ⟨g1,g2⟩:=zrd hf
      exact (fk j _ h3 (old j _ h3 hsome rfl) g1).symm.trans (this.2.2 g2)
    · have r3:∀ j,(Sr.heap j).isSome=true→ρ j≠k:=fun j h3 h4=>hx ⟨j,h3,h4⟩
      have e3:ν2.adr k=ν.adr k:=by simp [ν2,hnm0 k r3]
      rw [e3]
      refine this.2.2 ?_
      rw [H2 k r3] at hf
      cases hg:gone k with
      |true=>rw [hg] at hf;cases hf
      |false=>
        rw [hg,cond_false] at hf
        cases hs2:S.heap k with
        |none=>rw [hs2] at hf;cases hf
        |some en=>rw [hs2] at hf;cases en <;> first | exact hf | cases hf
end
end Go.Px
namespace Go.Px
set_option linter.unusedSectionVars false
variable [Dfr]
set_option linter.unusedVariables false
section
variable {C:Cod}
def yf:(outs:List (XK×Sig))→zk C outs→List ESh
 |[],y=>y.elim
 |[o],_=>o.2.es
 |o::o2::r,y=>match (y:XK.ty C o.1 o.2⊕zk C (o2::r)) with
  | .inl _=>o.2.es
  | .inr y=>yf (o2::r) y
def zcU (es:List ESh) (S:St C):Prop:=∀ k,(S.heap k).isSome=true↔∃ e,es[k]?=some e∧e.isGone=false
omit [Dfr] in
theorem zcn:∀ (es:List ESh) (k0:Nat) (x:Sh.tys C (es.map ESh.sh)) (k:Nat),(ZK (fun k=>k) es k0 x k).isSome=true↔∃ j e,k=k0+j∧es[j]?=some e∧e.isGone=false
 |[],k0,x,k=>by simp [ZK]
 |e::es,k0,x,k=>by
  unfold ZK
  cases hb:Nat.beq k k0 with
  |true=>
   have hk:=Nat.eq_of_beq_eq_true hb
   subst hk
   rw [cond_true]
   constructor
   ·intro h
    refine ⟨0,e,rfl,rfl,?_⟩
    cases e <;> first | rfl | (simp [ESh.ent] at h)
   ·rintro ⟨j,e',h1,h2,h3⟩
    have:j=0:=by omega
    subst this
    simp at h2;subst h2
    cases e <;> first | rfl | cases h3
  |false=>
   rw [cond_false,zcn es (k0+1)]
   constructor
   ·rintro ⟨j,e',h1,h2,h3⟩;exact ⟨j+1,e',by omega,by simpa using h2,h3⟩
   ·rintro ⟨j,e',h1,h2,h3⟩
    cases j with
    |zero=>subst h1;simp at hb
    |succ j=>exact ⟨j,e',by omega,by simpa using h2,h3⟩
omit [Dfr] in
theorem Xx (g:Sig) (x:g.ty C):zcU g.es (g.open x):=fun k=>by
 show (ZK (fun k=>k) g.es 0 (vi g.ts (g.es.map ESh.sh) x) k).isSome=true↔_
 rw [zcn]
 constructor
 ·rintro ⟨j,e,h1,h2,h3⟩;exact ⟨e,by rw [h1,Nat.zero_add];exact h2,h3⟩
 ·rintro ⟨e,h2,h3⟩;exact ⟨k,e,by omega,h2,h3⟩
omit [Dfr] in
theorem wk {α:Type}{Q:XE C→St C→Prop}{K:XE C→St C→α}{z:α}:∀ {outs:List (XK×Sig)}{r:zk C outs},zO outs r K=z→zO outs r Q→∃ e S,K e S=z∧Q e S∧zcU (yf outs r) S
 |[],r,_,_=>r.elim
 |[o],r,h,q=>one h q
 |o::o2::l,r,h,q=>by
  unfold zO at h q
  unfold yf
  cases r with
  |inl a=>exact one h q
  |inr y=>exact wk h q
where
 one {α:Type} {Q:XE C→St C→Prop} {K:XE C→St C→α} {z:α} {o:XK×Sig} {y:XK.ty C o.1 o.2} (h:YD o.1 o.2 y K=z) (q:YD o.1 o.2 y Q):∃ e S,K e S=z∧Q e S∧zcU o.2.es S:=by
  obtain ⟨k,g⟩:=o
  cases k with
  |normal=>exact ⟨_,_,h,q,Xx g _⟩
  |exit i=>exact ⟨_,_,h,q,Xx g _⟩
  |ret=>exact ⟨_,_,h,q,Xx g _⟩
  |pan s=>exact ⟨_,_,h,q,Xx g _⟩
end
def vB:Nat:=1000000000
section
variable {κ:Kp}{C:Cod}{S:St C}{n:Nat}{w0:Start}{σ0 σ:FS}{P:Program}{L:List (Nat×Value)}{b:Nat→Value}{PV:List Priv}{ν:Val}{vs:Nat→List Value}{ids:List Nat}
def virt (S:St C) (As:List (AV C.D)):St C:={env:=fun t=>bif Nat.blt t vB then S.env t else (As[t - vB]?).getD .und,heap:=S.heap}
def unvirt (S:St C):St C:={env:=fun t=>bif Nat.blt t vB then S.env t else .und,heap:=S.heap}
def yg (L:List (Nat×Value)) (b:Nat→Value) (us:List Value) (t:Nat):Value:=bif Nat.blt t vB then look L b t else (us[t - vB]?).getD undef
omit [Dfr] in
theorem AbsL.virt (h:AbsL κ S ν vs ids L b σ PV) {us:List Value}{As:List (AV C.D)}(hr:VRs C σ ν us As) (hl:AV.oks (fun id=>(S.heap id).isSome=true) As):AbsL κ (virt S As) ν vs ids [] (yg L b us) σ PV:=by
 refine ⟨⟨h.nd,h.dom,h.pv,h.cell,fun t=>?_,h.one⟩,fun t=>?_,h.livec,h.keep⟩
 ·show VR C σ ν (yg L b us t) (bif Nat.blt t vB then S.env t else (As[t - vB]?).getD .und)
  unfold yg
  cases Nat.blt t vB with
  |true=>exact h.env t
  |false=>
   simp only [cond_false]
   cases e:As[t - vB]? with
   |none=>trivial
   |some A=>
    obtain ⟨u,e1,e2⟩:=hr.get _ A e
    rw [e1];exact e2
 ·show (bif Nat.blt t vB then S.env t else (As[t - vB]?).getD .und).ok _
  cases Nat.blt t vB with
  |true=>exact h.live t
  |false=>
   simp only [cond_false]
   cases e:As[t - vB]? with
   |none=>trivial
   |some A=>exact AV.oks_iff.1 hl A (List.mem_of_getElem? e)
omit [Dfr] in
theorem AbsL.unvirt {us:List Value}(h:AbsL κ S ν vs ids [] (yg L b us) σ PV):AbsL κ (unvirt S) ν vs ids L b σ PV:=by
 refine ⟨⟨h.nd,h.dom,h.pv,h.cell,fun t=>?_,h.one⟩,fun t=>?_,h.livec,h.keep⟩
 ·show VR C σ ν _ (bif Nat.blt t vB then S.env t else .und)
  have:=h.env t
  have this:VR C σ ν (yg L b us t) (S.env t):=this
  unfold yg at this
  cases e:Nat.blt t vB with
  |true=>rw [e] at this;exact this
  |false=>trivial
 ·show (bif Nat.blt t vB then S.env t else .und).ok _
  cases Nat.blt t vB with
  |true=>exact h.live t
  |false=>trivial
def Sig.shift (g:Sig):Sig:={ts:=g.ts.map fun t=>(vB+t.1,t.2),es:=g.es}
def xV (S:St C):St C:={env:=fun t=>S.env (vB+t),heap:=S.heap}
def xp (ins:Sig) (T:St C) (n:Nat):Option (St C×Bl×ins.ty C):=
 let S2:=ins.shift.prep 0 T
 let bl:=ZA ins.shift 0 S2
 chk (Nat.beq n ins.ts.length && Nat.ble ins.es.length 64) ((xC ins 0 (xV S2) bl).map fun x=>(S2,bl,x))
def xA (ins:Sig) (S:St C) (As:List (AV C.D)):Option (St C×Bl×ins.ty C):=
 let S2:=ins.shift.prep 0 (virt S As)
 let bl:=ZA ins.shift 0 S2
 chk (Nat.beq As.length ins.ts.length && Nat.ble ins.es.length 64) ((xC ins 0 (xV S2) bl).map fun x=>(S2,bl,x))
def Vs (S Sr:St C) (d:Nat) (bl:Bl):Nat→Bool
 |0=>true
 |k+1=>(match Bl.fn bl k with
  |some _=>true
  |none=>isNone (Sr.heap k) || isNone (S.heap (nid d k))) && Vs S Sr d bl k
omit [Dfr] in
theorem zco {S Sr:St C}{d:Nat}{bl:Bl}:∀ {N:Nat},Vs S Sr d bl N=true→∀ k,k < N→(Sr.heap k).isSome=true→Bl.fn bl k=none→S.heap (nid d k)=none
 |N+1,h,k,hk,h1,h2=>by
  simp only [Vs,Bool.and_eq_true] at h
  by_cases e:k=N
  ·subst e
   rw [h2] at h
   simp only [Bool.or_eq_true] at h
   rcases h.1 with q | q
   ·rw [Za q] at h1;cases h1
   ·exact Za q
  ·exact zco h.2 k (by omega) h1 h2
def zhI (ρ:Nat→Nat) (nr:Nat) (Sr:St C):AV C.D:=match nr with
 |1=>AV.ren ρ (Sr.env 0)
 |k =>.tup ((List.range k).map fun i=>AV.ren ρ (Sr.env i))
def WG (S2:St C) (d nr:Nat) (bl:Bl) (es:List ESh) (e:XE C) (Sr:St C):Option (Out C):=
 chk (Vs S2 Sr d bl es.length) (match e with
  | .ret=>some (.go ((unvirt (Zz S2 Sr d bl es)).put d (zhI (Xd d bl) nr Sr)))
  | .pan A=>some (.pan A (unvirt (Zz S2 Sr d bl es)))
  |_=>none)
def Xe (s:Spec C) (d:Nat) (S2:St C) (bl:Bl) (x:s.ins.ty C):Option (Out C):=
 (s.F x).bind fun r=>chk (Nat.ble s.ins.es.length (yf s.outs r).length) (zO s.outs r fun e Sr=>WG S2 d s.nr bl (yf s.outs r) e Sr)
mutual
def AV.flat {D:Nat→Type}:AV D→Bool
 | .int _ _=>true
 | .bool _=>true
 | .str _=>true
 | .pnil=>true
 | .nils=>true
 | .nilf=>true
 | .nili=>true
 | .und=>true
 | .agg cs=>AV.flats cs
 | .tup cs=>AV.flats cs
 | .clo _ cs=>AV.flats cs
 | .ifc _ A=>AV.flat A
 |_=>false
def AV.flats {D:Nat→Type}:List (AV D)→Bool
 |[]=>true
 |A::As=>AV.flat A && AV.flats As
end
omit [Dfr] in
mutual
theorem VR.flat {σ':FS}{ν':Val}:∀ {A:AV C.D}{v:Value},A.flat=true→VR C σ ν v A→VR C σ' ν' v A
 | .int _ _,v,_,r=>by rw [r.int_inv];exact Rv.int
 | .bool _,v,_,r=>by rw [r.bool_inv];exact Rv.bool
 | .str _,v,_,r=>by rw [r.str_inv];exact Rv.str
 | .pnil,v,_,r=>by rw [r.pnil_inv];exact Rv.pnil
 | .nils,v,_,r=>r
 | .nilf,v,_,r=>by
  have:Rv C σ v .nilf:=r
  cases this;exact Rv.nilf
 | .nili,v,_,r=>by rw [r.nili_inv];exact Rv.nili
 | .und,v,_,r=>trivial
 | .agg cs,v,h,⟨vs,e,r⟩=>⟨vs,e,VRs.flat h r⟩
 | .tup cs,v,h,⟨vs,e,r⟩=>⟨vs,e,VRs.flat h r⟩
 | .clo _ cs,v,h,⟨vs,e,r⟩=>⟨vs,e,VRs.flat h r⟩
 | .ifc _ A,v,h,⟨u,e,r⟩=>⟨u,e,VR.flat (A:=A) h r⟩
 | .sl _ _ _,_,h,_=>by cases h
 | .row _,_,h,_=>by cases h
 | .pc _ _,_,h,_=>by cases h
 | .pr _ _ _ _,_,h,_=>by cases h
 | .nx _ _ _ _,_,h,_=>by cases h
 | .pz _ _ _,_,h,_=>by cases h
theorem VRs.flat {σ':FS}{ν':Val}:∀ {cs:List (AV C.D)}{vs:List Value},AV.flats cs=true→VRs C σ ν vs cs→VRs C σ' ν' vs cs
 |[],[],_,_=>trivial
 |A::As,v::vs,h,⟨r,s⟩=>by
  simp only [AV.flats,Bool.and_eq_true] at h
  exact ⟨VR.flat h.1 r,VRs.flat h.2 s⟩
 |[],_::_,_,r=>r.elim
 |_::_,[],_,r=>r.elim
end
omit [Dfr] in
mutual
theorem vb {D:Nat→Type}{p:Nat→Prop}:∀ {A:AV D},A.flat=true→A.ok p
 | .int _ _,_=>trivial
 | .bool _,_=>trivial
 | .str _,_=>trivial
 | .pnil,_=>trivial
 | .nils,_=>trivial
 | .nilf,_=>trivial
 | .nili,_=>trivial
 | .und,_=>trivial
 | .agg cs,h=>zbc (A:=cs) h
 | .tup cs,h=>zbc (A:=cs) h
 | .clo _ cs,h=>zbc (A:=cs) h
 | .ifc _ A,h=>vb (A:=A) h
 | .sl _ _ _,h=>by cases h
 | .row _,h=>by cases h
 | .pc _ _,h=>by cases h
 | .pr _ _ _ _,h=>by cases h
 | .nx _ _ _ _,h=>by cases h
 | .pz _ _ _,h=>by cases h
theorem zbc {D:Nat→Type}{p:Nat→Prop}:∀ {A:List (AV D)},AV.flats A=true→AV.oks p A
 |[],_=>trivial
 |A::As,h=>by
  simp only [AV.flats,Bool.and_eq_true] at h
  exact ⟨vb h.1,zbc h.2⟩
end
mutual
def Sh.flat:Sh→Bool
 | .int _=>true
 | .bool=>true
 | .str=>true
 | .pnil=>true
 | .nilf=>true
 | .nili=>true
 | .und=>true
 | .tup l=>Sh.flats l
 | .ifc _ s=>Sh.flat s
 |_=>false
def Sh.flats:List Sh→Bool
 |[]=>true
 |s::l=>Sh.flat s && Sh.flats l
end
def Spec.view (s:Spec C):Bool:=s.ins.es.isEmpty && s.outs.all fun o=>o.2.es.isEmpty && (Sh.flats (o.2.ts.map (·.2)) && (match o.1 with | .pan t=>t.flat | _=>true))
mutual
def AV.flatN {D:Nat→Type}:AV D→Bool
 | .int _ _=>true
 | .bool _=>true
 | .str _=>true
 | .pnil=>true
 | .nils=>true
 | .nilf=>true
 | .nili=>true
 | .und=>true
 | .row _=>true
 | .pc _ _=>true
 | .pr _ _ _ _=>true
 | .nx _ _ _ _=>true
 | .agg cs=>AV.flatNs cs
 | .tup cs=>AV.flatNs cs
 | .clo _ cs=>AV.flatNs cs
 | .ifc _ A=>AV.flatN A
 |_=>false
def AV.flatNs {D:Nat→Type}:List (AV D)→Bool
 |[]=>true
 |A::As=>AV.flatN A && AV.flatNs As
end
omit [Dfr] in
mutual
theorem VR.flatN {σ':FS}:∀ {A:AV C.D}{v:Value},A.flatN=true→VR C σ ν v A→VR C σ' ν v A
 | .int _ _,v,_,r=>by rw [r.int_inv];exact Rv.int
 | .bool _,v,_,r=>by rw [r.bool_inv];exact Rv.bool
 | .str _,v,_,r=>by rw [r.str_inv];exact Rv.str
 | .pnil,v,_,r=>by rw [r.pnil_inv];exact Rv.pnil
 | .nils,v,_,r=>r
 | .nilf,v,_,r=>by
  have:Rv C σ v .nilf:=r
  cases this;exact Rv.nilf
 | .nili,v,_,r=>by rw [r.nili_inv];exact Rv.nili
 | .und,v,_,r=>trivial
 | .row _,v,_,r=>r
 | .pc _ _,v,_,r=>r
 | .pr _ _ _ _,v,_,r=>r
 | .nx _ _ _ _,v,_,r=>r
 | .agg cs,v,h,⟨vs,e,r⟩=>⟨vs,e,VRs.flatN h r⟩
 | .tup cs,v,h,⟨vs,e,r⟩=>⟨vs,e,VRs.flatN h r⟩
 | .clo _ cs,v,h,⟨vs,e,r⟩=>⟨vs,e,VRs.flatN h r⟩
 | .ifc _ A,v,h,⟨u,e,r⟩=>⟨u,e,VR.flatN (A:=A) h r⟩
 | .sl _ _ _,_,h,_=>by cases h
 | .pz _ _ _,_,h,_=>by cases h
theorem VRs.flatN {σ':FS}:∀ {cs:List (AV C.D)}{vs:List Value},AV.flatNs cs=true→VRs C σ ν vs cs→VRs C σ' ν vs cs
 |[],[],_,_=>trivial
 |A::As,v::vs,h,⟨r,s⟩=>by
  simp only [AV.flatNs,Bool.and_eq_true] at h
  exact ⟨VR.flatN h.1 r,VRs.flatN h.2 s⟩
 |[],_::_,_,r=>r.elim
 |_::_,[],_,r=>r.elim
end
mutual
def Sh.flatN:Sh→Bool
 | .int _=>true
 | .bool=>true
 | .str=>true
 | .pnil=>true
 | .nils=>true
 | .nilf=>true
 | .nili=>true
 | .und=>true
 | .row _=>true
 | .pc _ _=>true
 | .pr _ _ _=>true
 | .nx _ _=>true
 | .nxe _ _ _ _=>true
 | .nxp _ _ _=>true
 | .agg l=>Sh.flatNs l
 | .tup l=>Sh.flatNs l
 | .clo _ l=>Sh.flatNs l
 | .ifc _ s=>Sh.flatN s
 |_=>false
def Sh.flatNs:List Sh→Bool
 |[]=>true
 |s::l=>Sh.flatN s && Sh.flatNs l
end
omit [Dfr] in
mutual
theorem Sh.put_flatN {ρ:Nat→Nat}:∀ (s:Sh) {x:s.ty C},s.flatN=true→(Sh.put ρ s x).flatN=true
 | .int _,_,_=>rfl
 | .bool,_,_=>rfl
 | .str,_,_=>rfl
 | .pnil,_,_=>rfl
 | .nils,_,_=>rfl
 | .nilf,_,_=>rfl
 | .nili,_,_=>rfl
 | .und,_,_=>rfl
 | .row _,_,_=>rfl
 | .pc _ _,_,_=>rfl
 | .pr _ _ _,_,_=>rfl
 | .nx _ _,_,_=>rfl
 | .nxe _ _ _ _,_,_=>rfl
 | .nxp _ _ _,_,_=>rfl
 | .agg l,x,h=>Sh.putc_flatN l h
 | .tup l,x,h=>Sh.puts_flatN l h
 | .clo _ l,x,h=>Sh.puts_flatN l h
 | .ifc _ s,x,h=>Sh.put_flatN s h
 | .val _,_,h=>by cases h
 | .sl _,_,h=>by cases h
 | .pz _ _,_,h=>by cases h
 | .orow _,_,h=>by cases h
theorem Sh.puts_flatN {ρ:Nat→Nat}:∀ (l:List Sh) {x:Sh.tys C l},Sh.flatNs l=true→AV.flatNs (Sh.puts ρ l x)=true
 |[],_,_=>rfl
 |s::l,x,h=>by
  simp only [Sh.flatNs,Bool.and_eq_true] at h
  simp only [Sh.puts,AV.flatNs,Bool.and_eq_true]
  exact ⟨Sh.put_flatN s h.1,Sh.puts_flatN l h.2⟩
theorem Sh.putc_flatN {ρ:Nat→Nat}:∀ (l:List Sh) {x:Sh.tys C l},Sh.flatNs l=true→AV.flatNs (Sh.putc ρ l x)=true
 |[],_,_=>rfl
 |s::l,x,h=>by
  simp only [Sh.flatNs,Bool.and_eq_true] at h
  have hv:Sh.isVal s=none:=by cases s <;> first | rfl | (simp [Sh.flatN] at h)
  unfold Sh.putc
  simp only [hv,AV.flatNs,Bool.and_eq_true]
  exact ⟨Sh.put_flatN s h.1,Sh.putc_flatN l h.2⟩
end
def ztC:Option Nat→Bool
 |none=>true
 |some _=>false
def Cod.flt (C:Cod) (T:Nat):Bool:=(C.lfs T).all ztC
def Cod.floE (C:Cod) (T:Nat):List (Option Nat)→Nat→Bool
 |[],_=>true
 |none::r,k=>Cod.floE C T r (k+1)
 |some U::r,k=>Nat.beq k (C.nst T) && (C.flt U && Cod.floE C T r (k+1))
def Cod.flo (C:Cod) (T:Nat):Bool:=Cod.floE C T (C.lfs T) 0
def ESh.free (C:Cod):ESh→Bool
 | .cell l=>Sh.flatNs l
 | .row T=>C.flt T
 | .orow T=>C.flo T
 | .gone=>true
 |_=>false
omit [Dfr] in
theorem zrf {T:Nat}(h:C.flt T=true) {x:C.D T}{j:Nat}{A:AV C.D}(hj:(C.emb T x)[j]?=some A):A.num=true:=by
 rcases C.lfs_ok T x j A hj with h1 | ⟨U,s,_,h2⟩ | ⟨U,s,_,h2⟩
 ·exact h1
 ·have:=List.all_eq_true.1 h _ (List.mem_of_getElem? h2)
  cases this
 ·have:=List.all_eq_true.1 h _ (List.mem_of_getElem? h2)
  cases this
omit [Dfr] in
theorem zaM {T:Nat}:∀ {l:List (Option Nat)}{k j:Nat}{U:Nat},Cod.floE C T l k=true→l[j]?=some (some U)→k+j=C.nst T∧C.flt U=true
 |none::r,k,0,U,h,e=>by simp at e
 |none::r,k,j+1,U,h,e=>by
  have:=zaM (l:=r) (k:=k+1) (j:=j) (U:=U) h (by simpa using e)
  exact ⟨by omega,this.2⟩
 |some V::r,k,0,U,h,e=>by
  simp at e;subst e
  simp only [Cod.floE,Bool.and_eq_true] at h
  exact ⟨by have:=Nat.eq_of_beq_eq_true h.1;omega,h.2.1⟩
 |some V::r,k,j+1,U,h,e=>by
  simp only [Cod.floE,Bool.and_eq_true] at h
  have:=zaM (l:=r) (k:=k+1) (j:=j) (U:=U) h.2.2 (by simpa using e)
  exact ⟨by omega,this.2⟩
 |[],k,j,U,h,e=>by simp at e
omit [Dfr] in
theorem zhJ {σ σ':FS}{u:Value}{A:AV C.D}(h:A.num=true) (r:Rv C σ u A):Rv C σ' u A:=by
 cases r <;> first | (cases h;done) | exact .int | exact .bool | exact .str
omit [Dfr] in
theorem zhK {α:Type}{T:OTy α}{e:TypeId}{v:Value}{s:Sl α}{σ σ':FS}{h:zd}(hf:∀ x cs g,x∈s.xs→T.rel σ g cs x→T.rel σ' g cs x) (r:zn T e v s σ h):zn T e v s σ' h:=by
 rcases r with r | r | ⟨q,cap,cur,hb,gg,r1,r2,r3,r4,r5,r0,r6,r7,r8,r9,r10⟩
 ·exact .inl r
 ·exact .inr (.inl r)
 ·refine .inr (.inr ⟨q,cap,cur,hb,gg,r1,r2,r3,r4,r5,r0,r6,r7,r8,r9,?_⟩)
  obtain ⟨h1,hs,h2,h3,h4⟩:=r10
  exact ⟨h1,hs,fun i x hx=>hf x _ _ (List.mem_of_getElem? hx) (h2 i x hx),h3,h4⟩
omit [Dfr] in
theorem zi4 {σ σ':FS}{T:Nat}{v:Value}{s:Sl (C.D T)}{h:zd}(hf:C.flt T=true) (r:zn (zw C T).o T v s σ h):zn (zw C T).o T v s σ' h:=
 zhK (fun x cs g _ r=>⟨r.1,fun j A hj=>by
  obtain ⟨u,k1,k2⟩:=r.2 j A hj
  exact ⟨u,k1,zhJ (zrf hf hj) k2⟩⟩) r
omit [Dfr] in
theorem zrg {σ σ':FS}{T:Nat}{v:Value}{sub:Nat→Value}{s:Sl (C.D T)}{h:zd}(hf:C.flo T=true) (r:zn (Zc C T) T v (hpl C T sub s .all) σ h):zn (Zc C T) T v (hpl C T sub s .all) σ' h:=by
 refine zhK (fun p cs g hp r=>?_) r
 have h1:p.2.1=1:=by
  obtain ⟨j,hj⟩:=List.mem_iff_getElem?.1 hp
  simp only [hpl,List.getElem?_mapIdx] at hj
  cases hx:s.xs[j]? with
  |none=>rw [hx] at hj;cases hj
  |some x=>rw [hx] at hj;cases hj;rfl
 obtain ⟨k1,k2,k3,k4,k5,k6⟩:=(r:Yt C T σ g cs p)
 refine ⟨k1,k2,fun j A hj hn=>?_,k4,fun e=>(by rw [h1] at e;cases e),fun e=>?_⟩
 ·obtain ⟨u,q1,q2⟩:=k3 j A hj hn
  refine ⟨u,q1,zhJ ?_ q2⟩
  rcases C.lfs_ok T p.1 j A hj with h2 | ⟨U,s',_,h2⟩ | ⟨U,s',_,h2⟩
  ·exact h2
  ·have:=(zaM hf h2).1;omega
  ·have:=(zaM hf h2).1;omega
 ·obtain ⟨U,s',q1,q2⟩:=k6 e
  refine ⟨U,s',q1,zi4 ?_ q2⟩
  have hh:Zk C T p.1 ≠.und:=by rw [q1];intro e;cases e
  unfold Zk at q1 hh
  cases hg:(C.emb T p.1)[C.nst T]? with
  |none=>rw [hg] at hh;exact absurd rfl hh
  |some A=>
   rw [hg] at q1
   have q1:A = .sl U s' false:=q1
   subst q1
   rcases C.lfs_ok T p.1 _ _ hg with h2 | ⟨U',s2,e2,h2⟩ | ⟨U',s2,e2,h2⟩
   ·cases h2
   ·cases e2;exact (zaM hf h2).2
   ·cases e2
omit [Dfr] in
theorem zbT {ρ:Nat→Nat}:∀ (ts:List (Nat×Sh)) (rest:List Sh) (x:Sh.tys C (ts.map (·.2)++rest)) (t:Nat),Sh.flatNs (ts.map (·.2))=true→(vh ρ ts rest x t).flatN=true
 |[],_,_,_,_=>rfl
 |(t0,s)::ts,rest,x,t,h=>by
  simp only [List.map_cons,Sh.flatNs,Bool.and_eq_true] at h
  unfold vh
  cases Nat.beq t t0 with
  |true=>exact Sh.put_flatN s h.1
  |false=>exact zbT ts rest _ t h.2
omit [Dfr] in
theorem zbU {ρ:Nat→Nat}:∀ (es:List ESh) (k0:Nat) (x:Sh.tys C (es.map ESh.sh)) (i:Nat) {e:Ent C},es.all (ESh.free C)=true→ZK ρ es k0 x i=some e→(∃ cs,e = .cell cs∧AV.flatNs cs=true)∨(∃ T s,e = .row T s∧C.flt T=true)∨∃ T s,e = .orow T s .all∧C.flo T=true
 |[],k0,x,i,e,h,he=>by cases he
 |e0::es,k0,x,i,e,h,he=>by
  simp only [List.all_cons,Bool.and_eq_true] at h
  unfold ZK at he
  cases hb:Nat.beq i (ρ k0) with
  |false=>rw [hb] at he;exact zbU es (k0+1) _ i h.2 he
  |true=>
   rw [hb,cond_true] at he
   have h1:=h.1
   cases e0 with
   |cell l=>cases he;exact .inl ⟨_,rfl,Sh.putc_flatN l h1⟩
   |row T=>cases he;exact .inr (.inl ⟨T,_,rfl,h1⟩)
   |orow T=>cases he;exact .inr (.inr ⟨T,_,rfl,h1⟩)
   |obj k T=>cases h1
   |xrow T=>cases h1
   |forow T=>cases h1
   |gone=>cases he
omit [Dfr] in
theorem AbsL.free {κ:Kp}{g:Sig}{x:g.ty C}{ν:Val}{vs:Nat→List Value}{ids:List Nat}{L:List (Nat×Value)}{b:Nat→Value}{σ σ':FS}{PV:List Priv}(h:AbsL κ (g.open x) ν vs ids L b σ' PV) (h1:Sh.flatNs (g.ts.map (·.2))=true) (h2:g.es.all (ESh.free C)=true) :
    AbsL κ (g.open x) ν vs ids L b σ PV∧∀ hh,Sep σ' PV hh→Sep σ PV hh:=by
  have hent:∀ i e,(g.open x).heap i=some e→(∃ cs,e = .cell cs∧AV.flatNs cs=true)∨(∃ T s,e = .row T s∧C.flt T=true)∨∃ T s,e = .orow T s .all∧C.flo T=true:=fun i e he=>zbU g.es 0 _ i h2 he
  refine ⟨⟨⟨h.nd,h.dom,h.pv,fun id cs hc=>?_,fun t=>VR.flatN (zbT g.ts _ _ t h1) (h.env t),h.one⟩,h.live,h.livec,h.keep⟩,fun hh hs=>?_⟩
  · rcases hent id _ hc with ⟨cs',e,h3⟩ | ⟨T,s,e,_⟩ | ⟨T,s,e,_⟩
    · cases e;exact VRs.flatN h3 (h.cell id cs hc)
    · cases e
    · cases e
  · obtain ⟨hs',k1,k2,k3⟩:=hs
    refine ⟨hs',fun i p hp=>?_,k2,k3⟩
    have hold:=k1 i p hp
    rw [h.pv,List.getElem?_map] at hp
    cases hid:ids[i]? with
    |none=>rw [hid] at hp;cases hp
    |some id=>
      rw [hid] at hp
      cases hp
      have hsome:=(h.dom id).1 (List.mem_of_getElem? hid)
      cases he:(g.open x).heap id with
      |none=>rw [he] at hsome;cases hsome
      |some e=>
        have hold:(zK C ν vs id ((g.open x).heap id)).holds σ' (hs' i):=hold
        show (zK C ν vs id ((g.open x).heap id)).holds σ (hs' i)
        rw [he] at hold ⊢
        rcases hent id e he with ⟨cs',e1,_⟩ | ⟨T,s,e1,h3⟩ | ⟨T,s,e1,h3⟩
        · subst e1;exact hold
        · subst e1;exact zi4 h3 hold
        · subst e1;exact zrg h3 hold
def Spec.viewO (s:Spec C):Bool:=s.ins.es.isEmpty && s.outs.all fun o=>(o.2.es.all (ESh.free C) && Sh.flatNs (o.2.ts.map (·.2))) && Nat.ble o.2.es.length 64
omit [Dfr] in
theorem Inv.past_own {w w':World}{τ σ':FS}{A':List Priv}(hi:Inv w0 σ0 σ PV w) (hle:σ.le τ) (k:Inv ⟨w,zd.none⟩ τ σ' A' w') (hf:∀ h,Sep σ' A' h→Sep σ A' h):Inv w0 σ0 σ (A'++PV) w':=by
 obtain ⟨h,hs,hg⟩:=hi.own
 obtain ⟨h',hs',hg'⟩:=k.own
 have hl2:=hle.trans k.le
 have k2:Inv ⟨w,zd.none⟩ σ σ A' w':=⟨hl2.sub k.sub,.refl σ,fun _ _ _ e =>.inl e,⟨h',hf h' hs',hg'.sub,fun q o e=>by
  cases hx:σ q o with
  |none=>rfl
  |some v=>exact absurd (hg'.apart q o e) (by rw [hl2 q o v hx];simp),hg'.mine⟩,k.ext⟩
 exact hi.call (A':=A') (C:=PV) (h1:=zd.none) (h2:=h) hg hs (zd.none_le _) (.refl _) (zd.none_disj _) k2
omit [Dfr] in
theorem zdy {α:Type}{Q:XE C→St C→Prop}{K:XE C→St C→α}{z:α}:∀ {outs:List (XK×Sig)}{r:zk C outs},zO outs r K=z→zO outs r Q→∃ e S,K e S=z∧Q e S∧zcU (yf outs r) S∧∃ o∈outs,∃ x:o.2.ty C,S=o.2.open x
 |[],r,_,_=>r.elim
 |[o],r,h,q=>by
  obtain ⟨e,S,h1,h2,h3,h4⟩:=one h q
  exact ⟨e,S,h1,h2,h3,o,by simp,h4⟩
 |o::o2::l,r,h,q=>by
  unfold zO at h q
  unfold yf
  cases r with
  |inl a=>
   obtain ⟨e,S,h1,h2,h3,h4⟩:=one h q
   exact ⟨e,S,h1,h2,h3,o,by simp,h4⟩
  |inr y=>
   obtain ⟨e,S,h1,h2,h3,o',ho,h4⟩:=zdy h q
   exact ⟨e,S,h1,h2,h3,o',List.mem_cons_of_mem _ ho,h4⟩
where
 one {α:Type} {Q:XE C→St C→Prop} {K:XE C→St C→α} {z:α} {o:XK×Sig} {y:XK.ty C o.1 o.2} (h:YD o.1 o.2 y K=z) (q:YD o.1 o.2 y Q):∃ e S,K e S=z∧Q e S∧zcU o.2.es S∧∃ x:o.2.ty C,S=o.2.open x:=by
  obtain ⟨k,g⟩:=o
  cases k with
  |normal=>exact ⟨_,_,h,q,Xx g _,_,rfl⟩
  |exit i=>exact ⟨_,_,h,q,Xx g _,_,rfl⟩
  |ret=>exact ⟨_,_,h,q,Xx g _,_,rfl⟩
  |pan s=>exact ⟨_,_,h,q,Xx g _,_,rfl⟩
def zaN (S:St C) (d nr:Nat) (e:XE C) (Sr:St C):Option (Out C):=match e with
 | .ret=>chk (zhI (fun k=>k) nr Sr).flat (some (.go (S.put d (zhI (fun k=>k) nr Sr))))
 | .pan A=>chk A.flat (some (.pan A S))
 |_=>none
def Ya (s:Spec C) (d:Nat) (S:St C) (x:s.ins.ty C):Option (Out C):=
 chk s.ins.es.isEmpty ((s.F x).bind fun r=>zO s.outs r fun e Sr=>zaN S d s.nr e Sr)
def zpL:XE C→Bool
 | .pan A=>A.flat
 |_=>true
def yK (s:Spec C) (d:Nat) (S:St C) (x:s.ins.ty C):Option (Out C):=
 (s.F x).bind fun r=>zO s.outs r fun e Sr=>chk (zpL e) (WG S d s.nr [] (yf s.outs r) e Sr)
omit [Dfr] in
theorem zfk {ρ:Nat→Nat}{ν':Val}{Sr:St C}{νr:Val}{vals:List Value}{p q:Nat→Prop}(henv:∀ t,VR C σ νr (look (yh 0 vals) (fun _=>undef) t) (Sr.env t)) (hlive:∀ t,(Sr.env t).ok p) (hν:∀ k,p k→ν'.hdr (ρ k)=νr.hdr k∧ν'.adr (ρ k)=νr.adr k) (hq:∀ k,p k→q (ρ k)) :
    VR C σ ν' (zck vals) (zhI ρ vals.length Sr)∧(zhI ρ vals.length Sr).ok q:=by
  have key:∀ i,VR C σ ν' ((vals[i]?).getD undef) (AV.ren ρ (Sr.env i))∧(AV.ren ρ (Sr.env i)).ok q:=fun i=>by
    have:=henv i
    rw [yj] at this
    exact ⟨this.ren hν (hlive i),AV.ok_ren hq (hlive i)⟩
  have many:∀ (m:Nat) (l:List Value),(∀ i,i < l.length→l[i]?=vals[m+i]?)→VRs C σ ν' l ((List.range' m l.length).map fun i=>AV.ren ρ (Sr.env i))∧AV.oks q ((List.range' m l.length).map fun i=>AV.ren ρ (Sr.env i)):=by
    intro m l
    induction l generalizing m with
    |nil=>exact fun _=>⟨trivial,trivial⟩
    |cons v l ih=>
      intro h
      have h0:=h 0 (by simp)
      have k:=key m
      rw [show vals[m]?=some v from by simpa using h0.symm] at k
      have:=ih (m+1) fun i hi=>by
        have:=h (i+1) (by simpa using hi)
        rw [show m+1+i=m+(i+1) by omega];simpa using this
      simp only [List.length_cons,List.range'_succ,List.map_cons]
      exact ⟨⟨k.1,this.1⟩,⟨k.2,this.2⟩⟩
  have hall:=many 0 vals fun i _=>by rw [Nat.zero_add]
  rw [← List.range_eq_range'] at hall
  match vals,key,hall with
  |[],_,hall=>exact ⟨⟨[],rfl,hall.1⟩,hall.2⟩
  |[v],key,_=>exact key 0
  |u::v::l,_,hall=>exact ⟨⟨_,rfl,hall.1⟩,hall.2⟩
def Spec.OKc (s:Spec C) (us:List Value) (cl:World→(Ending→World→Prop)→Prop):Prop:=
 ∀ (x:s.ins.ty C) r,s.F x=some r→∀ (κ:Kp) (st:Start) (σ:FS),C.gl st.w σ→∀ (PV:List Priv) (ν:Val) (vs:Nat→List Value) (ids:List Nat),κ.m=s.ins.es.length→us.length=s.ins.ts.length→AbsL κ (s.ins.open x) ν vs ids (yh 0 us) (fun _=>undef) σ PV→Pre st σ PV→cl st.w (vo κ st σ s.nr s.outs r)
omit [Dfr] in
theorem zdz {s:Spec C}{us:List Value}{cl:World→(Ending→World→Prop)→Prop}(hs:s.OKc us cl) (hmono:∀ {w:World}{Q Q':Ending→World→Prop},cl w Q→(∀ e w,Q e w→Q' e w)→cl w Q') (hgl:C.gl w0.w σ0) {d:Nat}{As:List (AV C.D)}{S2:St C}{bl:Bl}{x:s.ins.ty C}(hl:xA s.ins S As=some (S2,bl,x))
    (h:AbsL κ S ν vs ids L b σ PV) (hr:VRs C σ ν us As) (hlive:AV.oks (fun id=>(S.heap id).isSome=true) As) {out:Out C} (ho:Xe s d S2 bl x=some out) {w:World} (hi:Inv w0 σ0 σ PV w) :
    cl w fun e w'=>match e with
      | .returned v=>∃ S' σ' PV',out = .go S'∧Inv w0 σ0 σ' PV' w'∧zC κ S' ((d,v)::L) b σ' PV'
      | .panicked chain=>∃ A S' u σ' PV',out = .pan A S'∧chain=[{v:=u,recovered:=false}]∧Inv w0 σ0 σ' PV' w'∧wj C σ' u A∧zC κ S' L b σ' PV'
      | .outgrown=>False:=by
  unfold xA at hl
  obtain ⟨hc,hl⟩:=zb hl
  simp only [Bool.and_eq_true] at hc
  have c1:=Nat.eq_of_beq_eq_true hc.1
  have c2:=Nat.le_of_ble_eq_true hc.2
  obtain ⟨x',hx,he⟩:=Option.map_eq_some_iff.1 hl
  cases he
  obtain ⟨σ1,PV1,hi1,ν1,vs1,ids1,h1⟩:=zbA (g:=s.ins.shift) (m:=0) ⟨ν,vs,ids,h.virt hr hlive⟩ hi
  generalize hS2:s.ins.shift.prep 0 (virt S As)=S2 at *
  generalize hbl:ZA s.ins.shift 0 S2=bl at *
  have henv:∀ t,VR C σ1 ν1 (look (yh 0 us) (fun _=>undef) t) ((xV S2).env t):=fun t=>by
    have:=h1.env (vB+t)
    rw [yj]
    have e:look [] (yg L b us) (vB+t)=(us[t]?).getD undef:=by
      show yg L b us (vB+t)=_
      unfold yg
      have:Nat.blt (vB+t) vB=false:=by
        cases e:Nat.blt (vB+t) vB with
        |false=>rfl
        |true=>rw [Nat.blt_eq] at e;omega
      rw [this];simp
    rw [e] at this
    exact this
  obtain ⟨ν',vs',ids',k1,k2,k3,k4,k5⟩:=h1.lend (T:=xV S2) rfl henv hx c2
  have hB:=BdOK.of ((Bool.and_eq_true _ _).mp (zb hx).1).1
  obtain ⟨gg,hsep,hg⟩:=hi1.own
  obtain ⟨f1,f2,s1,s2,l1,l2,dd⟩:=(k5 gg hsep).split
  obtain ⟨r,hr',ho⟩:=Option.bind_eq_some_iff.1 ho
  obtain ⟨hlen,ho⟩:=zb ho
  have hlen:=Nat.le_of_ble_eq_true hlen
  have hus:us.length=s.ins.ts.length:=by rw [← c1,hr.len]
  have hcalls:=hs x r hr' ⟨s.ins.es.length,c2,ν'⟩ ⟨w,f1⟩ σ1 (C.glm hi1.le hi1.ext hgl) _ ν' vs' ids' rfl hus k1 ⟨hi1.sub,s1,hg.sub.mono l1,(hg.mono l1).apart⟩
  refine hmono hcalls ?_
  intro e w' hp
  obtain ⟨e',Sr,q1,q2,q3⟩:=wk ho hp
  unfold WG at q1
  obtain ⟨hfr,q1⟩:=zb q1
  have merge:∀ {Lr br σ' A'},zC ⟨s.ins.es.length,c2,ν'⟩ Sr Lr br σ' A'→Inv ⟨w,f1⟩ σ1 σ' A' w'→∃ νr ν2 vs2 ids2 PV2,Inv w0 σ0 σ' PV2 w'∧AbsL κ (unvirt (Zz S2 Sr d bl (yf s.outs r))) ν2 vs2 ids2 L b σ' PV2∧(∀ t,VR C σ' νr (look Lr br t) (Sr.env t))∧(∀ t,(Sr.env t).ok fun id=>(Sr.heap id).isSome=true)∧
      (∀ k,(Sr.heap k).isSome=true→ν2.hdr (Xd d bl k)=νr.hdr k∧ν2.adr (Xd d bl k)=νr.adr k)∧∀ k,(Sr.heap k).isSome=true→((Zz S2 Sr d bl (yf s.outs r)).heap (Xd d bl k)).isSome=true:=by
    rintro Lr br σ' A' ⟨νr,vsr,idsr,hA⟩ hi'
    have hfree:∀ k,(Sr.heap k).isSome=true→Bl.fn bl k=none→S2.heap (nid d k)=none:=fun k hk hn=>by
      obtain ⟨e,he,_⟩:=(q3 k).1 hk
      exact zco hfr k (List.getElem?_eq_some_iff.1 he).1 hk hn
    obtain ⟨ν2,vs2,ids2,m1,m2,m3⟩:=h1.merge (d:=d) (es:=yf s.outs r) hA hi'.le hB.inj hB.lt k4 k2 q3 hfree hlen
    exact ⟨νr,ν2,vs2,ids2,_,hi1.call hg s2 l1 l2 dd hi',m1.unvirt,hA.env,hA.live,m2,m3⟩
  cases e' with
  |normal=>cases q1
  |exit i=>cases q1
  |ret=>
    cases e with
    |returned v=>
      obtain ⟨vals,σ',A',rfl,hnr,hi',hA⟩:=q2
      obtain ⟨νr,ν2,vs2,ids2,PV2,m1,m2,m3,m4,m5,m6⟩:=merge hA hi'
      cases q1
      have hres:=zfk (ρ:=Xd d bl) (q:=fun i=>((Zz S2 Sr d bl (yf s.outs r)).heap i).isSome=true) m3 m4 m5 m6
      rw [hnr] at hres
      exact ⟨_,σ',PV2,rfl,m1,ν2,vs2,ids2,m2.put hres.1 hres.2⟩
    |panicked chain=>exact q2.elim
    |outgrown=>exact q2.elim
  |pan A=>
    cases e with
    |returned v=>exact q2.elim
    |outgrown=>exact q2.elim
    |panicked chain=>
      obtain ⟨u,σ',A',rfl,hi',hp',hA⟩:=q2
      obtain ⟨νr,ν2,vs2,ids2,PV2,m1,m2,m3,m4,m5,m6⟩:=merge hA hi'
      cases q1
      exact ⟨_,_,u,σ',PV2,rfl,rfl,m1,hp',ν2,vs2,ids2,m2⟩
omit [Dfr] in
theorem zjL {s:Spec C}(hs:s.OK P) (hgl:C.gl w0.w σ0) {d:Nat}{As:List (AV C.D)}{us:List Value}{S2:St C}{bl:Bl}{x:s.ins.ty C}(hl:xA s.ins S As=some (S2,bl,x))
    (h:AbsL κ S ν vs ids L b σ PV) (hr:VRs C σ ν us As) (hlive:AV.oks (fun id=>(S.heap id).isSome=true) As) {out:Out C} (ho:Xe s d S2 bl x=some out) {w:World} (hi:Inv w0 σ0 σ PV w) :
    Calls P s.f us.toArray w fun e w'=>match e with
      | .returned v=>∃ S' σ' PV',out = .go S'∧Inv w0 σ0 σ' PV' w'∧zC κ S' ((d,v)::L) b σ' PV'
      | .panicked chain=>∃ A S' u σ' PV',out = .pan A S'∧chain=[{v:=u,recovered:=false}]∧Inv w0 σ0 σ' PV' w'∧wj C σ' u A∧zC κ S' L b σ' PV'
      | .outgrown=>False:=by
  obtain ⟨fn,hf,_,_,hs⟩:=hs
  exact zdz (cl:=fun w Q=>Calls P s.f us.toArray w Q) (fun x r hx κ st σ hgl PV ν vs ids h1 h2 h3 h4=>hs x r hx κ st σ hgl PV ν vs ids us h1 h2 h3 h4) (fun h k=>Calls.mono h k) hgl hl h hr hlive ho hi
omit [Dfr] in
theorem zdA {s:Spec C}(hs:s.OK P) (hgl:C.gl w0.w σ0) {d:Nat}{T:St C}{N:Nat}{us:List Value}{S2:St C}{bl:Bl}{x:s.ins.ty C}(hl:xp s.ins T N=some (S2,bl,x)) (hN:us.length=N)
    (h:AbsL κ S ν vs ids L b σ PV) {out:Out C} (ho:Ya s d S x=some out) {w:World} (hi:Inv w0 σ0 σ PV w) (hT:∀ w0 σ0,Inv w0 σ0 σ PV w→∃ σ1 PV1,Inv w0 σ0 σ1 PV1 w∧zC κ T [] (yg L b us) σ1 PV1) :
    Calls P s.f us.toArray w fun e w'=>match e with
      | .returned v=>∃ S' σ' PV',out = .go S'∧Inv w0 σ0 σ' PV' w'∧zC κ S' ((d,v)::L) b σ' PV'
      | .panicked chain=>∃ A S' u σ' PV',out = .pan A S'∧chain=[{v:=u,recovered:=false}]∧Inv w0 σ0 σ' PV' w'∧wj C σ' u A∧zC κ S' L b σ' PV'
      | .outgrown=>False:=by
  obtain ⟨hes,ho⟩:=zb ho
  unfold xp at hl
  obtain ⟨hc,hl⟩:=zb hl
  simp only [Bool.and_eq_true] at hc
  have c1:=Nat.eq_of_beq_eq_true hc.1
  have c2:=Nat.le_of_ble_eq_true hc.2
  obtain ⟨x',hx,he⟩:=Option.map_eq_some_iff.1 hl
  cases he
  obtain ⟨gg,hsep,hg⟩:=hi.own
  obtain ⟨σ0',PV0',hi0',hA0'⟩:=hT ⟨w,gg⟩ σ ⟨hi.sub,.refl σ,fun b o v hb =>.inl hb,⟨gg,hsep,hg.sub,hg.apart,fun b i e =>.inr e⟩,.refl w gg⟩
  obtain ⟨σ1,PV1,hi1,ν1,vs1,ids1,h1⟩:=zbA (g:=s.ins.shift) (m:=0) hA0' hi0'
  generalize hS2:s.ins.shift.prep 0 T=S2 at *
  generalize hbl:ZA s.ins.shift 0 S2=bl at *
  have henv:∀ t,VR C σ1 ν1 (look (yh 0 us) (fun _=>undef) t) ((xV S2).env t):=fun t=>by
    have:=h1.env (vB+t)
    rw [yj]
    have e:look [] (yg L b us) (vB+t)=(us[t]?).getD undef:=by
      show yg L b us (vB+t)=_
      unfold yg
      have:Nat.blt (vB+t) vB=false:=by
        cases e:Nat.blt (vB+t) vB with
        |false=>rfl
        |true=>rw [Nat.blt_eq] at e;omega
      rw [this];simp
    rw [e] at this
    exact this
  obtain ⟨ν',vs',ids',k1,k2,k3,k4,k5⟩:=h1.lend (T:=xV S2) rfl henv hx c2
  have hB:=BdOK.of ((Bool.and_eq_true _ _).mp (zb hx).1).1
  have hids:ids'=[]:=List.eq_nil_iff_forall_not_mem.2 fun k hk=>by
    obtain ⟨id,e⟩:=Option.isSome_iff_exists.1 ((k3 k).1 hk)
    have:=hB.lt k id e
    rw [List.isEmpty_iff.1 hes] at this
    simp at this
  rw [hids] at k1
  obtain ⟨r,hr',ho⟩:=Option.bind_eq_some_iff.1 ho
  have hus:us.length=s.ins.ts.length:=by rw [hN,c1]
  obtain ⟨fn,hf,_,_,hs⟩:=hs
  have hcalls:=hs x r hr' ⟨s.ins.es.length,c2,ν'⟩ ⟨w,zd.none⟩ σ1 (C.glm hi1.le hi1.ext (C.glm hi.le hi.ext hgl)) _ ν' vs' _ us rfl hus k1 (Pre.empty hi1.sub)
  refine Calls.mono hcalls ?_
  intro e w' hp
  obtain ⟨e',Sr,q1,q2,q3⟩:=wk ho hp
  unfold zaN at q1
  cases e' with
  |normal=>cases q1
  |exit i=>cases q1
  |ret=>
    cases e with
    |returned v=>
      obtain ⟨vals,σ',A',rfl,hnr,hi',νr,vsr,idsr,hA⟩:=q2
      obtain ⟨hfl,q1⟩:=zb q1
      cases q1
      have hres:=zfk (σ:=σ') (ρ:=fun k=>k) (ν':=νr) (q:=fun i=>(Sr.heap i).isSome=true) hA.env hA.live (fun k _=>⟨rfl,rfl⟩) (fun k hk=>hk)
      rw [hnr] at hres
      exact ⟨_,σ,PV,rfl,hi.past hi1.le hi',ν,vs,ids,h.put (VR.flat hfl hres.1) (vb hfl)⟩
    |panicked chain=>exact q2.elim
    |outgrown=>exact q2.elim
  |pan A=>
    cases e with
    |returned v=>exact q2.elim
    |outgrown=>exact q2.elim
    |panicked chain=>
      obtain ⟨u,σ',A',rfl,hi',hp',hA⟩:=q2
      obtain ⟨hfl,q1⟩:=zb q1
      cases q1
      exact ⟨_,_,u,σ,PV,rfl,rfl,hi.past hi1.le hi',⟨vb hfl,fun ν hν=>VR.flat hfl (hp'.2 ν hν)⟩,ν,vs,ids,h⟩
omit [Dfr] in
theorem AbsL.nilB {κs:Kp}{C:Cod}{S Sr:St C}{d:Nat}{es:List ESh}{νr:Val}{vsr:Nat→List Value}{idsr:List Nat}{Lr:List (Nat×Value)}{br:Nat→Value}{A':List Priv}{κ:Kp}{ν:Val}{vs:Nat→List Value}{ids:List Nat}{L:List (Nat×Value)}{b:Nat→Value}{σ:FS}{PV:List Priv}(h:AbsL κ S ν vs ids L b σ PV) (hr:AbsL κs Sr νr vsr idsr Lr br σ A') (hm:κs.m=0)
    (hal:zcU es Sr) (hfr:∀ k,(Sr.heap k).isSome=true→S.heap (nid d k)=none) :
    ∃ ν2 vs2 ids2,AbsL κ (Go.Px.unvirt (Zz S Sr d [] es)) ν2 vs2 ids2 L b σ (A'++PV)∧
      (∀ k,(Sr.heap k).isSome=true→ν2.hdr (Xd d [] k)=νr.hdr k∧ν2.adr (Xd d [] k)=νr.adr k)∧∀ k,(Sr.heap k).isSome=true→((Go.Px.unvirt (Zz S Sr d [] es)).heap (Xd d [] k)).isSome=true:=by
  obtain ⟨ν2,vs2,ids2,m1,m2,m3⟩:=h.merge (bl:=[]) (d:=d) (es:=es) hr (.refl σ) (fun i j id e=>by simp [Bl.fn] at e) (fun k id e=>by simp [Bl.fn] at e) (fun k id e=>by simp [Bl.fn] at e) (fun k id e=>by simp [Bl.fn] at e) hal (fun k hk _=>hfr k hk) (by omega)
  have hf:(ids.filter fun j=> !Z7 j [])=ids:=List.filter_eq_self.2 fun j _=>rfl
  rw [hf,← h.pv] at m1
  refine ⟨ν2,vs2,ids2,?_,m2,m3⟩
  refine ⟨⟨m1.nd,m1.dom,m1.pv,m1.cell,fun t=>?_,m1.one⟩,fun t=>?_,m1.livec,m1.keep⟩
  · show VR C σ ν2 _ (bif Nat.blt t vB then _ else .und)
    cases Nat.blt t vB with
    |true=>exact m1.env t
    |false=>trivial
  · show (bif Nat.blt t vB then _ else AV.und).ok _
    cases Nat.blt t vB with
    |true=>exact m1.live t
    |false=>trivial
omit [Dfr] in
theorem zdB {s:Spec C}(hs:s.OK P) (hvo:s.viewO=true) (hgl:C.gl w0.w σ0) {d:Nat}{T:St C}{N:Nat}{us:List Value}{S2:St C}{bl:Bl}{x:s.ins.ty C}(hl:xp s.ins T N=some (S2,bl,x)) (hN:us.length=N)
    (h:AbsL κ S ν vs ids L b σ PV) {out:Out C} (ho:yK s d S x=some out) {w:World} (hi:Inv w0 σ0 σ PV w) (hT:∀ w0 σ0,Inv w0 σ0 σ PV w→∃ σ1 PV1,Inv w0 σ0 σ1 PV1 w∧zC κ T [] (yg L b us) σ1 PV1) :
    Calls P s.f us.toArray w fun e w'=>match e with
      | .returned v=>∃ S' σ' PV',out = .go S'∧Inv w0 σ0 σ' PV' w'∧zC κ S' ((d,v)::L) b σ' PV'
      | .panicked chain=>∃ A S' u σ' PV',out = .pan A S'∧chain=[{v:=u,recovered:=false}]∧Inv w0 σ0 σ' PV' w'∧wj C σ' u A∧zC κ S' L b σ' PV'
      | .outgrown=>False:=by
  simp only [Spec.viewO,Bool.and_eq_true] at hvo
  obtain ⟨hes,hvo⟩:=hvo
  unfold xp at hl
  obtain ⟨hc,hl⟩:=zb hl
  simp only [Bool.and_eq_true] at hc
  have c1:=Nat.eq_of_beq_eq_true hc.1
  have c2:=Nat.le_of_ble_eq_true hc.2
  obtain ⟨x',hx,he⟩:=Option.map_eq_some_iff.1 hl
  cases he
  obtain ⟨gg,hsep,hg⟩:=hi.own
  obtain ⟨σ0',PV0',hi0',hA0'⟩:=hT ⟨w,gg⟩ σ ⟨hi.sub,.refl σ,fun b o v hb =>.inl hb,⟨gg,hsep,hg.sub,hg.apart,fun b i e =>.inr e⟩,.refl w gg⟩
  obtain ⟨σ1,PV1,hi1,ν1,vs1,ids1,h1⟩:=zbA (g:=s.ins.shift) (m:=0) hA0' hi0'
  generalize hS2:s.ins.shift.prep 0 T=S2 at *
  generalize hbl:ZA s.ins.shift 0 S2=bl at *
  have henv:∀ t,VR C σ1 ν1 (look (yh 0 us) (fun _=>undef) t) ((xV S2).env t):=fun t=>by
    have:=h1.env (vB+t)
    rw [yj]
    have e:look [] (yg L b us) (vB+t)=(us[t]?).getD undef:=by
      show yg L b us (vB+t)=_
      unfold yg
      have:Nat.blt (vB+t) vB=false:=by
        cases e:Nat.blt (vB+t) vB with
        |false=>rfl
        |true=>rw [Nat.blt_eq] at e;omega
      rw [this];simp
    rw [e] at this
    exact this
  obtain ⟨ν',vs',ids',k1,k2,k3,k4,k5⟩:=h1.lend (T:=xV S2) rfl henv hx c2
  have hB:=BdOK.of ((Bool.and_eq_true _ _).mp (zb hx).1).1
  have hids:ids'=[]:=List.eq_nil_iff_forall_not_mem.2 fun k hk=>by
    obtain ⟨id,e⟩:=Option.isSome_iff_exists.1 ((k3 k).1 hk)
    have:=hB.lt k id e
    rw [List.isEmpty_iff.1 hes] at this
    simp at this
  rw [hids] at k1
  obtain ⟨r,hr',ho⟩:=Option.bind_eq_some_iff.1 ho
  have hus:us.length=s.ins.ts.length:=by rw [hN,c1]
  obtain ⟨fn,hf,_,_,hs⟩:=hs
  have hcalls:=hs x r hr' ⟨s.ins.es.length,c2,ν'⟩ ⟨w,zd.none⟩ σ1 (C.glm hi1.le hi1.ext (C.glm hi.le hi.ext hgl)) _ ν' vs' _ us rfl hus k1 (Pre.empty hi1.sub)
  refine Calls.mono hcalls ?_
  intro e w' hp
  obtain ⟨e',Sr,q1,q2,q3,o,ho1,x1,rfl⟩:=zdy ho hp
  have hfree:=List.all_eq_true.1 hvo o ho1
  simp only [Bool.and_eq_true] at hfree
  obtain ⟨hpf,q1⟩:=zb q1
  unfold WG at q1
  obtain ⟨hfr,q1⟩:=zb q1
  have hm0:s.ins.es.length=0:=by rw [List.isEmpty_iff.1 hes];rfl
  have merge:∀ {Lr br σ' A'},zC ⟨s.ins.es.length,c2,ν'⟩ (o.2.open x1) Lr br σ' A'→Inv ⟨w,zd.none⟩ σ1 σ' A' w'→∃ νr ν2 vs2 ids2,Inv w0 σ0 σ (A'++PV) w'∧AbsL κ (unvirt (Zz S (o.2.open x1) d [] (yf s.outs r))) ν2 vs2 ids2 L b σ (A'++PV)∧(∀ t,VR C σ νr (look Lr br t) ((o.2.open x1).env t))∧(∀ t,((o.2.open x1).env t).ok fun id=>((o.2.open x1).heap id).isSome=true)∧
      (∀ k,((o.2.open x1).heap k).isSome=true→ν2.hdr (Xd d [] k)=νr.hdr k∧ν2.adr (Xd d [] k)=νr.adr k)∧∀ k,((o.2.open x1).heap k).isSome=true→((unvirt (Zz S (o.2.open x1) d [] (yf s.outs r))).heap (Xd d [] k)).isSome=true:=by
    rintro Lr br σ' A' ⟨νr,vsr,idsr,hA⟩ hi'
    obtain ⟨hA0,hsp⟩:=hA.free (σ:=σ) hfree.1.2 hfree.1.1
    obtain ⟨ν2,vs2,ids2,m1,m2,m3⟩:=h.nilB (d:=d) hA0 hm0 q3 fun k hk=>by
      obtain ⟨e,he,_⟩:=(q3 k).1 hk
      exact zco hfr k (List.getElem?_eq_some_iff.1 he).1 hk (by simp [Bl.fn])
    exact ⟨νr,ν2,vs2,ids2,hi.past_own hi1.le hi' hsp,m1,hA0.env,hA0.live,m2,m3⟩
  cases e' with
  |normal=>cases q1
  |exit i=>cases q1
  |ret=>
    cases e with
    |returned v=>
      obtain ⟨vals,σ',A',rfl,hnr,hi',hA⟩:=q2
      obtain ⟨νr,ν2,vs2,ids2,m1,m2,m3,m4,m5,m6⟩:=merge hA hi'
      cases q1
      have hres:=zfk (ρ:=Xd d []) (q:=fun i=>((unvirt (Zz S (o.2.open x1) d [] (yf s.outs r))).heap i).isSome=true) m3 m4 m5 m6
      rw [hnr] at hres
      exact ⟨_,σ,_,rfl,m1,ν2,vs2,ids2,m2.put hres.1 hres.2⟩
    |panicked chain=>exact q2.elim
    |outgrown=>exact q2.elim
  |pan A=>
    cases e with
    |returned v=>exact q2.elim
    |outgrown=>exact q2.elim
    |panicked chain=>
      obtain ⟨u,σ',A',rfl,hi',hp',hA⟩:=q2
      obtain ⟨νr,ν2,vs2,ids2,m1,m2,m3,m4,m5,m6⟩:=merge hA hi'
      cases q1
      exact ⟨_,_,u,σ,_,rfl,rfl,m1,⟨vb hpf,fun ν hν=>VR.flat hpf (hp'.2 ν hν)⟩,ν2,vs2,ids2,m2⟩
end
end Go.Px
namespace Go.Px
set_option linter.unusedSectionVars false
variable [Dfr]
set_option linter.unusedVariables false
section
variable {κ:Kp}{C:Cod}{S:St C}{n:Nat}{w0:Start}{σ0 σ:FS}{P:Program}{L:List (Nat×Value)}{b:Nat→Value}{PV:List Priv}{ν:Val}{vs:Nat→List Value}{ids:List Nat}
mutual
def AV.nxs {D:Nat→Type}:AV D→List Nat
 | .nx id _ _ _=>[id]
 | .agg cs=>AV.nxss cs
 |_=>[]
def AV.nxss {D:Nat→Type}:List (AV D)→List Nat
 |[]=>[]
 |A::As=>AV.nxs A++AV.nxss As
end
mutual
def vM {α:Type}(S:St C):AV C.D→(AV C.D→Option α)→Option α
 | .nx id T i .whole,K=>zI S id T i fun U u=>K (.sl U u false)
 | .agg cs,K=>WH S cs fun cs'=>K (.agg cs')
 |A,K=>K A
def WH {α:Type}(S:St C):List (AV C.D)→(List (AV C.D)→Option α)→Option α
 |[],K=>K []
 |A::As,K=>vM S A fun A'=>WH S As fun As'=>K (A'::As')
end
mutual
def zfl (S:St C):AV C.D→AV C.D→Prop
 | .nx id T i .whole,B=>∃ s g q U u c,S.heap id=some (.orow T s g)∧g.rd=true∧ze s i=some q∧Zk C T q = .sl U u c∧B = .sl U u false
 | .agg cs,B=>∃ ds,B = .agg ds∧vU S cs ds
 |A,B=>B=A
def vU (S:St C):List (AV C.D)→List (AV C.D)→Prop
 |[],Bs=>Bs=[]
 |A::As,Bs=>∃ B Bs',Bs=B::Bs'∧zfl S A B∧vU S As Bs'
end
omit [Dfr] in
theorem zjM {α:Type}{id T:Nat}{i:Int}{K:(U:Nat)→Sl (C.D U)→Option α}{a:α}(h:zI S id T i K=some a):∃ s g q U u c,S.heap id=some (.orow T s g)∧g.rd=true∧ze s i=some q∧Zk C T q = .sl U u c∧K U u=some a:=by
 unfold zI at h
 split at h
 ·rename_i T' s g hs
  obtain ⟨hc,h⟩:=zb h
  simp only [Bool.and_eq_true] at hc
  obtain rfl:=Nat.eq_of_beq_eq_true hc.1
  obtain ⟨q,hq,h⟩:=Option.bind_eq_some_iff.1 h
  split at h
  ·rename_i U u c hu
   exact ⟨s,g,q,U,u,c,hs,hc.2,hq,hu,h⟩
  ·cases h
 ·cases h
omit [Dfr] in
mutual
theorem zrh {α:Type}{r:α}:∀ {A:AV C.D}{K:AV C.D→Option α},vM S A K=some r→∃ B,K B=some r∧zfl S A B
 | .nx id T i .whole,K,h=>by
  obtain ⟨s,g,q,U,u,c,h1,h2,h3,h4,h5⟩:=zjM h
  exact ⟨_,h5,s,g,q,U,u,c,h1,h2,h3,h4,rfl⟩
 | .agg cs,K,h=>by
  obtain ⟨ds,h1,h2⟩:=zbd (As:=cs) h
  exact ⟨_,h1,ds,rfl,h2⟩
 | .nx _ _ _ (.part _ _ _),K,h=>⟨_,h,rfl⟩
 | .nx _ _ _ (.elem _ _ _),K,h=>⟨_,h,rfl⟩
 | .int _ _,K,h=>⟨_,h,rfl⟩
 | .bool _,K,h=>⟨_,h,rfl⟩
 | .str _,K,h=>⟨_,h,rfl⟩
 | .tup _,K,h=>⟨_,h,rfl⟩
 | .sl _ _ _,K,h=>⟨_,h,rfl⟩
 | .row _,K,h=>⟨_,h,rfl⟩
 | .pc _ _,K,h=>⟨_,h,rfl⟩
 | .pr _ _ _ _,K,h=>⟨_,h,rfl⟩
 | .pz _ _ _,K,h=>⟨_,h,rfl⟩
 | .pnil,K,h=>⟨_,h,rfl⟩
 | .nils,K,h=>⟨_,h,rfl⟩
 | .clo _ _,K,h=>⟨_,h,rfl⟩
 | .nilf,K,h=>⟨_,h,rfl⟩
 | .ifc _ _,K,h=>⟨_,h,rfl⟩
 | .nili,K,h=>⟨_,h,rfl⟩
 | .und,K,h=>⟨_,h,rfl⟩
theorem zbd {α:Type}{r:α}:∀ {As:List (AV C.D)}{K:List (AV C.D)→Option α},WH S As K=some r→∃ Bs,K Bs=some r∧vU S As Bs
 |[],K,h=>⟨_,h,rfl⟩
 |A::As,K,h=>by
  obtain ⟨B,h1,h2⟩:=zrh (A:=A) h
  obtain ⟨Bs,h3,h4⟩:=zbd (As:=As) h1
  exact ⟨_,h3,B,Bs,rfl,h2,h4⟩
end
omit [Dfr] in
mutual
theorem zmQ {α β:Type}{k:α→Option β}:∀ {A:AV C.D}{K:AV C.D→Option α},(vM S A K).bind k=vM S A fun B=>(K B).bind k
 | .nx id T i .whole,K=>by
  show (zI S id T i _).bind k=zI S id T i _
  unfold zI
  split
  ·cases hc:(Nat.beq T _ && Own.rd _) with
   |false=>rfl
   |true=>
    show ((ze _ i).bind _).bind k=(ze _ i).bind _
    rw [Option.bind_assoc]
    congr 1;funext q
    split <;> rfl
  ·rfl
 | .agg cs,K=>zbe (As:=cs)
 | .nx _ _ _ (.part _ _ _),K=>rfl
 | .nx _ _ _ (.elem _ _ _),K=>rfl
 | .int _ _,K=>rfl
 | .bool _,K=>rfl
 | .str _,K=>rfl
 | .tup _,K=>rfl
 | .sl _ _ _,K=>rfl
 | .row _,K=>rfl
 | .pc _ _,K=>rfl
 | .pr _ _ _ _,K=>rfl
 | .pz _ _ _,K=>rfl
 | .pnil,K=>rfl
 | .nils,K=>rfl
 | .clo _ _,K=>rfl
 | .nilf,K=>rfl
 | .ifc _ _,K=>rfl
 | .nili,K=>rfl
 | .und,K=>rfl
theorem zbe {α β:Type}{k:α→Option β}:∀ {As:List (AV C.D)}{K:List (AV C.D)→Option α},(WH S As K).bind k=WH S As fun Bs=>(K Bs).bind k
 |[],K=>rfl
 |A::As,K=>by
  show (vM S A _).bind k=vM S A _
  rw [zmQ (A:=A)]
  congr 1;funext B
  exact zbe (As:=As)
end
def AV.bas {D:Nat→Type}:AV D→Bool
 | .agg cs=>cs.all AV.base
 |A=>A.base
def FzR (C:Cod) (S:St C) (ν:Val) (τ:FS) (l:List Nat):Prop:=∀ id∈l,∀ T s g,S.heap id=some (.orow T s g)→g.rd=true→∀ i q U u c,ze s i=some q→Zk C T q = .sl U u c→Rv C τ ((ν.adr id).sub i.toNat) (.sl U u c)
omit [Dfr] in
theorem zri (h:AbsL κ S ν vs ids L b σ PV) (id:Nat) {w:World}(hi:Inv w0 σ0 σ PV w):∃ σ' PV' ids',Inv w0 σ0 σ' PV' w∧AbsL κ (S.frz1 id) ν vs ids' L b σ' PV'∧σ.le σ'∧FzR C S ν σ' [id]:=by
 unfold St.frz1
 split
 ·rename_i T s hs
  obtain ⟨m,hm,hid⟩:=h.at hs
  obtain ⟨h1,hh,hsub,hle,hi'⟩:=hi.freeze hm
  have hh:zn (zw C T).o T (ν.hdr id) s σ h1:=hh
  refine ⟨_,_,_,hi',h.sub hid hle ((Rv.of_vrel (hh.fast hle fun b o v e=>wi b o v e)).vr) trivial rfl,hle,?_⟩
  intro j hj T' s' g he
  rw [List.mem_singleton.1 hj,hs] at he;cases he
 ·rename_i T s g hs
  cases hg:g.rd with
  |false=>
   refine ⟨σ,PV,ids,hi,h,.refl σ,?_⟩
   intro j hj T' s' g' he hg'
   rw [List.mem_singleton.1 hj,hs] at he;cases he
   rw [hg] at hg';cases hg'
  |true=>
   obtain ⟨m,hm,hid⟩:=h.at hs
   obtain ⟨h1,hh,hsub,hle,hi'⟩:=hi.freeze hm
   have hh:zn (Zc C T) T (ν.hdr id) (hpl C T (ν.adr id).sub s g) σ h1:=hh
   have hv:=hh.fast hle fun b o v e=>wi b o v e
   refine ⟨_,_,_,hi',h.sub hid hle ((Rv.of_vrel (zhx hg hv)).vr) trivial rfl,hle,?_⟩
   intro j hj T' s' g' he hg' i q U u c hq hu
   have hj:=List.mem_singleton.1 hj
   subst hj
   rw [hs] at he;cases he
   exact zq3 hg hv hq hu
 ·rename_i h1 h2
  refine ⟨σ,PV,ids,hi,h,.refl σ,?_⟩
  intro j hj T' s' g' he
  rw [List.mem_singleton.1 hj] at he
  exact absurd he (h2 T' s' g')
omit [Dfr] in
theorem zmR {id j T:Nat}{s:Sl (C.D T)}{g:Own}(hne:j≠id) (h:S.heap j=some (.orow T s g)):(S.frz1 id).heap j=some (.orow T s g):=by
 have key:∀ R:AV C.D,(S.sub id R).heap j=some (.orow T s g):=fun R=>by
  show (bif Nat.beq j id then none else (S.heap j).map _)=_
  cases hb:Nat.beq j id with
  |true=>exact absurd (Nat.eq_of_beq_eq_true hb) hne
  |false=>rw [h];rfl
 unfold St.frz1
 split
 ·exact key _
 ·rename_i T' s' g' _
  cases g'.rd with
  |true=>exact key _
  |false=>exact h
 ·exact h
omit [Dfr] in
theorem zhL:∀ (l:List Nat) {S:St C}{σ:FS}{PV:List Priv}{ids:List Nat}(h:AbsL κ S ν vs ids L b σ PV) {w:World}(hi:Inv w0 σ0 σ PV w),∃ σ' PV' ids',Inv w0 σ0 σ' PV' w∧AbsL κ (S.frz l) ν vs ids' L b σ' PV'∧σ.le σ'∧FzR C S ν σ' l
 |[],S,σ,PV,ids,h,w,hi=>⟨σ,PV,ids,hi,h,.refl σ,fun id hid=>by cases hid⟩
 |id::r,S,σ,PV,ids,h,w,hi=>by
  obtain ⟨σ1,PV1,ids1,hi1,h1,l1,f1⟩:=zri h id hi
  obtain ⟨σ2,PV2,ids2,hi2,h2,l2,f2⟩:=zhL r h1 hi1
  refine ⟨σ2,PV2,ids2,hi2,h2,l1.trans l2,?_⟩
  intro j hj T s g he hg i q U u c hq hu
  by_cases e:j=id
  ·exact (f1 j (by simp [e]) T s g he hg i q U u c hq hu).mono l2
  ·have hj':j∈r:=by
    rcases List.mem_cons.1 hj with z | z
    ·exact absurd z e
    ·exact z
   exact f2 j hj' T s g (zmR e he) hg i q U u c hq hu
omit [Dfr] in
mutual
theorem zfl.vr {τ:FS}{l:List Nat}(hl:σ.le τ) (hf:FzR C S ν τ l):∀ {A B:AV C.D}{v:Value},zfl S A B→(∀ j∈A.nxs,j∈l)→VR C σ ν v A→VR C τ ν v B
 | .nx id T i .whole,B,v,⟨s,g,q,U,u,c,h1,h2,h3,h4,h5⟩,hm,r=>by
  subst h5
  have:=hf id (hm id (by simp [AV.nxs])) T s g h1 h2 i q U u c h3 h4
  rw [show v=(ν.adr id).sub i.toNat from r.1]
  exact (Rv.of_vrel this.vrel).vr
 | .agg cs,B,v,⟨ds,e,h⟩,hm,⟨vs,e2,r⟩=>by
  subst e
  exact ⟨vs,e2,vU.vr hl hf h hm r⟩
 | .nx _ _ _ (.part _ _ _),B,v,h,hm,r=>by rw [show B=_ from h];exact r.mono hl
 | .nx _ _ _ (.elem _ _ _),B,v,h,hm,r=>by rw [show B=_ from h];exact r.mono hl
 | .int _ _,B,v,h,hm,r=>by rw [show B=_ from h];exact r.mono hl
 | .bool _,B,v,h,hm,r=>by rw [show B=_ from h];exact r.mono hl
 | .str _,B,v,h,hm,r=>by rw [show B=_ from h];exact r.mono hl
 | .tup _,B,v,h,hm,r=>by rw [show B=_ from h];exact r.mono hl
 | .sl _ _ _,B,v,h,hm,r=>by rw [show B=_ from h];exact r.mono hl
 | .row _,B,v,h,hm,r=>by rw [show B=_ from h];exact r.mono hl
 | .pc _ _,B,v,h,hm,r=>by rw [show B=_ from h];exact r.mono hl
 | .pr _ _ _ _,B,v,h,hm,r=>by rw [show B=_ from h];exact r.mono hl
 | .pz _ _ _,B,v,h,hm,r=>by rw [show B=_ from h];exact r.mono hl
 | .pnil,B,v,h,hm,r=>by rw [show B=_ from h];exact r.mono hl
 | .nils,B,v,h,hm,r=>by rw [show B=_ from h];exact r.mono hl
 | .clo _ _,B,v,h,hm,r=>by rw [show B=_ from h];exact r.mono hl
 | .nilf,B,v,h,hm,r=>by rw [show B=_ from h];exact r.mono hl
 | .ifc _ _,B,v,h,hm,r=>by rw [show B=_ from h];exact r.mono hl
 | .nili,B,v,h,hm,r=>by rw [show B=_ from h];exact r.mono hl
 | .und,B,v,h,hm,r=>by rw [show B=_ from h];trivial
theorem vU.vr {τ:FS}{l:List Nat}(hl:σ.le τ) (hf:FzR C S ν τ l):∀ {As Bs:List (AV C.D)}{us:List Value},vU S As Bs→(∀ j∈AV.nxss As,j∈l)→VRs C σ ν us As→VRs C τ ν us Bs
 |[],Bs,[],h,_,_=>by rw [show Bs=[] from h];trivial
 |A::As,Bs,u::us,⟨B,Bs',e,h1,h2⟩,hm,⟨r1,r2⟩=>by
  subst e
  exact ⟨zfl.vr hl hf h1 (fun j hj=>hm j (by simp only [AV.nxss,List.mem_append];exact .inl hj)) r1,vU.vr hl hf h2 (fun j hj=>hm j (by simp only [AV.nxss,List.mem_append];exact .inr hj)) r2⟩
 |[],_,_::_,_,_,r=>r.elim
 |_::_,_,[],_,_,r=>r.elim
end
def zan {D:Nat→Type}:List (AV D)→List (AV D)→Nat→Option (AV D)
 |A::_,B::_,0=>bif A.nxs.isEmpty then none else some B
 |_::As,_::Bs,t+1=>zan As Bs t
 |_,_,_=>none
def zeu (S:St C) (As Bs:List (AV C.D)):St C:=
  let T:=(virt S As).frz (AV.nxss As)
  {env:=fun t=>bif Nat.blt t vB then T.env t else match zan As Bs (t - vB) with
      |some B=>B
      |none=>T.env t,heap:=T.heap}
def okX {D:Nat→Type}:List (AV D)→List (AV D)→Bool
 |A::As,B::Bs=>(A.nxs.isEmpty || B.bas) && okX As Bs
 |_,_=>true
omit [Dfr] in
theorem VR.bas {σ:FS}{ν ν':Val}{A:AV C.D}{v:Value}(h:A.bas=true) (r:VR C σ ν v A):VR C σ ν' v A∧A.ok (fun _=>False):=by
 by_cases e:∃ cs,A = .agg cs
 ·obtain ⟨cs,rfl⟩:=e
  obtain ⟨vs,e,r⟩:=r
  have hb:∀ B∈cs,B.base=true:=fun B hB=>List.all_eq_true.1 h B hB
  refine ⟨⟨vs,e,.of r.len fun j u B h1 h2=>((r.rel h1 h2).rv (hb B (List.mem_of_getElem? h2))).vr⟩,?_⟩
  exact AV.oks_iff.2 fun B hB=>Vg (hb B hB)
 ·have hb:A.base=true:=by
   cases A <;> first | exact h | exact absurd ⟨_,rfl⟩ e
  exact ⟨(r.rv hb).vr,Vg hb⟩
omit [Dfr] in
theorem zfm {ν':Val}{τ:FS}{l:List Nat}(hl:σ.le τ) (hf:FzR C S ν τ l):∀ {As Bs:List (AV C.D)}{us:List Value}{t:Nat}{B:AV C.D},vU S As Bs→okX As Bs=true→(∀ j∈AV.nxss As,j∈l)→VRs C σ ν us As→zan As Bs t=some B→VR C τ ν' ((us[t]?).getD undef) B∧B.ok (fun _=>False)
 |A::As,B0::Bs,u::us,0,B,⟨B1,Bs1,e,h1,h2⟩,hk,hm,⟨r1,r2⟩,hs=>by
  cases e
  simp only [okX,Bool.and_eq_true] at hk
  unfold zan at hs
  cases hn:A.nxs.isEmpty with
  |true=>rw [hn] at hs;cases hs
  |false=>
   rw [hn] at hs hk
   cases hs
   have:=zfl.vr hl hf h1 (fun j hj=>hm j (by simp only [AV.nxss,List.mem_append];exact .inl hj)) r1
   exact VR.bas (by simpa using hk.1) this
 |A::As,B0::Bs,u::us,t+1,B,⟨B1,Bs1,e,h1,h2⟩,hk,hm,⟨r1,r2⟩,hs=>by
  cases e
  simp only [okX,Bool.and_eq_true] at hk
  have:=zfm (ν':=ν') hl hf (t:=t) h2 hk.2 (fun j hj=>hm j (by simp only [AV.nxss,List.mem_append];exact .inr hj)) r2 hs
  simpa using this
 |[],Bs,us,t,B,h,_,_,_,hs=>by
  rw [show Bs=[] from h] at hs
  cases t <;> cases hs
 |A::As,[],us,t,B,⟨_,_,e,_⟩,_,_,_,hs=>by cases e
 |A::As,B0::Bs,[],t,B,_,_,_,r,hs=>r.elim
omit [Dfr] in
theorem znM (h:AbsL κ S ν vs ids L b σ PV) {us:List Value}{As Bs:List (AV C.D)}(hr:VRs C σ ν us As) (hlive:AV.oks (fun id=>(S.heap id).isSome=true) As) (hk:okX As Bs=true) (hR:vU S As Bs) {w:World}{w0:Start}{σ0:FS}(hi:Inv w0 σ0 σ PV w) :
    ∃ σ1 PV1,Inv w0 σ0 σ1 PV1 w∧zC κ (zeu S As Bs) [] (yg L b us) σ1 PV1:=by
  obtain ⟨σ1,PV1,ids1,hi1,h1,l1,f1⟩:=zhL (AV.nxss As) (h.virt hr hlive) hi
  have f1':FzR C S ν σ1 (AV.nxss As):=f1
  refine ⟨σ1,PV1,hi1,ν,vs,ids1,⟨h1.nd,h1.dom,h1.pv,h1.cell,fun t=>?_,h1.one⟩,fun t=>?_,h1.livec,h1.keep⟩
  · show VR C σ1 ν (look [] (yg L b us) t) (bif Nat.blt t vB then _ else match zan As Bs (t - vB) with | some B=>B | none=>_)
    cases hb:Nat.blt t vB with
    |true=>exact h1.env t
    |false=>
      simp only [cond_false]
      cases hs:zan As Bs (t - vB) with
      |none=>exact h1.env t
      |some B=>
        have:=(zfm (ν':=ν) l1 f1' hR hk (fun j hj=>hj) hr hs).1
        show VR C σ1 ν (yg L b us t) B
        unfold yg
        rw [hb];exact this
  · show (bif Nat.blt t vB then _ else match zan As Bs (t - vB) with | some B=>B | none=>_:AV C.D).ok _
    cases hb:Nat.blt t vB with
    |true=>exact h1.live t
    |false=>
      simp only [cond_false]
      cases hs:zan As Bs (t - vB) with
      |none=>exact h1.live t
      |some B=>exact AV.ok_mono (fun _ h=>h.elim) (zfm (ν':=ν) l1 f1' hR hk (fun j hj=>hj) hr hs).2
def wl (S:St C) (id:Nat):List Nat:=match S.heap id with
 |some (.cell cs)=>AV.rowss cs
 |_=>[]
def Wb {α:Type}:List (Nat×Sh)→St C→(St C→Option α)→Option α
 |[],T,K=>K T
 |(t,s)::ts,T,K=>match s,T.env (vB+t) with
  | .pz T0 _,.pc id off=>(match (T.frz (wl T id)).heap id with
   |some (.cell cs)=>(C.imp T0 cs).bind fun q=>Wb ts {env:=upd ((T.frz (wl T id)).sub id .und).env (vB+t) (.pz T0 q off),heap:=((T.frz (wl T id)).sub id .und).heap} K
   |_=>none)
  |_,_=>Wb ts T K
omit [Dfr] in
theorem zbf {α β:Type}{k:α→Option β}:∀ {ts:List (Nat×Sh)}{T:St C}{K:St C→Option α},(Wb ts T K).bind k=Wb ts T fun T'=>(K T').bind k
 |[],T,K=>rfl
 |(t,s)::ts,T,K=>by
  unfold Wb
  split
  ·split
   ·rw [Option.bind_assoc]
    congr 1;funext q
    exact zbf
   ·rfl
  ·exact zbf
omit [Dfr] in
theorem zC.envv {T:St C}{L:List (Nat×Value)}{b:Nat→Value}(h:AbsL κ T ν vs ids L b σ PV) {t:Nat}{A:AV C.D}(hv:VR C σ ν (look L b t) A) (ho:A.ok fun id=>(T.heap id).isSome=true):AbsL κ {env:=upd T.env t A,heap:=T.heap} ν vs ids L b σ PV:=by
 refine ⟨⟨h.nd,h.dom,h.pv,h.cell,fun i=>?_,h.one⟩,fun i=>?_,h.livec,h.keep⟩
 ·show VR C σ ν _ (upd T.env t A i)
  by_cases e:i=t
  ·subst e;rw [zp];exact hv
  ·rw [zr e];exact h.env i
 ·show (upd T.env t A i).ok _
  by_cases e:i=t
  ·subst e;rw [zp];exact ho
  ·rw [zr e];exact h.live i
omit [Dfr] in
theorem zrj {T:St C}{L:List (Nat×Value)}{b:Nat→Value}(h:AbsL κ T ν vs ids L b σ PV) {t id off T0:Nat}{cs:List (AV C.D)}{q:C.D T0}(he:look L b t = .pointer (some ((ν.adr id).a.add off))) (hc:T.heap id=some (.cell cs)) (hq:C.imp T0 cs=some q) {w:World}{w0:Start}{σ0:FS}(hi:Inv w0 σ0 σ PV w) :
    ∃ σ1 PV1,Inv w0 σ0 σ1 PV1 w∧zC κ {env:=upd (T.sub id .und).env t (.pz T0 q off),heap:=(T.sub id .und).heap} L b σ1 PV1:=by
  obtain ⟨m,hm,hid⟩:=h.at hc
  obtain ⟨h1,hh,hsub,hle,hi'⟩:=hi.freeze hm
  have hh:ZZ (ν.adr id).a (vs id) h1:=hh
  have h2:=h.sub hid hle (R :=.und) trivial trivial rfl
  refine ⟨_,_,hi',ν,vs,_,zC.envv h2 (A :=.pz T0 q off) ?_ trivial⟩
  rw [he]
  have hcv:=(h.cell id cs hc).mono hle
  have hrel:=XW (ν:=ν) hcv hq
  have hlen:=hrel.1
  refine Rv.pz (fun j=>((vs id)[j]?).getD default) (fun j A hj=>?_) (fun j A hj=>?_)
  · obtain ⟨u,e1,e2⟩:=hrel.2 j A hj
    rw [e1]
    rw [Addr.add_eq _ hh.1]
    simpa [FS.cell] using wi (σ:=σ) _ _ _ (hh.2 j u e1)
  · obtain ⟨u,e1,e2⟩:=hrel.2 j A hj
    rw [e1];exact e2
omit [Dfr] in
theorem vV {α:Type}{r:α}:∀ {ts:List (Nat×Sh)}{T:St C}{K:St C→Option α},Wb ts T K=some r→
    ∃ T',K T'=some r∧∀ {κ:Kp} {L:List (Nat×Value)} {b:Nat→Value} {us:List Value} {w:World} {w0:Start} {σ0 σ:FS} {PV:List Priv},zC κ T [] (yg L b us) σ PV→Inv w0 σ0 σ PV w→∃ σ1 PV1,Inv w0 σ0 σ1 PV1 w∧zC κ T' [] (yg L b us) σ1 PV1
  |[],T,K,h=>⟨T,h,fun hA hi=>⟨_,_,hi,hA⟩⟩
  |(t,s)::ts,T,K,h=>by
    unfold Wb at h
    split at h
    · rename_i T0 o id off e
      split at h
      · rename_i cs hcs
        obtain ⟨q,hq,h⟩:=Option.bind_eq_some_iff.1 h
        obtain ⟨T',h1,h2⟩:=vV h
        refine ⟨T',h1,fun hA hi=>?_⟩
        obtain ⟨ν,vs,ids,hA⟩:=hA
        have he:=hA.env (vB+t)
        rw [e] at he
        obtain ⟨σ1,PV1,ids1,hi1,h3,_,_⟩:=zhL (wl T id) hA hi
        obtain ⟨σ2,PV2,hi2,h4⟩:=zrj h3 he hcs hq hi1
        exact h2 h4 hi2
      · cases h
    · exact vV h
def Xf (Γ:List (Spec C)) (S:St C) (d f:Nat) (As:List (AV C.D)):Option (Out C):=match Γ with
  |[]=>none
  |s :: Γ=>bif Nat.beq s.f f && (s.view || s.viewO) then WH S As fun Bs=>chk (okX As Bs) (Wb s.ins.ts (zeu S As Bs) fun T=>match xp s.ins T As.length with
     |some (_,_,x)=>bif s.view then Ya s d S x else yK s d S x
     |none=>none) else Xf Γ S d f As
def xq (Γ0 Γ:List (Spec C)) (S:St C) (d f:Nat) (As:List (AV C.D)):Option (Out C):=match Γ with
 |[]=>Xf Γ0 S d f As
 |s::Γ=>bif Nat.beq s.f f then (match xA s.ins S As with
  |some (S2,bl,x)=>bif s.view then Ya s d S x else bif s.viewO then yK s d S x else Xe s d S2 bl x
  |none=>xq Γ0 Γ S d f As) else xq Γ0 Γ S d f As
def Vt (Γ:List (Spec C)) (S:St C) (d f:Nat) (As:List (AV C.D)):Option (Out C):=xq Γ Γ S d f As
omit [Dfr] in
theorem zev (hgl:C.gl w0.w σ0) {d:Nat}{f:FuncId}{As:List (AV C.D)}{us:List Value}{out:Out C}(h:AbsL κ S ν vs ids L b σ PV) (hr:VRs C σ ν us As) (hlive:AV.oks (fun id=>(S.heap id).isSome=true) As) {w:World}(hi:Inv w0 σ0 σ PV w):∀ {Γ:List (Spec C)},(∀ s∈Γ,s.OK P)→Xf Γ S d f As=some out→
    ∃ fn, P.funcs[f]? = some fn ∧ (fn.name == "runtime.NumGoroutine") = false ∧ fn.body.isNone = false ∧ Calls P f us.toArray w fun e w' => match e with
      | .returned v=>∃ S' σ' PV',out = .go S'∧Inv w0 σ0 σ' PV' w'∧zC κ S' ((d,v)::L) b σ' PV'
      | .panicked chain=>∃ A S' u σ' PV',out = .pan A S'∧chain=[{v:=u,recovered:=false}]∧Inv w0 σ0 σ' PV' w'∧wj C σ' u A∧zC κ S' L b σ' PV'
      | .outgrown=>False
  |[],_,ho=>by cases ho
  |s::Γ,hΓ,ho=>by
    unfold Xf at ho
    cases hf:(Nat.beq s.f f && (s.view || s.viewO)) with
    |false=>
      rw [hf,cond_false] at ho
      exact zev hgl h hr hlive hi (fun s hs=>hΓ s (List.mem_cons_of_mem _ hs)) ho
    |true=>
      rw [hf,cond_true] at ho
      simp only [Bool.and_eq_true,Bool.or_eq_true] at hf
      have:=Nat.eq_of_beq_eq_true hf.1
      subst this
      obtain ⟨Bs,ho,hR⟩:=zbd ho
      obtain ⟨hk,ho⟩:=zb ho
      obtain ⟨T,hT,hTA⟩:=vV ho
      have hTi:∀ w0 σ0,Inv w0 σ0 σ PV w→∃ σ1 PV1,Inv w0 σ0 σ1 PV1 w∧zC κ T [] (yg L b us) σ1 PV1:=fun w0 σ0 hi=>by
        obtain ⟨σ1,PV1,hi1,hA1⟩:=znM h hr hlive hk hR hi
        exact hTA hA1 hi1
      obtain ⟨fn,h1,h2,h3,_⟩:=hΓ s (by simp)
      split at hT
      · rename_i S2 bl x hl
        have hN:us.length=As.length:=hr.len
        cases hv:s.view with
        |true=>rw [hv] at hT;exact ⟨fn,h1,h2,h3,zdA (hΓ s (by simp)) hgl hl hN h hT hi hTi⟩
        |false=>
          rw [hv] at hT
          have hvo:s.viewO=true:=by rcases hf.2 with z | z;· rw [hv] at z;cases z
                                    · exact z
          exact ⟨fn,h1,h2,h3,zdB (hΓ s (by simp)) hvo hgl hl hN h hT hi hTi⟩
      · cases hT
omit [Dfr] in
theorem zbg (hgl:C.gl w0.w σ0) {d:Nat}{f:FuncId}{As:List (AV C.D)}{us:List Value}{out:Out C}(h:AbsL κ S ν vs ids L b σ PV) (hr:VRs C σ ν us As) (hlive:AV.oks (fun id=>(S.heap id).isSome=true) As) {w:World}(hi:Inv w0 σ0 σ PV w):∀ {Γ0 Γ:List (Spec C)},(∀ s∈Γ0,s.OK P)→(∀ s∈Γ,s.OK P)→xq Γ0 Γ S d f As=some out→
    ∃ fn, P.funcs[f]? = some fn ∧ (fn.name == "runtime.NumGoroutine") = false ∧ fn.body.isNone = false ∧ Calls P f us.toArray w fun e w' => match e with
      | .returned v=>∃ S' σ' PV',out = .go S'∧Inv w0 σ0 σ' PV' w'∧zC κ S' ((d,v)::L) b σ' PV'
      | .panicked chain=>∃ A S' u σ' PV',out = .pan A S'∧chain=[{v:=u,recovered:=false}]∧Inv w0 σ0 σ' PV' w'∧wj C σ' u A∧zC κ S' L b σ' PV'
      | .outgrown=>False
  |Γ0,[],hΓ0,_,ho=>zev hgl h hr hlive hi hΓ0 ho
  |Γ0,s::Γ,hΓ0,hΓ,ho=>by
    unfold xq at ho
    cases hf:Nat.beq s.f f with
    |false=>
      rw [hf,cond_false] at ho
      exact zbg hgl h hr hlive hi hΓ0 (fun s hs=>hΓ s (List.mem_cons_of_mem _ hs)) ho
    |true=>
      rw [hf,cond_true] at ho
      have:=Nat.eq_of_beq_eq_true hf
      subst this
      split at ho
      · rename_i S2 bl x hl
        have hs:=hΓ s (by simp)
        obtain ⟨fn,h1,h2,h3,_⟩:=hs
        cases hv:s.view with
        |true=>rw [hv] at ho;exact ⟨fn,h1,h2,h3,zdA (hΓ s (by simp)) hgl (T:=virt S As) (N:=As.length) hl hr.len h ho hi (fun w0 σ0 hi=>⟨σ,PV,hi,ν,vs,ids,h.virt hr hlive⟩)⟩
        |false=>
          rw [hv,cond_false] at ho
          cases hv2:s.viewO with
          |true=>rw [hv2] at ho;exact ⟨fn,h1,h2,h3,zdB (hΓ s (by simp)) hv2 hgl (T:=virt S As) (N:=As.length) hl hr.len h ho hi (fun w0 σ0 hi=>⟨σ,PV,hi,ν,vs,ids,h.virt hr hlive⟩)⟩
          |false=>rw [hv2] at ho;exact ⟨fn,h1,h2,h3,zjL (hΓ s (by simp)) hgl hl h hr hlive ho hi⟩
      · exact zbg hgl h hr hlive hi hΓ0 (fun s hs=>hΓ s (List.mem_cons_of_mem _ hs)) ho
omit [Dfr] in
theorem zmS (hgl:C.gl w0.w σ0) {d:Nat}{f:FuncId}{As:List (AV C.D)}{us:List Value}{out:Out C}(h:AbsL κ S ν vs ids L b σ PV) (hr:VRs C σ ν us As) (hlive:AV.oks (fun id=>(S.heap id).isSome=true) As) {w:World}(hi:Inv w0 σ0 σ PV w) {Γ:List (Spec C)}(hΓ:∀ s∈Γ,s.OK P) (ho:Vt Γ S d f As=some out) :
    ∃ fn, P.funcs[f]? = some fn ∧ (fn.name == "runtime.NumGoroutine") = false ∧ fn.body.isNone = false ∧ Calls P f us.toArray w fun e w' => match e with
      | .returned v=>∃ S' σ' PV',out = .go S'∧Inv w0 σ0 σ' PV' w'∧zC κ S' ((d,v)::L) b σ' PV'
      | .panicked chain=>∃ A S' u σ' PV',out = .pan A S'∧chain=[{v:=u,recovered:=false}]∧Inv w0 σ0 σ' PV' w'∧wj C σ' u A∧zC κ S' L b σ' PV'
      | .outgrown=>False:=zbg hgl h hr hlive hi hΓ hΓ ho
end
end Go.Px
