/- Part A4. -/
import Derived.Test.YtnkjgenigoecjaaGreatDoorB3
import Derived.Scope
set_option linter.unusedSectionVars false
set_option linter.unusedVariables false
set_option linter.unusedSimpArgs false
namespace Go.Px
open Bool renaming true->E,false->H
open Go.Region renaming wanted->Y
open List renaming map_map->qc,range'->qk,range->qo,pairwise_map->qs,filter_sublist->qv,range_eq_range'->qA,nodup_append->qB,mem_iff_getElem?->qC,map_append->qD,isEmpty_iff->qE,eq_nil_iff_forall_not_mem->qF
open List.Nodup renaming sublist->qy
open List.Pairwise renaming imp_of_mem->qx
open Nat renaming blt->O,beq->W,ble->X
open _root_.Option renaming some->G,none->M,some->qb
section
theorem DB:∀{α:Type _}{b:α}{α_1:Type _}{x:Option α_1}{f:α_1->α},Option.map f x=G b↔∃a,x=G a/\f a=b:=@Option.map_eq_some_iff
variable [Dfr]
section
variable {κ:Kp}{C:Cod}{S:St C}{n:Nat}{w0:Start}{σ0:FS}{P:Program}{ρ:Type}{stp:yM C}{dr:Yz C}{lp:ZW}{hs:Nat->U7 Hint}
def At(n:Nat)(w0:Start)(σ0:FS)(κ:Kp)(S:St C)(a:Act)(w:World):Prop:=∃L b Z PV,zy κ S L b Z PV/\Inv w0 σ0 Z PV w/\Fits n L b a
def AtP(n:Nat)(w0:Start)(σ0:FS)(κ:Kp)(v:AV C.D)(S:St C)(chain:List PanicEntry)(a:Act)(w:World):Prop:=∃u L b Z PV,chain=[{v:=u,recovered:=false}]/\Xy C Z u v/\zy κ S L b Z PV/\Inv w0 σ0 Z PV w/\Fits n L b a
def Zi(n:Nat)(w0:Start)(σ0:FS)(κ:Kp)(K:XE C->St C->U7 ρ)(r:ρ):Exit->Act->World->Prop
 | .normal,a,w=>∃S',K .normal S'=G r/\At n w0 σ0 κ S' a w
 | .exit i,a,w=>∃S',K (.exit i) S'=G r/\At n w0 σ0 κ S' a w
 | .ret,a,w=>∃S',K .ret S'=G r/\At n w0 σ0 κ S' a w
 | .panic chain,a,w=>∃v S',K (.pan v) S'=G r/\AtP n w0 σ0 κ v S' chain a w
 |_,_,_=>False
def zfs(n:Nat)(w0:Start)(σ0:FS)(κ:Kp)(S:St C)(e:XE C)(x:Exit)(a:Act)(w:World):Prop:=match e,x with
 | .normal,.normal=>At n w0 σ0 κ S a w
 | .exit i,.exit j=>i=j/\At n w0 σ0 κ S a w
 | .ret,.ret=>At n w0 σ0 κ S a w
 | .pan v,.panic chain=>AtP n w0 σ0 κ v S chain a w
 |_,_=>False
def zkV(P:Program)(n:Nat)(κ:Kp)(stp:Oper->St C->U7 (Out C)):Prop:=
 ∀(w0:Start) (σ0:FS),C.gl w0.w σ0->∀(o:Oper) (S:St C) L b Z PV,zy κ S L b Z PV->OpA κ P n w0 σ0 o (stp o S) L b Z PV
def xP(P:Program)(n:Nat)(κ:Kp)(stp:yM C):Prop:=zkV P n κ (λo S=>stp o S _ G)/\∀(o:Oper) (S:St C) (ρ:Type) (k:Out C->U7 ρ),stp o S ρ k=(stp o S _ G).bind k
def vG(P:Program)(n:Nat)(κ:Kp)(dr:Yz C):Prop:=
 ∀(w0:Start) (σ0:FS),C.gl w0.w σ0->∀(ρ:Type) (id:Nat) (ops:Array Oper) (ord:List (Nat×Bool)) (S:St C) (K:XE C->St C->U7 ρ) (r:ρ),dr ops ord ρ S K=G r->∀(a:Act) (w:World),At n w0 σ0 κ S a w->(Code.region id ops E).wp P (Zi n w0 σ0 κ K r) a w
def xw(lp:ZW):Prop:=∀{s β:Type}(f:s->U7 (Step s β)) (x:s) (y:β),lp f x=G y->∃k,Z9 f k x=G y
theorem At.close{g:Sig}{x:g.ty C}{a:Act}{w:World}(hc:g.close κ.m S=G x)(h:At n w0 σ0 κ S a w):At n w0 σ0 κ (g.open x) a w:=by
 let⟨L,b,Z,PV,hA,hi,hf⟩:=h;let⟨Z',PV',hi',h'⟩:=zdF hc hA hi;exact⟨L,b,Z',PV',h',hi',hf⟩
theorem w8{g:Sig}{x:g.ty C}{L:List (Nat×Value)}{b:Nat->Value}{Z:FS}{PV:List Priv}{w:World}(hc:g.close κ.m S=G x)(hA:zy κ S L b Z PV)(hi:Inv w0 σ0 Z PV w):∃Z' PV',Z.le Z'/\Inv w0 σ0 Z' PV' w/\zy κ (g.open x) L b Z' PV':=by
 let⟨g1,hsep,hg⟩:=hi.own;let⟨Z',PV',hi',h'⟩:=zdF (w0:=⟨w,g1⟩) (σ0:=Z) hc hA (w:=w) ⟨hi.sub,.refl Z,λb o v hb =>.inl hb,⟨g1,hsep,hg.sub,hg.apart,λb i e =>.inr e⟩,.refl w g1⟩;refine⟨Z',PV',hi'.le,?_,h'⟩;let⟨g2,hsep2,hg2⟩:=hi'.own;refine⟨hi'.sub,hi.le.trans hi'.le,λb o v hb=>?_,⟨g2,hsep2,hg2.sub,hg2.apart,λb i e=>?_⟩,hi.ext⟩
 ·rcases hi'.fresh b o v hb with z | z | z
  ·exact hi.fresh b o v z
  ·have:=hi'.lt hb;grind
  ·exact .inr (hg.mine b (o+1) z)
 ·rcases hg2.mine b i e with z | z
  ·let⟨y,hy⟩:=UQ.1 e;have:=Bit.at_lt (hg2.sub b i y hy);grind
  ·exact hg.mine b i z
theorem Xy.again{Z τ:FS}(l:Z.le τ){u:Value}{v:AV C.D}(h:Xy C Z u v){s:Sh}{y:s.ty C}(hy:Sh.get (λ_=>M) s v=G y):Xy C τ u (Sh.put (λk=>k) s y):=by
 refine⟨AV.ok_mono (λj hj=>?_) (Sh.put_ok (ρ:=λk=>k) s hy),λν' hν'=>?_⟩
 ·let⟨k,id,e,_⟩:=hj;cases e
 ·exact Sh.get_put (ν:=ν') (B:=λ_=>M) ⟨(λk id e=>by cases e),hν'⟩ s hy ((h.2 ν' hν').mono l)
theorem AtP.close{g:Sig}{x:g.ty C}{a:Act}{w:World}{v:AV C.D}{chain:List PanicEntry}{s:Sh}{y:s.ty C}(hy:Sh.get (λ_=>M) s v=G y)(hc:g.close κ.m S=G x)(h:AtP n w0 σ0 κ v S chain a w):AtP n w0 σ0 κ (Sh.put (λk=>k) s y) (g.open x) chain a w:=by
 let⟨u,L,b,Z,PV,e,hp,hA,hi,hf⟩:=h;let⟨Z',PV',hl,hi',h'⟩:=w8 hc hA hi;exact⟨u,L,b,Z',PV',e,hp.again hl hy,h',hi',hf⟩
theorem ziv {k:XK}{g:Sig}{e:XE C}{y:XK.ty C k g}{K:XE C->St C->U7 ρ}{r:ρ}(hc:zgy κ.m k g e S=G y) (ho:Yg k g y K=G r) {x:Exit}{a:Act}{w:World} :
    zfs n w0 σ0 κ S e x a w->Zi n w0 σ0 κ K r x a w:=by
 intro h;cases e with
 |normal=>
  cases x<;>first | exact h.elim | skip
  cases k<;>first | (cases hc;done) | exact⟨_,ho,At.close hc h⟩
 |exit i=>
  cases x<;>first | exact h.elim | skip
  obtain⟨rfl,h⟩:=h;cases k<;>first | (cases hc;done) | skip
  let⟨hij,hc2⟩:=zb hc;obtain rfl:=ge hij;exact⟨_,ho,At.close hc2 h⟩
 |ret=>
  cases x<;>first | exact h.elim | skip
  cases k<;>first | (cases hc;done) | exact⟨_,ho,At.close hc h⟩
 |pan v=>
  cases x<;>first | exact h.elim | skip
  cases k<;>first | (cases hc;done) | skip
  rename_i chain s;let⟨z,hz,hc2⟩:=gd hc;let⟨x',hx',hc3⟩:=gd hc2;cases hc3;have e1:Sh.hd (s:=s) (l:=g.shs) (Sh.pk (s:=s) (l:=g.shs) z x')=z:=Sh.hd_pk;have e2:Sh.tl (s:=s) (l:=g.shs) (Sh.pk (s:=s) (l:=g.shs) z x')=x':=Sh.tl_pk;have ho2:K (.pan (Sh.put (λk=>k) s (Sh.hd (s:=s) (l:=g.shs) (Sh.pk (s:=s) (l:=g.shs) z x')))) (g.open (Sh.tl (s:=s) (l:=g.shs) (Sh.pk (s:=s) (l:=g.shs) z x')))=G r:=ho;rw[e1,e2] at ho2;exact⟨_,_,ho2,AtP.close hz hx' h⟩
theorem Yo:∀{outs:List (XK×Sig)}{e:XE C}{y:zf C outs}{K:XE C->St C->U7 ρ}{r:ρ},zT κ.m outs e S=G y->zR outs y K=G r->∀{x:Exit}{a:Act}{w:World},
    zfs n w0 σ0 κ S e x a w->Zi n w0 σ0 κ K r x a w
 |[],e,y,K,r,hc,ho,x,a,w,h=>by cases hc
 |[o],e,y,K,r,hc,ho,x,a,w,h=>ziv hc ho h
 |o::o2::l,e,y,K,r,hc,ho,x,a,w,h=>by
  unfold zT at hc;unfold zR at ho;cases hi:XK.is o.1 e with
  |true=>
   rw[hi,D1] at hc;split at hc
   ·rename_i z hz;cases hc;exact ziv hz ho h
   ·obtain⟨z,hz,rfl⟩:=DB.1 hc;exact Yo hz ho h
  |false=>
   rw[hi,UC] at hc;obtain⟨z,hz,rfl⟩:=DB.1 hc;exact Yo hz ho h
theorem Zi.out{outs:List (XK×Sig)}{y:zf C outs}{K:XE C->St C->U7 ρ}{r:ρ}(ho:zR outs y K=G r){x:Exit}{a:Act}{w:World}(h:Zi n w0 σ0 κ (λe S'=>zT κ.m outs e S') y x a w):Zi n w0 σ0 κ K r x a w:=by
 cases x with
 |normal=>let⟨S',hc,h⟩:=h;exact Yo hc ho (e :=.normal) h
 |exit i=>let⟨S',hc,h⟩:=h;exact Yo hc ho (e :=.exit i) (x :=.exit i) ⟨rfl,h⟩
 |ret=>let⟨S',hc,h⟩:=h;exact Yo hc ho (e :=.ret) (x :=.ret) h
 |panic chain=>let⟨v,S',hc,h⟩:=h;exact Yo hc ho (e :=.pan v) (x :=.panic chain) h
 |goto l=>exact h.elim
 |outgrown=>exact h.elim
theorem At.skip{a:Act}{w:World}(h:At n w0 σ0 κ S a w){d:Nat}(hd:O d n=E):At n w0 σ0 κ (S.put d (.tup [])) (a.put (G d) undef) w:=by
 let⟨L,b,Z,PV,⟨ν,vs,ids,hA⟩,hi,hf⟩:=h;exact⟨_,b,Z,PV,⟨ν,vs,ids,hA.put (v:=undef) ⟨[],rfl,trivial⟩ trivial⟩,hi,hf.put (by simpa[Dd] using hd) _⟩
theorem At.lit{a:Act}{w:World}(h:At n w0 σ0 κ S a w){d:Nat}{q:Bool}(he:S.env d = .bool q):At n w0 σ0 κ (S.put d (.bool q)) a w:=by
 let⟨L,b,Z,PV,⟨ν,vs,ids,hA⟩,hi,hf⟩:=h;have:S.put d (.bool q)=S:=by
  unfold St.put;have:upd S.env d (.bool q)=S.env:=by
   funext t;by_cases e:t=d
   ·subst e;rw[zp,he]
   ·rw[zq e]
  rw[this]
 rw[this];exact⟨L,b,Z,PV,⟨ν,vs,ids,hA⟩,hi,hf⟩
theorem At.yield{a:Act}{w:World}(h:At n w0 σ0 κ S a w){ops:Array Oper}{j dg:Nat}(hj:(ops[j]?).bind (·.dst)=G dg):(∀q,S.env dg = .bool q->yielded ops a.tmps j=G q)/\(S.env dg = .tup []->yielded ops a.tmps j=M):=by
 let⟨L,b,Z,PV,⟨ν,vs,ids,hA⟩,hi,hf⟩:=h;have hy:=congrFun (hf.yielded ops) j;have hv:=hA.env dg;rw[hy];unfold zfk;rw[hj];refine⟨λq e=>?_,λe=>?_⟩
 ·rw[e] at hv;show(match look L b dg with | .bool c=>G c | _=>M)=G q;have:=hv.bool_inv;grind
 ·rw[e] at hv;let⟨us,e2,h3⟩:=hv;grind
theorem zrR (hgl:C.gl w0.w σ0) (hstp:xP P n κ stp) {o:Oper}{next:St C->(XE C->St C->U7 ρ)->U7 ρ}{K:XE C->St C->U7 ρ}{r:ρ}
    (h:(stp o S ρ λout=>match out with
      | .go S'=>next S' K
      | .pan v S'=>K (.pan v) S')=G r) {a:Act} {w:World} (hA:At n w0 σ0 κ S a w) {Kw:Act->World->Prop} (hK:∀S' a' w',next S' K=G r->At n w0 σ0 κ S' a' w'->Kw a' w') :
    o.wp P a w Kw (Zi n w0 σ0 κ K r):=by
 let⟨L,b,Z,PV,hA,hi,hf⟩:=hA;rw[hstp.2] at h;let⟨out,ho,h⟩:=gd h;refine hstp.1 w0 σ0 hgl o S L b Z PV hA out ho a w hi hf Kw _ ?_ ?_
 ·rintro S' rfl L' Z' PV' a' w' hi' hf' hA';exact hK S' a' w' h ⟨L',b,Z',PV',hA',hi',hf'⟩
 ·rintro v S' rfl u Z' PV' w' hi' hA' hp;exact⟨v,S',h,u,L,b,Z',PV',rfl,hp,hA',hi',hf⟩
theorem YS(hgl:C.gl w0.w σ0)(hstp:xP P n κ stp){ops:Array Oper}:∀(l:List Oper) {S:St C}{K:XE C->St C->U7 ρ}{r:ρ},ZJ stp n ops l S K=G r->∀{a:Act}{w:World},At n w0 σ0 κ S a w->wpList P ops (Zi n w0 σ0 κ K r) l a w
 |[],S,K,r,h,a,w,hA=>⟨S,h,hA⟩
 |o::l,S,K,r,h,a,w,hA=>by
  unfold ZJ at h;split at h
  · rename_i hg;refine wpList_plain hg λKw hK=>?_
    exact zrR hgl hstp (next:=λS K=>ZJ stp n ops l S K) h hA λS' a' w' h' hA'=>hK _ _ (YS hgl hstp l h' hA')
  · rename_i j want hg;split at h
    ·cases h
    · rename_i dg hj;have hy:=hA.yield hj;have skip:∀{S:St C},At n w0 σ0 κ S a w->ZJ.skip n o S K (λS K=>ZJ stp n ops l S K)=G r->∀(Kw:Act->World->Prop),(∀a w,wpList P ops (Zi n w0 σ0 κ K r) l a w->Kw a w)->Kw (a.put o.dst undef) w:=by
        intro S hA h Kw hK;unfold ZJ.skip at h;split at h
        ·rename_i d hd;let⟨hn,h⟩:=zb h;rw[hd];exact hK _ _ (YS hgl hstp l h (hA.skip hn))
        ·rename_i hd;rw[hd];exact hK _ _ (YS hgl hstp l h hA)
      have go:∀{S:St C} {run:Bool},At n w0 σ0 κ S a w->ZJ.go stp n o l S run K (λS K=>ZJ stp n ops l S K)=G r->∀(Kw:Act->World->Prop),(∀a w,wpList P ops (Zi n w0 σ0 κ K r) l a w->Kw a w)->
          (if run=E then o.wp P a w Kw (Zi n w0 σ0 κ K r) else Kw (a.put o.dst undef) w):=by
       intro S run hA h Kw hK;unfold ZJ.go at h;cases run with
       |true=>
        rw[jv rfl];exact zrR hgl hstp (next:=λS K=>ZJ stp n ops l S K) h hA λS' a' w' h' hA'=>hK _ _ (YS hgl hstp l h' hA')
       |false=>exact skip hA h Kw hK
      split at h
      · rename_i q e;have hyq:=hy.1 q e;refine wpList_step λKw hK=>?_
        have hw:Y o (yielded ops a.tmps)=(q == want):=by simp[Y,hg,hyq]
        rw[hw];cases q with
        |true=>
         rw[jv rfl] at h;have:=go (run:=want) (hA.lit e) h Kw hK;grind
        |false=>
         rw[jx (by simp)] at h;have:=go (run:= !want) (hA.lit e) h Kw hK;grind
      · rename_i e;have hyn:=hy.2 e;refine wpList_step λKw hK=>?_
        have hw:Y o (yielded ops a.tmps)=false:=by simp[Y,hg,hyn]
        rw[hw];exact skip hA h Kw hK
      ·cases h
def Xa(P:Program)(n:Nat)(w0:Start)(σ0:FS)(κ:Kp)(c:Code)(run:(ρ:Type)->St C->(XE C->St C->U7 ρ)->U7 ρ):Prop:=
 ∀(ρ:Type) (S:St C) (K:XE C->St C->U7 ρ) (r:ρ),run ρ S K=G r->∀(a:Act) (w:World),At n w0 σ0 κ S a w->c.wp P (Zi n w0 σ0 κ K r) a w
theorem XV{c:Code}{i:Nat}{raw:(ρ:Type)->St C->(XE C->St C->U7 ρ)->U7 ρ}(h:Xa P n w0 σ0 κ c raw):Xa P n w0 σ0 κ c (λ_ S K=>ZC.wrap κ.m hs i S K raw):=by
 intro ρ S K r hr a w hA;unfold ZC.wrap at hr;split at hr
 ·rename_i outs _;let⟨y,hy,ho⟩:=gd hr;exact wp_mono (h _ _ _ _ hy _ _ hA) λe a w hq=>hq.out ho
 ·exact h _ _ _ _ hr _ _ hA
theorem yO(hgl:C.gl w0.w σ0)(hstp:xP P n κ stp)(hdr:vG P n κ dr)(hlp:xw lp):∀(c:Code) (i:Nat),Xa P n w0 σ0 κ c (λρ S K=>ZC stp dr lp n κ.m hs c i ρ S K)
 | .skip,i=>by
  show Xa P n w0 σ0 κ .skip λ_ S K=>ZC.wrap κ.m hs i S K _
  exact XV λ_ _ _ _ hr a w hA=>wp_skip ⟨_,hr,hA⟩
 | .ret,i=>by
  show Xa P n w0 σ0 κ .ret λ_ S K=>ZC.wrap κ.m hs i S K _
  exact XV λ_ _ _ _ hr a w hA=>wp_ret ⟨_,hr,hA⟩
 | .exit j,i=>by
  show Xa P n w0 σ0 κ (.exit j) λ_ S K=>ZC.wrap κ.m hs i S K _
  exact XV λ_ _ _ _ hr a w hA=>wp_exit ⟨_,hr,hA⟩
 | .seq c d,i=>by
  show Xa P n w0 σ0 κ (.seq c d) λ_ S K=>ZC.wrap κ.m hs i S K _
  refine XV λρ S K r hr a w hA=>?_
  refine wp_seq (wp_mono (yO hgl hstp hdr hlp c (i+1) _ _ _ _ hr _ _ hA) ?_);intro e a w hq;cases e with
  |normal=>let⟨S',hk,hA'⟩:=hq;exact yO hgl hstp hdr hlp d _ _ _ _ _ hk _ _ hA'
  |exit j=>let⟨S',hk,hA'⟩:=hq;exact⟨S',hk,hA'⟩
  |ret=>let⟨S',hk,hA'⟩:=hq;exact⟨S',hk,hA'⟩
  |panic chain=>let⟨v,S',hk,hA'⟩:=hq;exact⟨v,S',hk,hA'⟩
  |goto l=>exact hq.elim
  |outgrown=>exact hq.elim
 | .cond x c d,i=>by
  show Xa P n w0 σ0 κ (.cond x c d) λ_ S K=>ZC.wrap κ.m hs i S K _
  refine XV λρ S K r hr a w hA=>?_
  have hr:(match S.op x with
   | .bool q=>if q=E then ZC stp dr lp n κ.m hs c (i+1) _ S K else ZC stp dr lp n κ.m hs d (i+1+xS c) _ S K
   |_=>M)=G r:=hr
  split at hr
  · rename_i q e;have hev:a.eval x = .bool q:=by
      let⟨L,b,Z,PV,⟨ν,vs,ids,hA⟩,hi,hf⟩:=hA;have:=hA.op x;rw[e] at this;rw[hf.eval];exact this.bool_inv
    cases q with
    |true=>exact wp_cond_true hev (yO hgl hstp hdr hlp c _ _ _ _ _ (by simpa using hr) _ _ hA)
    |false=>exact wp_cond_false hev (yO hgl hstp hdr hlp d _ _ _ _ _ (by simpa using hr) _ _ hA)
  ·cases hr
 | .block j c,i=>by
  show Xa P n w0 σ0 κ (.block j c) λ_ S K=>ZC.wrap κ.m hs i S K _
  refine XV λρ S K r hr a w hA=>?_
  refine wp_block (wp_mono (yO hgl hstp hdr hlp c (i+1) _ _ _ _ hr _ _ hA) ?_);intro e a w hq;cases e with
  |normal=>let⟨S',hk,hA'⟩:=hq;exact⟨S',hk,hA'⟩
  |exit j'=>
   let⟨S',hk,hA'⟩:=hq;have hk:(bif W j' j then K .normal S' else K (.exit j') S')=G r:=hk;show if j'=j then _ else _
   cases e:W j' j with
   |true=>rw[e] at hk;rw[jv (ge e)];exact⟨S',hk,hA'⟩
   |false=>rw[e] at hk;rw[jx (λh=>by rw[h] at e;simp at e)];exact⟨S',hk,hA'⟩
  |ret=>let⟨S',hk,hA'⟩:=hq;exact⟨S',hk,hA'⟩
  |panic chain=>let⟨v,S',hk,hA'⟩:=hq;exact⟨v,S',hk,hA'⟩
  |goto l=>exact hq.elim
  |outgrown=>exact hq.elim
 | .loop c,i=>by
  intro ρ S K r hr a w hA;unfold ZC at hr;split at hr
  case h_2=>cases hr
  rename_i g outs _;let⟨x0,hx0,hr⟩:=gd hr;let⟨y,hy,ho⟩:=gd hr;let⟨m0,hm0⟩:=hlp _ _ _ hy;have hA0:=hA.close hx0
  generalize hf:(λx=>ZC stp dr lp n κ.m hs c (i+1) _ (g.open x) λe S'=>match e with
        | .normal=>(g.close κ.m S').bind λx'=>G (Step.next x')
        |e=>(zT κ.m outs e S').bind λy=>G (Step.done y))=f at hm0
  classical
  let I:Nat->Act->World->Prop:=λm a w=>∃x,Z9 f m x=G y/\At n w0 σ0 κ (g.open x) a w
  refine wp_loop (λa w=>∃m,I m a w) (λa w=>if h:∃m,I m a w then(wX h).choose else 0) ⟨m0,x0,hm0,hA0⟩ ?_;intro a1 w1 h1;have hfind:=(wX h1).choose_spec.1;rw[dif_pos h1];generalize (wX h1).choose=m1 at hfind |-
  let⟨x,hit,hA1⟩:=hfind;cases m1 with
  |zero=>simp[Z9] at hit
  |succ m1=>
   simp only[Z9] at hit;cases hfx:f x with
   |none=>grind
   |some st=>
    rw[hfx] at hit;rw[<- hf] at hfx;refine wp_mono (yO hgl hstp hdr hlp c (i+1) _ _ _ _ hfx _ _ hA1) ?_;intro e a2 w2 hq;have dn:∀{e':XE C} {S':St C} {y':zf C outs},zT κ.m outs e' S'=G y'->st = .done y'->∀{x},zfs n w0 σ0 κ S' e' x a2 w2->Zi n w0 σ0 κ K r x a2 w2:=by
     intro e' S' y' hc hst x hx;subst hst;simp only[jj,qb.injEq] at hit;subst hit;exact Yo hc ho hx
    cases e with
    |normal=>
     let⟨S',hk,hA'⟩:=hq;let⟨x',hx',hk⟩:=gd hk;cases hk;have hI:I m1 a2 w2:=⟨x',hit,hA'.close hx'⟩;refine⟨⟨m1,hI⟩,?_⟩;rw[dif_pos ⟨m1,hI⟩];exact Nat.lt_succ_of_le ((wX ⟨m1,hI⟩).choose_spec.2 _ hI)
    |exit j=>
     let⟨S',hk,hA'⟩:=hq;let⟨y',hy',hk⟩:=gd hk;exact dn hy' (qb.inj hk).symm (x :=.exit j) ⟨rfl,hA'⟩
    |ret=>
     let⟨S',hk,hA'⟩:=hq;let⟨y',hy',hk⟩:=gd hk;exact dn hy' (qb.inj hk).symm (x :=.ret) hA'
    |panic chain=>
     let⟨v,S',hk,hA'⟩:=hq;let⟨y',hy',hk⟩:=gd hk;exact dn hy' (qb.inj hk).symm (x :=.panic chain) hA'
    |goto l=>exact hq.elim
    |outgrown=>exact hq.elim
 | .region id ops H,i=>by
  show Xa P n w0 σ0 κ (.region id ops H) λ_ S K=>ZC.wrap κ.m hs i S K _
  exact XV λ_ _ _ _ hr a w hA=>wp_region_list (YS hgl hstp _ hr hA)
 | .region id ops E,i=>λρ S K r hr a w hA=>by
  have hr:(match hs i with
   |some (.draw ord [])=>dr ops ord ρ S K
   |some (.draw ord (o::outs))=>(dr ops ord _ S λe S'=>zT κ.m (o::outs) e S').bind λy=>zR (o::outs) y K
   |_=>M)=G r:=hr
  split at hr
  ·exact hdr _ _ hgl _ _ _ _ _ _ _ hr _ _ hA
  ·let⟨y,hy,ho⟩:=gd hr;exact wp_mono (hdr _ _ hgl _ _ _ _ _ _ _ hy _ _ hA) λe a w hq=>hq.out ho
  ·cases hr
 | .rangeFunc ..,i=>λ_ _ _ _ hr=>by simp[ZC] at hr
 | .scope c,i=>by
  show Xa P n w0 σ0 κ (.scope c) λ_ S K=>ZC.wrap κ.m hs i S K _
  refine XV λρ S K r hr a w hA=>?_
  refine wp_scope_straight (wp_mono (yO hgl hstp hdr hlp c (i+1) _ _ _ _ hr _ _ hA) ?_);intro e a w hq;cases e<;>first | exact hq | exact hq.elim
 | .label _,i=>by
  show Xa P n w0 σ0 κ (.label _) λ_ S K=>ZC.wrap κ.m hs i S K _
  exact XV λ_ _ _ _ hr a w hA=>wp_label ⟨_,hr,hA⟩
 | .goto _,i=>λ_ _ _ _ hr=>by simp[ZC] at hr
 | .refuse _,i=>λ_ _ _ _ hr=>by simp[ZC] at hr
end
end
section
variable [Dfr]
def zdg:List Value->Value
 |[v]=>v
 |vs =>.tuple vs.toArray
section
variable {κ:Kp}{C:Cod}{S:St C}{n:Nat}{w0:Start}{σ0 Z:FS}{P:Program}{ρ:Type}{L:List (Nat×Value)}{b:Nat->Value}{PV:List Priv}
def rvA(P:Program)(S:St C):ResultVar->U7 (AV C.D)
 | .tmp t=>G (S.env t)
 | .cell t T=>match S.env t with
  | .pc id 0=>(match S.heap id with
   |some (.cell cs)=>Yv P T cs 0
   |_=>M)
  |_=>M
def w9(P:Program)(S:St C):List ResultVar->U7 (List (AV C.D))
 |[]=>G []
 |r::rs=>(rvA P S r).bind λA=>(w9 P S rs).bind λAs=>G (A::As)
theorem zyX {ν:Val}{vs:Nat->List Value}{ids:List Nat}(h:AbsL κ S ν vs ids L b Z PV) {rv:ResultVar}{A:AV C.D}(hr:rvA P S rv=G A) {w:World}(hw:Y4 Z PV w) {tmps:Array Value}(ht:∀i,tmps.getD i undef=look L b i) :
    ∃v,(ZU tmps rv).run P w = .ok v w/\VR C Z ν v A/\A.ok λid=>(S.heap id).isSome=true:=by
 cases rv with
 |tmp t=>cases hr;exact⟨_,by simp[ZU,ht],h.env t,h.live t⟩
 |cell t T=>
  simp only[rvA] at hr;split at hr
  · rename_i id e;have hp:=h.env t;rw[e] at hp;have hp:look L b t = .pointer (G ((ν.adr id).add 0)):=hp;split at hr
    · rename_i cs hcs;let⟨td,ti,hu,hi,h1,h2,e3⟩:=zac hr;let⟨m,hm,_⟩:=h.at hcs;let⟨hh,hrr,hsub⟩:=hw.get hm;have hrr:Z2 (ν.adr id).a (vs id) hh:=hrr;have hc:=h.cell id cs hcs;have hl2:(((vs id).drop 0).take ti.size).length=ti.size:=by rw[<- h1];simp[hc.len]
      have:=vM (P:=P) (w:=w) ((ν.adr id).add 0) (((vs id).drop 0).take ti.size) hu hi hl2.symm (λe=>by grind) (λj u hj=>by
       have hj':j < ti.size:=by
        grind
       rw[Dk hj',Dv] at hj
       rw[Addr.add_add];simpa using hrr.cell hsub hj)
      refine⟨_,?_,by rw[e3];exact((hc.drop 0).take _).val (agg:=Zh td),WJ hr (h.livec id cs hcs)⟩;show(do loadVar T (<- asAddr (tmps.getD t undef)):Sem Value).run P w=_;rw[ht t,hp];simpa[asAddr] using this
    ·cases hr
  ·cases hr
theorem znn {ν:Val}{vs:Nat->List Value}{ids:List Nat}(h:AbsL κ S ν vs ids L b Z PV) {w:World}(hw:Y4 Z PV w) {tmps:Array Value}(ht:∀i,tmps.getD i undef=look L b i):∀{rvs:List ResultVar}{As:List (AV C.D)},w9 P S rvs=G As->
    ∃us:List Value,us.length=rvs.length/\(∀(j:Nat) rv u,rvs[j]?=G rv->us[j]?=G u->(ZU tmps rv).run P w = .ok u w)/\VRs C Z ν us As/\AV.oks (λid=>(S.heap id).isSome=E) As
 |[],As,hr=>by cases hr;exact⟨[],rfl,λj rv u h=>by simp at h,trivial,trivial⟩
 |rv::rvs,As,hr=>by
  let⟨A,hA,hr⟩:=gd hr;let⟨As',hAs,hr⟩:=gd hr;cases hr;let⟨u,h1,h2,h3⟩:=zyX h hA hw ht;let⟨us,k1,k2,k3,k4⟩:=znn h hw ht hAs;refine⟨u::us,by simp[k1],λj rv' u' hj hu=>?_,⟨h2,k3⟩,⟨h3,k4⟩⟩;grind
theorem zm1 {fn:Func}{rvs:List ResultVar}(hr:fn.results.toList=rvs) (hl:rvs.length<=4) {tmps:Array Value}{w:World}{us:List Value}(hus:us.length=rvs.length) (h:∀(j:Nat) rv u,rvs[j]?=G rv->us[j]?=G u->(ZU tmps rv).run P w = .ok u w) :
    (results fn tmps).run P w = .ok (zdg us) w:=by
 have hre:fn.results=rvs.toArray:=by grind
 match rvs,us,hus,hl with
 |[],[],_,_=>exact zmT hre
 |[r1],[u1],_,_=>exact zmP hre (h 0 r1 u1 rfl rfl)
 |[r1,r2],[u1,u2],_,_=>exact zmQ hre (h 0 r1 u1 rfl rfl) (h 1 r2 u2 rfl rfl)
 |[r1,r2,r3],[u1,u2,u3],_,_=>exact zmR hre (h 0 r1 u1 rfl rfl) (h 1 r2 u2 rfl rfl) (h 2 r3 u3 rfl rfl)
 |[r1,r2,r3,r4],[u1,u2,u3,u4],_,_=>exact zmS hre (h 0 r1 u1 rfl rfl) (h 1 r2 u2 rfl rfl) (h 2 r3 u3 rfl rfl) (h 3 r4 u4 rfl rfl)
 |_::_::_::_::_::_,_,_,hl=>simp at hl
structure Spec(C:Cod) where
 f:FuncId
 nr:Nat
 ins:Sig
 outs:List (XK×Sig)
 F:ins.ty C->U7 (zf C outs)
def xx(As:List (AV C.D))(heap:Nat->U7 (Ent C)):St C:={env:=λi=>(As[i]?).getD .und,heap:=heap}
omit [Dfr] in
def vd(κ:Kp)(st:Start)(σ0:FS)(nr:Nat)(outs:List (XK×Sig))(r:zf C outs)(e:Ending)(w:World):Prop:=
 zR outs r λx S'=>match x,e with
  | .ret,.returned v=>∃vals Z' PV',v=zdg vals/\vals.length=nr/\Inv st σ0 Z' PV' w/\zy κ S' (yo 0 vals) (λ_=>undef) Z' PV'
  | .pan A,.panicked chain=>∃u Z' PV',chain=[{v:=u,recovered:=false}]/\Inv st σ0 Z' PV' w/\Xy C Z' u A/\zy κ S' [] (λ_=>undef) Z' PV'
  |_,_=>False
omit [Dfr] in
def Spec.OK (P : Program) (s : Spec C) : Prop := ∃ fn, P.funcs[s.f]? = G fn /\ (fn.name == "runtime.NumGoroutine") = H /\ fn.body.isNone = H /\
 ∀(x:s.ins.ty C) r,s.F x=G r->∀(κ:Kp) (st:Start) (Z:FS),C.gl st.w Z->∀(PV:List Priv) (ν:Val) (vs:Nat->List Value) (ids:List Nat) (args:List Value),κ.m=s.ins.es.length->args.length=s.ins.ts.length->AbsL κ (s.ins.open x) ν vs ids (yo 0 args) (λ_=>undef) Z PV->Pre st Z PV->Calls P s.f args.toArray st.w (vd κ st Z s.nr s.outs r)
def zyY(e e':XE C):Prop:=match e,e' with
 | .pan v,.pan v'=>∃(s:Sh) (y:s.ty C),Sh.get (λ_=>M) s v=G y/\v'=Sh.put (λk=>k) s y
 | .normal,.normal=>True
 | .ret,.ret=>True
 | .exit i,.exit j=>i=j
 |_,_=>False
theorem YG {m:Nat}{Q:XE C->St C->Prop}:∀{outs:List (XK×Sig)}{e:XE C}{r:zf C outs},zT m outs e S=G r->
    (∀(g:Sig) (x:g.ty C),g.close m S=G x->(∀e',zyY e e'->Q e' (g.open x)))->zR outs r Q
 |[],e,r,h,_=>by cases h
 |[o],e,r,h,k=>closeX_prop h k
 |o::o2::l,e,r,h,k=>by
  unfold zT at h;unfold zR;cases hi:XK.is o.1 e with
  |true=>
   rw[hi,D1] at h;split at h
   ·rename_i z hz;cases h;exact closeX_prop hz k
   ·obtain⟨z,hz,rfl⟩:=DB.1 h;exact YG hz k
  |false=>
   rw[hi,UC] at h;obtain⟨z,hz,rfl⟩:=DB.1 h;exact YG hz k
where
 closeX_prop {m:Nat} {Q:XE C->St C->Prop} {o:XK×Sig} {e:XE C} {r:XK.ty C o.1 o.2} (h:zgy m o.1 o.2 e S=G r) (k:∀(g:Sig) (x:g.ty C),g.close m S=G x->(∀e',zyY e e'->Q e' (g.open x))):Yg o.1 o.2 r Q:=by
  let⟨kk,g⟩:=o;cases e with
  |normal=>cases kk<;>first | (cases h;done) | exact k g r h .normal trivial
  |exit i=>
   cases kk<;>first | (cases h;done) | skip
   let⟨hij,h2⟩:=zb h;obtain rfl:=ge hij;exact k g r h2 (.exit _) rfl
  |ret=>cases kk<;>first | (cases h;done) | exact k g r h .ret trivial
  |pan v=>
   cases kk<;>first | (cases h;done) | skip
   rename_i s;let⟨z,hz,h2⟩:=gd h;let⟨x',hx',h3⟩:=gd h2;cases h3;show Q (.pan (Sh.put (λk=>k) s (Sh.hd (s:=s) (l:=g.shs) (Sh.pk (s:=s) (l:=g.shs) z x')))) (g.open (Sh.tl (s:=s) (l:=g.shs) (Sh.pk (s:=s) (l:=g.shs) z x')));rw[show Sh.hd (s:=s) (l:=g.shs) (Sh.pk (s:=s) (l:=g.shs) z x')=z from Sh.hd_pk,show Sh.tl (s:=s) (l:=g.shs) (Sh.pk (s:=s) (l:=g.shs) z x')=x' from Sh.tl_pk];exact k g x' hx' _ ⟨s,z,hz,rfl⟩
def ztp(stp:Nat->yM C)(dr:Nat->Yz C)(lp:ZW)(fn:Func)(nr:Nat)(ins:Sig)(outs:List (XK×Sig))(hs:Nat->U7 Hint)(x:ins.ty C):U7 (zf C outs):=
 match fn.body with
 |none=>M
 |some c=>chk (X ins.ts.length fn.ntmps && (W fn.results.toList.length nr && (X nr 4 && X ins.es.length 64)))
     (ZC (stp fn.ntmps) (dr fn.ntmps) lp fn.ntmps ins.es.length hs c 0 _ (ins.open x) λe S=>match e with
       | .ret=>(w9 P S fn.results.toList).bind λAs=>zT ins.es.length outs .ret (xx As S.heap)
       | .normal=>(w9 P S fn.results.toList).bind λAs=>zT ins.es.length outs .ret (xx As S.heap)
       | .pan v=>zT ins.es.length outs (.pan v) (xx [] S.heap)
       |_=>M)
end
end
section
section
variable {κ:Kp}{C:Cod}{S:St C}{n:Nat}{w0:Start}{σ0 Z:FS}{P:Program}{ρ:Type}{L:List (Nat×Value)}{b:Nat->Value}{PV:List Priv}
theorem yp{vals:List Value}:∀i,look (yo 0 vals) (λ_=>undef) i=(vals[i]?).getD undef:=λi=>by rw[zaR];simp
theorem zbP{ν:Val}{vs:Nat->List Value}{ids:List Nat}(h:AbsL κ S ν vs ids L b Z PV){us:List Value}{As:List (AV C.D)}(hr:VRs C Z ν us As)(hl:AV.oks (λid=>(S.heap id).isSome=E) As):AbsL κ (xx As S.heap) ν vs ids (yo 0 us) (λ_=>undef) Z PV:=by
 refine⟨⟨h.nd,h.dom,h.pv,h.cell,λt=>?_,h.one⟩,λt=>?_,h.livec,h.keep⟩
 ·rw[yp];show VR C Z ν _ ((As[t]?).getD .und);cases e:As[t]? with
  |none=>trivial
  |some A=>
   let⟨u,e1,e2⟩:=hr.get t A e;grind
 ·show((As[t]?).getD .und).ok _;cases e:As[t]? with
  |none=>trivial
  |some A=>exact AV.oks_iff.1 hl A (UW e)
theorem At.defers[Dfr]{κ:Kp}{C:Cod}{S:St C}{n:Nat}{w0:Start}{σ0:FS}{a:Act}{w:World}(h:At n w0 σ0 κ S a w):a.defers=Dfr.l:=by
 let⟨_,_,_,_,_,_,hf⟩:=h;exact hf.defers
theorem zno {κ:Kp}{C:Cod}{P:Program}{S':St C}{L:List (Nat×Value)}{b:Nat->Value}{Z':FS}{PV':List Priv}{fn:Func}{nr:Nat}{outs:List (XK×Sig)}{r:zf C outs}{st:Start}{Z:FS}{tmps:Array Value}{w:World}(c4:fn.results.toList.length=nr) (c2:fn.results.toList.length<=4) (hk:(w9 P S' fn.results.toList).bind (λAs=>zT κ.m outs .ret (xx As S'.heap))=G r)
    (hA':zy κ S' L b Z' PV') (hi':Inv st Z Z' PV' w) (hget:∀i,tmps.getD i undef=look L b i):∃v,(results fn tmps).run P w = .ok v w/\vd κ st Z nr outs r (.returned v) w:=by
 let⟨As,hAs,hk⟩:=gd hk;let⟨ν',vs',ids',hA'⟩:=hA';let⟨us,k1,k2,k3,k4⟩:=znn hA' hi'.held hget hAs;refine⟨_,zm1 rfl c2 k1 k2,?_⟩;have hav:=zbP hA' k3 k4;refine YG hk λg y hy e' he=>?_
 cases e'<;>first | exact he.elim | skip
 let⟨σ2,PV2,hi2,h2⟩:=zdF hy ⟨ν',vs',ids',hav⟩ hi';grind
theorem zdh [Dfr] {κ:Kp}{C:Cod}{P:Program}{S':St C}{fn:Func}{nr:Nat}{outs:List (XK×Sig)}{r:zf C outs}{st:Start}{Z:FS}{a:Act}{w:World}(c4:fn.results.toList.length=nr) (c2:fn.results.toList.length<=4) (hk:(w9 P S' fn.results.toList).bind (λAs=>zT κ.m outs .ret (xx As S'.heap))=G r)
    (hA:At fn.ntmps st Z κ S' a w):∃v,(results fn a.tmps).run P w = .ok v w/\vd κ st Z nr outs r (.returned v) w:=by
 let⟨L,b,Z',PV',hA',hi',hf'⟩:=hA;exact zno c4 c2 hk hA' hi' hf'.get
theorem zxr {stp : Nat -> yM C} {dr : Nat -> Yz C} {lp : ZW} {f : FuncId} {fn : Func} {nr : Nat} {ins : Sig} {outs : List (XK × Sig)} {hs : Nat -> U7 Hint} {F : ins.ty C -> U7 (zf C outs)} (hstp : ∀ κ, xP P fn.ntmps κ (stp fn.ntmps)) (hdr : ∀ κ, vG P fn.ntmps κ (dr fn.ntmps)) (hlp : xw lp) (hf : P.funcs[f]? = G fn) (hnm : (fn.name == "runtime.NumGoroutine") = H) (hbs : fn.body.isNone = H) (hF : ∀ x r, F x = G r -> ztp (P := P) stp dr lp fn nr ins outs hs x = G r) :
    Spec.OK P ⟨f,nr,ins,outs,F⟩:=by
 refine⟨fn,hf,hnm,hbs,?_⟩;intro x r hr κ st Z hg PV ν vs ids args hm hargs hA hpre;have hr:=hF x r hr;unfold ztp at hr;split at hr
 ·cases hr
 rename_i c hb;let⟨hc,hr⟩:=zb hr;simp only[gf] at hc;let⟨c1,c4,c2,c3⟩:=hc;have c4:=ge c4;rw[<- c4] at c2;have hm:κ.m=ins.es.length:=hm;rw[<- hm] at hr;have hargs:args.length=ins.ts.length:=hargs;have hn:args.length<=fn.ntmps:=by rw[hargs];exact Dj c1
 have hat:At fn.ntmps st Z κ (ins.open x) {tmps:=args.toArray++Array.replicate (fn.ntmps - args.toArray.size) undef,defers:=[]} st.w:=⟨_,_,Z,PV,⟨ν,vs,ids,hA⟩,hpre.inv,vO hn⟩;refine calls_of_wp hf hb (wp_mono (yO hg (hstp κ) (hdr κ) hlp c 0 _ _ _ _ hr _ _ hat) ?_);have hret:∀{S':St C} {a:Act} {w:World},(w9 P S' fn.results.toList).bind (λAs=>zT κ.m outs .ret (xx As S'.heap))=G r->At fn.ntmps st Z κ S' a w->a.defers=[]/\∃v,(results fn a.tmps).run P w = .ok v w/\vd κ st Z nr outs r (.returned v) w:=λhk hA'=>⟨hA'.defers,zdh c4 (Dj c2) hk hA'⟩
 intro e a w hq;cases e with
 |normal=>let⟨S',hk,hA'⟩:=hq;exact hret hk hA'
 |ret=>let⟨S',hk,hA'⟩:=hq;exact hret hk hA'
 |exit j=>let⟨S',hk,hA'⟩:=hq;cases hk
 |panic chain=>
  let⟨v,S',hk,hA'⟩:=hq;obtain⟨u,L,b,Z',PV',rfl,hp,⟨ν',vs',ids',hA'⟩,hi',hf'⟩:=hA';refine⟨hf'.defers,?_⟩;have hav:AbsL κ (xx [] S'.heap) ν' vs' ids' [] (λ_=>undef) Z' PV':=zbP (us:=[]) hA' trivial trivial;refine YG hk λg y hy e' he=>?_
  cases e'<;>first | exact he.elim | skip
  obtain⟨s,z,hz,rfl⟩:=he;let⟨σ2,PV2,hl,hi2,h2⟩:=w8 hy ⟨ν',vs',ids',hav⟩ hi';exact⟨u,σ2,PV2,rfl,hi2,hp.again hl hz,h2⟩
 |goto l=>exact hq.elim
 |outgrown=>exact hq.elim
end
variable [Dfr]
mutual
def AV.ren{D:Nat->Type}(ρ:Nat->Nat):AV D->AV D
 | .row j =>.row (ρ j)
 | .pc j o =>.pc (ρ j) o
 | .pr j T i o =>.pr (ρ j) T i o
 | .nx j T i x =>.nx (ρ j) T i x
 | .agg cs =>.agg (AV.rens ρ cs)
 | .tup cs =>.tup (AV.rens ρ cs)
 | .clo f cs =>.clo f (AV.rens ρ cs)
 | .ifc t A =>.ifc t (AV.ren ρ A)
 |A=>A
def AV.rens{D:Nat->Type}(ρ:Nat->Nat):List (AV D)->List (AV D)
 |[]=>[]
 |A::As=>AV.ren ρ A::AV.rens ρ As
end
mutual
def AV.kill{D:Nat->Type}(p:Nat->Bool):AV D->AV D
 | .row j=>bif p j then .und else .row j
 | .pc j o=>bif p j then .und else .pc j o
 | .pr j T i o=>bif p j then .und else .pr j T i o
 | .nx j T i x=>bif p j then .und else .nx j T i x
 | .agg cs =>.agg (AV.kills p cs)
 | .tup cs =>.tup (AV.kills p cs)
 | .clo f cs =>.clo f (AV.kills p cs)
 | .ifc t A =>.ifc t (AV.kill p A)
 |A=>A
def AV.kills{D:Nat->Type}(p:Nat->Bool):List (AV D)->List (AV D)
 |[]=>[]
 |A::As=>AV.kill p A::AV.kills p As
end
section
variable {κ:Kp}{C:Cod}{S:St C}{n:Nat}{w0:Start}{σ0 Z:FS}{P:Program}{L:List (Nat×Value)}{b:Nat->Value}{PV:List Priv}{ν ν':Val}{vs:Nat->List Value}{ids:List Nat}
omit [Dfr] in
mutual
theorem VR.ren{ρ:Nat->Nat}{p:Nat->Prop}(h:∀k,p k->ν'.hdr (ρ k)=ν.hdr k/\ν'.adr (ρ k)=ν.adr k):∀{A:AV C.D}{v:Value},A.ok p->VR C Z ν v A->VR C Z ν' v (AV.ren ρ A)
 | .row _,v,k,r=>by show v=ν'.hdr _;rw[(h _ k).1];exact r
 | .pc _ _,v,k,r=>by show v = .pointer (G ((ν'.adr _).add _));rw[(h _ k).2];exact r
 | .pr _ _ _ _,v,k,r=>by show v = .pointer (G (zh (ν'.hdr _) _));rw[(h _ k).1];exact r
 | .nx _ _ _ _,v,k,r=>by refine⟨?_,r.2⟩;rw[(h _ k).2];exact r.1
 | .agg cs,_,k,⟨vs,e,r⟩=>⟨vs,e,VRs.ren h k r⟩
 | .tup cs,_,k,⟨vs,e,r⟩=>⟨vs,e,VRs.ren h k r⟩
 | .clo _ cs,_,k,⟨vs,e,r⟩=>⟨vs,e,VRs.ren h k r⟩
 | .ifc _ A,_,k,⟨u,e,r⟩=>⟨u,e,VR.ren h k r⟩
 | .int _ _,_,_,r=>r
 | .bool _,_,_,r=>r
 | .str _,_,_,r=>r
 | .sl _ _ _,_,_,r=>r
 | .pz _ _ _,_,_,r=>r
 | .pnil,_,_,r=>r
 | .nils,_,_,r=>r
 | .nilf,_,_,r=>r
 | .nili,_,_,r=>r
 | .und,_,_,_=>trivial
theorem VRs.ren{ρ:Nat->Nat}{p:Nat->Prop}(h:∀k,p k->ν'.hdr (ρ k)=ν.hdr k/\ν'.adr (ρ k)=ν.adr k):∀{cs:List (AV C.D)}{vs:List Value},AV.oks p cs->VRs C Z ν vs cs->VRs C Z ν' vs (AV.rens ρ cs)
 |[],[],_,_=>trivial
 |A::As,v::vs,⟨k,l⟩,⟨r,s⟩=>⟨VR.ren h k r,VRs.ren h l s⟩
 |[],_::_,_,r=>r.elim
 |_::_,[],_,r=>r.elim
end
omit [Dfr] in
mutual
theorem AV.ok_ren{D:Nat->Type}{p q:Nat->Prop}{ρ:Nat->Nat}(h:∀k,p k->q (ρ k)):∀{A:AV D},A.ok p->(AV.ren ρ A).ok q
 | .row _,k=>h _ k
 | .pc _ _,k=>h _ k
 | .pr _ _ _ _,k=>h _ k
 | .nx _ _ _ _,k=>h _ k
 | .agg cs,k=>AV.oks_ren h (A:=cs) k
 | .tup cs,k=>AV.oks_ren h (A:=cs) k
 | .clo _ cs,k=>AV.oks_ren h (A:=cs) k
 | .ifc _ A,k=>AV.ok_ren h (A:=A) k
 | .int _ _,_=>trivial
 | .bool _,_=>trivial
 | .str _,_=>trivial
 | .sl _ _ _,_=>trivial
 | .pz _ _ _,_=>trivial
 | .pnil,_=>trivial
 | .nils,_=>trivial
 | .nilf,_=>trivial
 | .nili,_=>trivial
 | .und,_=>trivial
theorem AV.oks_ren{D:Nat->Type}{p q:Nat->Prop}{ρ:Nat->Nat}(h:∀k,p k->q (ρ k)):∀{A:List (AV D)},AV.oks p A->AV.oks q (AV.rens ρ A)
 |[],_=>trivial
 |A::As,⟨k,l⟩=>⟨AV.ok_ren h k,AV.oks_ren h l⟩
end
omit [Dfr] in
mutual
theorem VR.kill{p:Nat->Bool}:∀{A:AV C.D}{v:Value},VR C Z ν v A->VR C Z ν v (AV.kill p A)
 | .row j,v,r=>by unfold AV.kill;cases p j<;>first | exact r | trivial
 | .pc j _,v,r=>by unfold AV.kill;cases p j<;>first | exact r | trivial
 | .pr j _ _ _,v,r=>by unfold AV.kill;cases p j<;>first | exact r | trivial
 | .nx j _ _ _,v,r=>by unfold AV.kill;cases p j<;>first | exact r | trivial
 | .agg cs,_,⟨vs,e,r⟩=>⟨vs,e,VRs.kill r⟩
 | .tup cs,_,⟨vs,e,r⟩=>⟨vs,e,VRs.kill r⟩
 | .clo _ cs,_,⟨vs,e,r⟩=>⟨vs,e,VRs.kill r⟩
 | .ifc _ A,_,⟨u,e,r⟩=>⟨u,e,VR.kill r⟩
 | .int _ _,_,r=>r
 | .bool _,_,r=>r
 | .str _,_,r=>r
 | .sl _ _ _,_,r=>r
 | .pz _ _ _,_,r=>r
 | .pnil,_,r=>r
 | .nils,_,r=>r
 | .nilf,_,r=>r
 | .nili,_,r=>r
 | .und,_,_=>trivial
theorem VRs.kill{p:Nat->Bool}:∀{cs:List (AV C.D)}{vs:List Value},VRs C Z ν vs cs->VRs C Z ν vs (AV.kills p cs)
 |[],[],_=>trivial
 |A::As,v::vs,⟨r,s⟩=>⟨VR.kill r,VRs.kill s⟩
 |[],_::_,r=>r.elim
 |_::_,[],r=>r.elim
end
omit [Dfr] in
mutual
theorem AV.ok_kill{D:Nat->Type}{q:Nat->Prop}{p:Nat->Bool}:∀{A:AV D},A.ok q->(AV.kill p A).ok λj=>q j/\p j=H
 | .row j,k=>by unfold AV.kill;cases e:p j<;>first | exact⟨k,e⟩ | trivial
 | .pc j _,k=>by unfold AV.kill;cases e:p j<;>first | exact⟨k,e⟩ | trivial
 | .pr j _ _ _,k=>by unfold AV.kill;cases e:p j<;>first | exact⟨k,e⟩ | trivial
 | .nx j _ _ _,k=>by unfold AV.kill;cases e:p j<;>first | exact⟨k,e⟩ | trivial
 | .agg cs,k=>AV.oks_kill (A:=cs) k
 | .tup cs,k=>AV.oks_kill (A:=cs) k
 | .clo _ cs,k=>AV.oks_kill (A:=cs) k
 | .ifc _ A,k=>AV.ok_kill (A:=A) k
 | .int _ _,_=>trivial
 | .bool _,_=>trivial
 | .str _,_=>trivial
 | .sl _ _ _,_=>trivial
 | .pz _ _ _,_=>trivial
 | .pnil,_=>trivial
 | .nils,_=>trivial
 | .nilf,_=>trivial
 | .nili,_=>trivial
 | .und,_=>trivial
theorem AV.oks_kill{D:Nat->Type}{q:Nat->Prop}{p:Nat->Bool}:∀{A:List (AV D)},AV.oks q A->AV.oks (λj=>q j/\p j=H) (AV.kills p A)
 |[],_=>trivial
 |A::As,⟨k,l⟩=>⟨AV.ok_kill k,AV.oks_kill l⟩
end
theorem zxs{f:Nat->Priv}{l:List Nat}(hnd:l.Nodup){ids:List Nat}(hs:∀j∈l,j∈ids){gg:zc}(k:Sep Z (ids.map f) gg):Sep Z (l.map f) gg:=by
 classical
 have hpos:∀j,j∈l->∃m:Nat,ids[m]?=G j:=λj hj=>qC.1 (hs j hj)
 let pos:Nat->Nat:=λj=>if hj:j∈l then(hpos j hj).choose else 0
 have hp:∀j (hj:j∈l),ids[pos j]?=G j:=λj hj=>by
  grind
 refine k.select (l.map pos) ?_ ?_
 ·rw[UH,qs];refine qx ?_ (UH.1 hnd);grind
 ·rw[qc,qc];refine D3 λj hj=>?_
  grind
theorem AbsL.lend (h:AbsL κ S ν vs ids L b Z PV) {g:Sig}{m:Nat}{bl:Bl}{x:g.ty C}{T:St C}{L':List (Nat×Value)}{b':Nat->Value}(hT:T.heap=S.heap) (henv:∀t,VR C Z ν (look L' b' t) (T.env t)) (hg:YW g m T bl=G x) (hl:g.es.length<=64) :
    ∃ν' vs' ids',AbsL ⟨g.es.length,hl,ν'⟩ (g.open x) ν' vs' ids' L' b' Z (ids'.map λk=>zH C ν' vs' k ((g.open x).heap k))/\
     (∀k id,Bl.fn bl k=G id->ν'.hdr k=ν.hdr id/\ν'.adr k=ν.adr id)/\(∀k,k∈ids'↔(Bl.fn bl k).isSome=E)/\(∀k id,Bl.fn bl k=G id->(S.heap id).isSome=E)/\
     ∀gg,Sep Z PV gg->Sep Z ((ids'.map λk=>zH C ν' vs' k ((g.open x).heap k))++((ids.filter λj=> !yd j bl).map λj=>zH C ν vs j (S.heap j))) gg:=by
 let⟨hb,hg⟩:=zb hg;have hb:=((gf _ _).mp hb).1;have hB:=BdOK.of hb
 let B:=Bl.fn bl
 let ν':Val:={hdr:=λk=>match B k with | some id=>ν.hdr id | none =>.slice M 0 0,adr:=λk=>match B k with | some id=>ν.adr id | none=>default}
 let vs':Nat->List Value:=λk=>match B k with | some id=>vs id | none=>[]
 have hν:Rn B (λk=>k) ν ν':=⟨λk id e=>by simp[ν',e],h.one⟩;have hsplit:=zcb g.ts (g.es.map ESh.sh) (avs:=g.ts.map λt=>T.env t.1) (by simp) hg;have hsl:(qo g.es.length).map (vy T bl)=(qk 0 g.es.length).map λk=>match B k with | some id=>zjb (T.heap id) | none =>.und:=by
  rw[<- qA];rfl
 rw[hsl] at hsplit;have hcell:∀id cs,T.heap id=G (.cell cs)->VRs C Z ν (vs id) cs:=λid cs e=>h.cell id cs (by grind)
 have hheap:=λk id (e:B k=G id)=>za2 (N:=g.es.length) hν (λi j _ _ e=>e) hcell g.es 0 (by omega) hsplit (λk e he=>by rw[Dc];exact hB.gone k e he) k id e (UO _) (by have:=hB.lt k id e;omega)
 have hnone:∀k,B k=M->(g.open x).heap k=none:=λk e=>by
  refine vJ g.es 0 λj e' he hj=>?_
  have hj:k=j:=by simpa using hj
  subst hj;exact(hB.gone k e' he).2 e
 have hsome:∀k,((g.open x).heap k).isSome=E↔(B k).isSome=true:=λk=>by
  cases e:B k with
  |none=>grind
  |some id=>
   rcases hheap k id e with⟨cs,cs',_,h2,_⟩ | ⟨T,s,_,h2⟩ | ⟨q,T,b2,s,_,h2⟩ | ⟨T,s,g1,g2,_,h2,_⟩
   all_goals rw[show(g.open x).heap k=_ from h2];simp
 have henv':=zcc (L:=L') (b:=b') (Z:=Z) hν (g.es.map ESh.sh) henv g.ts hg
 let ids':=(qo g.es.length).filter λk=>(B k).isSome
 have hmem:∀k,k∈ids'↔(B k).isSome=true:=λk=>by
  simp only[ids',D9,DA];refine⟨λh=>h.2,λh=>⟨?_,h⟩⟩;let⟨id,e⟩:=UQ.1 h;exact hB.lt k id e
 have hnd:ids'.Nodup:=qy qv List.nodup_range;have hin:∀k id,B k=G id->(S.heap id).isSome=E/\zH C ν' vs' k ((g.open x).heap k)=zH C ν vs id (S.heap id):=λk id e=>by
  rcases hheap k id e with⟨cs,cs',h1,h2,_⟩ | ⟨T',s,h1,h2⟩ | ⟨q,T',b2,s,h1,h2⟩ | ⟨T',s,g1,g2,h1,h2,h3⟩
  ·rw[hT] at h1;refine⟨by rw[h1];rfl,?_⟩;rw[show(g.open x).heap k=_ from h2,h1];simp[zH,ν',vs',e]
  ·rw[hT] at h1;refine⟨by rw[h1];rfl,?_⟩;rw[show(g.open x).heap k=_ from h2,h1];simp[zH,ν',e]
  ·rw[hT] at h1;refine⟨by rw[h1];rfl,?_⟩;rw[show(g.open x).heap k=_ from h2,h1];simp[zH,ν',e]
  ·rw[hT] at h1;refine⟨by rw[h1];rfl,?_⟩;rw[show(g.open x).heap k=_ from h2,h1];simp only[zH,ν',e];rw[zc7 λj hj=>⟨(h3 j hj).symm,rfl⟩]
 refine⟨ν',vs',ids',⟨⟨hnd,λk=>by grind,rfl,λk cs hk=>?_,λt=>(henv' t).1,λi=>?_⟩,λt=>?_,λk cs hk=>?_,λk hk hs=>⟨rfl,rfl,λ_=>rfl⟩⟩,λk id e=>?_,hmem,λk id e=>(hin k id e).1,λgg ks=>?_⟩
 · let⟨id,e⟩:=UQ.1 ((hsome k).1 (by rw[hk];rfl));rcases hheap k id e with⟨c,c',h1,h2,h3,_⟩ | ⟨T,s,h1,h2⟩ | ⟨q,T,b2,s,h1,h2⟩ | ⟨T,s,g1,g2,h1,h2,_⟩
   ·rw[show(g.open x).heap k=_ from h2] at hk;grind
   ·rw[show(g.open x).heap k=_ from h2] at hk;cases hk
   ·rw[show(g.open x).heap k=_ from h2] at hk;cases hk
   ·rw[show(g.open x).heap k=_ from h2] at hk;cases hk
 · simp only[ν'];cases B i with
   |none=>rfl
   |some id=>exact h.one id
 ·refine AV.ok_mono (λj hj=>?_) (henv' t).2;let⟨k2,id2,e2,e3⟩:=hj;grind
 · let⟨id,e⟩:=UQ.1 ((hsome k).1 (by rw[hk];rfl));rcases hheap k id e with⟨c,c',h1,h2,_,h4⟩ | ⟨T,s,h1,h2⟩ | ⟨q,T,b2,s,h1,h2⟩ | ⟨T,s,g1,g2,h1,h2,_⟩
   ·rw[show(g.open x).heap k=_ from h2] at hk;cases hk;refine AV.oks_mono (λj hj=>?_) h4;let⟨k2,id2,e2,e3⟩:=hj;grind
   ·rw[show(g.open x).heap k=_ from h2] at hk;cases hk
   ·rw[show(g.open x).heap k=_ from h2] at hk;cases hk
   ·rw[show(g.open x).heap k=_ from h2] at hk;cases hk
 ·grind
 · rw[h.pv] at ks
   let imgs:List Nat:=ids'.map λk=>(B k).getD 0
   have himg:∀k,k∈ids'->B k=G ((B k).getD 0):=λk hk=>by
    let⟨id,e⟩:=UQ.1 ((hmem k).1 hk);rw[e];rfl
   have e1:(ids'.map λk=>zH C ν' vs' k ((g.open x).heap k))=imgs.map λj=>zH C ν vs j (S.heap j):=by
    rw[qc];exact D3 λk hk=>(hin k _ (himg k hk)).2
   rw[e1,<- qD];refine zxs ?_ ?_ ks
   · refine qB.2 ⟨?_,qy qv h.nd,?_⟩
     ·show(ids'.map λk=>(B k).getD 0).Nodup;rw[UH,qs];refine qx ?_ (UH.1 hnd);intro i j hi hj hne e;have h1:=himg i hi;have h2:=himg j hj;rw[e] at h1;exact hne (hB.inj i j _ h1 h2)
     ·intro i hi j hj e;subst e;obtain⟨k,hk,rfl⟩:=D6.1 hi;have:=(D9.1 hj).2;rw[Xi (himg k hk)] at this;cases this
   · intro j hj;rcases U9.1 hj with hj | hj
     ·obtain⟨k,hk,rfl⟩:=D6.1 hj;exact(h.dom _).2 (hin k _ (himg k hk)).1
     ·exact(D9.1 hj).1
end
end
section
variable [Dfr]
def zz(id:Nat):List Nat->Bool
 |[]=>H
 |a::r=>W id a || zz id r
theorem zO{id:Nat}:∀{l:List Nat},zz id l=E↔id∈l
 |[]=>by simp[zz]
 |a::r=>by
  simp only[zz,UR,zO (l:=r),De];constructor
  ·rintro(h | h)
   ·exact .inl (ge h)
   grind
  ·rintro(rfl | h)
   ·left;simp
   grind
theorem zft{id:Nat}:∀{bl:Bl},yd id bl=E->∃k,Bl.fn bl k=G id
 |[],h=>by cases h
 |none::r,h=>by
  let⟨k,e⟩:=zft (bl:=r) h;exact⟨k+1,by simpa[Bl.fn] using e⟩
 |some a::r,h=>by
  simp only[yd,UR] at h;rcases h with h | h
  ·exact⟨0,by simp[Bl.fn,ge h]⟩
  ·let⟨k,e⟩:=zft (bl:=r) h;exact⟨k+1,by simpa[Bl.fn] using e⟩
def YD:List ESh->Bl->List Nat
 |e::es,b::bl=>(match b with
  |some id=>bif e.isGone then [id] else []
  |none=>[])++YD es bl
 |_,_=>[]
theorem zag{id:Nat}:∀{es:List ESh}{bl:Bl},id∈YD es bl↔∃(k:Nat) (e:ESh),es[k]?=G e/\e.isGone=E/\Bl.fn bl k=G id
 |[],bl=>by simp[YD]
 |e::es,[]=>by simp[YD,Bl.fn]
 |e::es,b::bl=>by
  rw[show YD (e::es) (b::bl)=(match b with | some id=>bif e.isGone then [id] else [] | none=>[])++YD es bl from rfl,U9,zag (es:=es) (bl:=bl)];constructor
  ·rintro(h | ⟨k,e',h1,h2,h3⟩)
   ·cases b with
    |none=>cases h
    |some a=>
     cases hg:e.isGone with
     |false=>grind
     |true=>rw[hg] at h;simp at h;exact⟨0,e,rfl,hg,by simp[Bl.fn,h]⟩
   ·exact⟨k+1,e',by simpa using h1,h2,by simpa[Bl.fn] using h3⟩
  ·rintro⟨k,e',h1,h2,h3⟩;cases k with
   |zero=>
    left;simp at h1;subst h1;have:b=G id:=by simpa[Bl.fn] using h3
    grind
   |succ k=>exact .inr ⟨k,e',by simpa using h1,h2,by simpa[Bl.fn] using h3⟩
section
variable {κ κs:Kp}{C:Cod}{S Sr:St C}{n:Nat}{w0:Start}{σ0 Z Z':FS}{P:Program}{L Lr:List (Nat×Value)}{b br:Nat->Value}{PV A':List Priv}{ν νr:Val}{vs vsr:Nat->List Value}{ids idsr:List Nat}
def Ent.ren(ρ:Nat->Nat):Ent C->Ent C
 | .cell cs =>.cell (AV.rens ρ cs)
 | .row T s =>.row T s
 | .obj k T b s =>.obj k T b s
 | .orow T s g =>.orow T s g
def Own.ufx(b:Bool):Own->Own
 | .fix=>bif b then .fix else .all
 |g=>g
theorem Own.ufx_fl{b:Bool}{g:Own}(j:Nat):(g.ufx b).fl j=g.fl j:=by
 cases g<;>cases b<;>rfl
def Ent.mv(ρ:Nat->Nat)(b:Bool):Ent C->Ent C
 | .cell cs =>.cell (AV.rens ρ cs)
 | .row T s =>.row T s
 | .obj k T b s =>.obj k T b s
 | .orow T s g =>.orow T s (g.ufx b)
theorem zxt{ρ:Nat->Nat}{b:Bool}{o:U7 (Ent C)}(h:Z0 (o.map (Ent.mv ρ b))=E):Z0 o=E/\b=true:=by
 cases o with
 |none=>cases h
 |some e=>
  cases e with
  |orow T s g=>cases g<;>cases b<;>first | exact⟨rfl,rfl⟩ | cases h
  |cell=>cases h
  |row=>cases h
  |obj=>cases h
def kpL(Sr:St C):Bl->Nat->List Nat
 |[],_=>[]
 |b::bl,k=>(match b with
  |some id=>bif Z0 (Sr.heap k) then [id] else []
  |none=>[])++kpL Sr bl (k+1)
theorem znp{id:Nat}:∀{bl:Bl}{k0:Nat},id∈kpL Sr bl k0->∃k,Bl.fn bl k=G id/\Z0 (Sr.heap (k0+k))=E
 |[],_,h=>by cases h
 |b::bl,k0,h=>by
  rcases U9.1 h with h | h
  ·cases b with
   |none=>cases h
   |some a=>
    cases hf:Z0 (Sr.heap k0) with
    |false=>grind
    |true=>
     rw[hf] at h;have:id=a:=by simpa using h
     subst this;exact⟨0,rfl,hf⟩
  ·let⟨k,h1,h2⟩:=znp (bl:=bl) h;exact⟨k+1,by simpa[Bl.fn] using h1,by grind⟩
def Ent.kill(p:Nat->Bool):Ent C->Ent C
 | .cell cs =>.cell (AV.kills p cs)
 | .row T s =>.row T s
 | .obj k T b s =>.obj k T b s
 | .orow T s g =>.orow T s g
def xy(d:Nat)(bl:Bl)(k:Nat):Nat:=match Bl.fn bl k with
 |some id=>id
 |none=>nid d k
def wP(ρ:Nat->Nat)(fx:Nat->Bool)(Hr:Nat->U7 (Ent C)):List ESh->Nat->(Nat->U7 (Ent C))->Nat->U7 (Ent C)
 |[],_,base=>base
 |e::es,k,base=>λi=>bif !e.isGone && W i (ρ k) then(Hr k).map (Ent.mv ρ (fx (ρ k))) else wP ρ fx Hr es (k+1) base i
theorem vH{ρ:Nat->Nat}{fx:Nat->Bool}{Hr base:Nat->U7 (Ent C)}{i:Nat}:∀{es:List ESh}{k0:Nat},(∀k e,es[k]?=G e->e.isGone=H->i≠ρ (k0+k))->wP ρ fx Hr es k0 base i=base i
 |[],_,_=>rfl
 |e::es,k0,h=>by
  unfold wP;have ih:=vH (ρ:=ρ) (fx:=fx) (Hr:=Hr) (base:=base) (i:=i) (es:=es) (k0:=k0+1) λk e' he hg=>by
   have:=h (k+1) e' (by simpa using he) hg;grind
  cases hg:e.isGone with
  |true=>simpa using ih
  |false=>
   cases hb:W i (ρ k0) with
   |true=>exact absurd (ge hb) (h 0 e rfl hg)
   |false=>simpa using ih
theorem zdi{ρ:Nat->Nat}{fx:Nat->Bool}{Hr base:Nat->U7 (Ent C)}:∀{es:List ESh}{k0:Nat},(∀i j ei ej,es[i]?=G ei->es[j]?=G ej->ei.isGone=H->ej.isGone=H->ρ (k0+i)=ρ (k0+j)->i=j)->∀{k:Nat}{e:ESh},es[k]?=G e->e.isGone=H->wP ρ fx Hr es k0 base (ρ (k0+k))=(Hr (k0+k)).map (Ent.mv ρ (fx (ρ (k0+k))))
 |[],_,_,k,e,h,_=>by simp at h
 |e0::es,k0,hinj,k,e,h,hg=>by
  unfold wP;cases k with
  |zero=>
   simp at h;subst h;simp[hg]
  |succ k=>
   have h':es[k]?=G e:=by simpa using h
   have hne:(!e0.isGone && W (ρ (k0+(k+1))) (ρ k0))=false:=by
    cases hg0:e0.isGone with
    |true=>rfl
    |false=>
     cases hb:W (ρ (k0+(k+1))) (ρ k0) with
     |false=>rfl
     |true=>
      have:=hinj (k+1) 0 e e0 h rfl hg hg0 (ge hb);omega
   rw[hne,UC]
   have:=zdi (ρ:=ρ) (fx:=fx) (Hr:=Hr) (base:=base) (es:=es) (k0:=k0+1) (λi j ei ej hi hj gi gj e=>by
    have:=hinj (i+1) (j+1) ei ej (by simpa using hi) (by simpa using hj) gi gj (by grind)
    omega) h' hg
   grind
def Zx(S Sr:St C)(d:Nat)(bl:Bl)(es:List ESh):St C:=
 let gone:=λi=>zz i (YD es bl)
 let lent:=λi=>yd i bl && !zz i (kpL Sr bl 0)
 {env:=λt=>AV.kill gone (AV.knx lent (S.env t)),heap:=wP (xy d bl) (λi=>Z0 (S.heap i)) Sr.heap es 0 λi=>bif gone i then M else(S.heap i).map λe=>Ent.kill gone (Ent.knx lent e)}
theorem zxu{d i j:Nat}(h:nid d i=nid d j):i=j:=by unfold nid at h;omega
theorem AbsL.merge (h:AbsL κ S ν vs ids L b Z PV) (hr:AbsL κs Sr νr vsr idsr Lr br Z' A') (hle:Z.le Z') {bl:Bl}{d:Nat}{es:List ESh}
    (hinj:∀i j id,Bl.fn bl i=G id->Bl.fn bl j=G id->i=j) (hlt:∀k id,Bl.fn bl k=G id->k < κs.m) (hin:∀k id,Bl.fn bl k=G id->(S.heap id).isSome=E)
    (hkeep:∀k id,Bl.fn bl k=G id->κs.ν0.hdr k=ν.hdr id/\κs.ν0.adr k=ν.adr id)
    (hal:∀k,(Sr.heap k).isSome=E↔∃e,es[k]?=G e/\e.isGone=H) (hfr:∀k,(Sr.heap k).isSome=E->Bl.fn bl k=M->S.heap (nid d k)=M) (hlen:κs.m<=es.length) :
    ∃ν2 vs2 ids2,AbsL κ (Zx S Sr d bl es) ν2 vs2 ids2 L b Z' (A'++((ids.filter λj=> !yd j bl).map λj=>zH C ν vs j (S.heap j)))/\
     (∀k,(Sr.heap k).isSome=E->ν2.hdr (xy d bl k)=νr.hdr k/\ν2.adr (xy d bl k)=νr.adr k)/\∀k,(Sr.heap k).isSome=E->((Zx S Sr d bl es).heap (xy d bl k)).isSome=true:=by
 classical
 let ρ:=xy d bl
 let gone:Nat->Bool:=λi=>zz i (YD es bl)
 let lent:Nat->Bool:=λi=>yd i bl && !zz i (kpL Sr bl 0)
 let kk:Ent C->Ent C:=λe=>Ent.kill gone (Ent.knx lent e)
 have hrs:∀k id,Bl.fn bl k=G id->ρ k=id:=λk id e=>by simp[ρ,xy,e]
 have hrn:∀k,Bl.fn bl k=M->ρ k=nid d k:=λk e=>by simp[ρ,xy,e]
 have hρ:∀i j,(Sr.heap i).isSome=E->(Sr.heap j).isSome=E->ρ i=ρ j->i=j:=λi j hi hj e=>by
  cases ei:Bl.fn bl i with
  |some a=>
   rw[hrs i a ei] at e;cases ej:Bl.fn bl j with
   |some c=>grind
   |none=>
    grind
  |none=>
   rw[hrn i ei] at e;cases ej:Bl.fn bl j with
   |some c=>
    grind
   |none=>rw[hrn j ej] at e;exact zxu e
 let nm:Nat->U7 Nat:=λi=>if hx:∃k,(Sr.heap k).isSome=E/\ρ k=i then G hx.choose else M
 have hnm:∀k,(Sr.heap k).isSome=E->nm (ρ k)=G k:=λk hk=>by
  have hx:∃j,(Sr.heap j).isSome=E/\ρ j=ρ k:=⟨k,hk,rfl⟩
  grind
 have hnm0:∀i,(∀k,(Sr.heap k).isSome=E->ρ k≠i)->nm i=none:=λi hi=>by
  grind
 let ν2:Val:={hdr:=λi=>match nm i with | some k=>νr.hdr k | none=>ν.hdr i,adr:=λi=>match nm i with | some k=>νr.adr k | none=>ν.adr i}
 let vs2:Nat->List Value:=λi=>match nm i with | some k=>vsr k | none=>vs i
 have f1:∀k,(Sr.heap k).isSome=E->ν2.hdr (ρ k)=νr.hdr k/\ν2.adr (ρ k)=νr.adr k:=λk hk=>by grind
 have old:∀k i,(Sr.heap k).isSome=E->(S.heap i).isSome=E->ρ k=i->Bl.fn bl k=G i:=λk i hk hi e=>by
  cases ek:Bl.fn bl k with
  |some a=>grind
  |none=>grind
 have f2:∀i,(S.heap i).isSome=E->ν.hdr i=ν2.hdr i/\(ν.adr i).a=(ν2.adr i).a:=λi hi=>by
  by_cases hx:∃k,(Sr.heap k).isSome=E/\ρ k=i
  ·let⟨k,h1,h2⟩:=hx;have e:=old k i h1 hi h2;have k1:=hr.keep k (hlt k i e) h1;have k2:=hkeep k i e;have k3:=f1 k h1;rw[h2] at k3;grind
  grind
 have fk:∀k i,(Sr.heap k).isSome=E->Bl.fn bl k=G i->Z0 (Sr.heap k)=E->(ν.adr i).sub=(ν2.adr i).sub:=λk i h1 e hf=>by
  have k1:=hr.keep k (hlt k i e) h1;have k3:=f1 k h1;rw[hrs k i e] at k3;grind
 have f3:∀i,(S.heap i).isSome=E->lent i=H->(ν.adr i).sub=(ν2.adr i).sub:=λi hi hm=>by
  by_cases hx:∃k,(Sr.heap k).isSome=E/\ρ k=i
  ·let⟨k,h1,h2⟩:=hx;have e:=old k i h1 hi h2;have hm:(yd i bl && !zz i (kpL Sr bl 0))=false:=hm;rw[Xi e,Bool.true_and,Bool.not_eq_false'] at hm;let⟨j,e1,e2⟩:=znp (zO.1 hm);grind
  grind
 have H1:∀k,(Sr.heap k).isSome=E->(Zx S Sr d bl es).heap (ρ k)=(Sr.heap k).map (Ent.mv ρ (Z0 (S.heap (ρ k)))):=λk hk=>by
  let⟨e,he,hg⟩:=(hal k).1 hk
  have:=zdi (ρ:=ρ) (fx:=λi=>Z0 (S.heap i)) (Hr:=Sr.heap) (base:=λi=>bif gone i then M else(S.heap i).map kk) (es:=es) (k0:=0) (λi j ei ej hi hj gi gj e=>by
   rw[Dc,Dc] at e
   exact hρ i j ((hal i).2 ⟨ei,hi,gi⟩) ((hal j).2 ⟨ej,hj,gj⟩) e) he hg
  rw[Dc] at this;exact this
 have H2:∀i,(∀k,(Sr.heap k).isSome=E->ρ k≠i)->(Zx S Sr d bl es).heap i=bif gone i then M else(S.heap i).map kk:=λi hi=>
  vH λk e he hg=>by rw[Dc];exact λe'=>hi k ((hal k).2 ⟨e,he,hg⟩) e'.symm
 have gmem:∀i,gone i=E->yd i bl=true:=λi hi=>by
  let⟨k,e,_,_,h3⟩:=zag.1 (zO.1 hi);exact Xi h3
 have galive:∀i,gone i=E->∀k,(Sr.heap k).isSome=E->ρ k≠i:=λi hi k hk e=>by
  let⟨j,ee,h1,h2,h3⟩:=zag.1 (zO.1 hi);have hi':=hin j i h3;have e2:=old k i hk hi' e;have:=hinj j k i h3 e2;subst this;let⟨e3,h4,h5⟩:=(hal j).1 hk;rw[h1] at h4;cases h4;rw[h2] at h5;cases h5
 have rest:∀i,i∈ids.filter (λj=> !yd j bl)->(S.heap i).isSome=E/\gone i=H/\∀k,(Sr.heap k).isSome=E->ρ k≠i:=λi hi=>by
  let⟨h1,h2⟩:=D9.1 hi;have h3:=(h.dom i).1 h1;have h2:yd i bl=false:=by simpa using h2
  refine⟨h3,?_,λk hk e=>?_⟩
  · cases hg:gone i with
    |false=>rfl
    |true=>rw[gmem i hg] at h2;cases h2
  ·rw[Xi (old k i hk h3 e)] at h2;cases h2
 have live1:∀k,(Sr.heap k).isSome=E->((Zx S Sr d bl es).heap (ρ k)).isSome=true:=λk hk=>by rw[H1 k hk];simpa using hk
 have live2:∀i,(S.heap i).isSome=E/\gone i=H->((Zx S Sr d bl es).heap i).isSome=true:=λi ⟨h1,h2⟩=>by
  by_cases hx:∃k,(Sr.heap k).isSome=E/\ρ k=i
  ·let⟨k,h3,h4⟩:=hx;rw[<- h4];exact live1 k h3
  ·rw[H2 i λk h3 h4=>hx ⟨k,h3,h4⟩,h2];simpa using h1
 have idr:∀k,k∈idsr↔(Sr.heap k).isSome=true:=hr.dom
 refine⟨ν2,vs2,idsr.map ρ++ids.filter λj=> !yd j bl,⟨⟨?_,λi=>?_,?_,λi cs hi=>?_,λt=>?_,λi=>?_⟩,λt=>?_,λi cs hi=>?_,λk hk hs=>?_⟩,f1,live1⟩
 · refine qB.2 ⟨?_,qy qv h.nd,?_⟩
   ·rw[UH,qs];refine qx ?_ (UH.1 hr.nd);intro i j hi hj hne e;exact hne (hρ i j ((idr i).1 hi) ((idr j).1 hj) e)
   ·intro i hi j hj e;subst e;obtain⟨k,hk,rfl⟩:=D6.1 hi;exact(rest _ hj).2.2 k ((idr k).1 hk) rfl
 · rw[U9];constructor
   · rintro(hi | hi)
     ·obtain⟨k,hk,rfl⟩:=D6.1 hi;exact live1 k ((idr k).1 hk)
     ·have:=rest i hi;exact live2 i ⟨this.1,this.2.1⟩
   · intro hi;by_cases hx:∃k,(Sr.heap k).isSome=E/\ρ k=i
     ·let⟨k,h3,h4⟩:=hx;exact .inl (D6.2 ⟨k,(idr k).2 h3,h4⟩)
     · right;have h2:=H2 i λk h3 h4=>hx ⟨k,h3,h4⟩
       rw[h2] at hi;cases hg:gone i with
       |true=>rw[hg] at hi;cases hi
       |false=>
        rw[hg] at hi;have hs:(S.heap i).isSome=true:=by simpa using hi
        refine D9.2 ⟨(h.dom i).2 hs,?_⟩;cases hm:yd i bl with
        |false=>rfl
        |true=>
         exfalso;let⟨k,ek⟩:=zft hm;have hkl:k < es.length:=Nat.lt_of_lt_of_le (hlt k i ek) hlen;cases hge:es[k].isGone with
         |true=>
          have:gone i=true:=zO.2 (zag.2 ⟨k,es[k],UM hkl,hge,ek⟩);rw[hg] at this;cases this
         |false=>exact hx ⟨k,(hal k).2 ⟨_,UM hkl,hge⟩,hrs k i ek⟩
 · rw[qD];congr 1
   · rw[hr.pv,qc];refine D3 λk hk=>?_
     have hk:=(idr k).1 hk;show _=zH C ν2 vs2 (ρ k) ((Zx S Sr d bl es).heap (ρ k));rw[H1 k hk];have e1:=f1 k hk;cases hs:Sr.heap k with
     |none=>rw[hs] at hk;cases hk
     |some en=>
      cases en with
      |orow T s g=>
       show Priv.row (Zd C T) T (νr.hdr k) (hpl C T (νr.adr k).sub s g)=Priv.row (Zd C T) T (ν2.hdr (ρ k)) (hpl C T (ν2.adr (ρ k)).sub s (g.ufx _));rw[e1.1,e1.2,zc7 (g:=g) (g':=g.ufx (Z0 (S.heap (ρ k)))) λj _=>⟨(Own.ufx_fl j).symm,rfl⟩]
      |cell=>simp[zH,Ent.mv,e1,vs2,hnm k hk]
      |row=>simp[zH,Ent.mv,e1]
      |obj=>simp[zH,Ent.mv,e1]
   · refine D3 λi hi=>?_
     let⟨r1,r2,r3⟩:=rest i hi;show _=zH C ν2 vs2 i ((Zx S Sr d bl es).heap i);rw[H2 i r3,r2,UC];have e1:=f2 i r1;have e2:=hnm0 i r3;cases hs:S.heap i with
     |none=>rw[hs] at r1;cases r1
     |some en=>
      have e3:=f3 i r1 (by show(yd i bl && _)=H;rw[show yd i bl=H by simpa using(D9.1 hi).2];rfl);cases en<;>simp[zH,kk,Ent.kill,Ent.knx,<- e1.1,<- e1.2,<- e3,vs2,e2]
 · by_cases hx:∃k,(Sr.heap k).isSome=E/\ρ k=i
   · let⟨k,h3,h4⟩:=hx;subst h4;rw[H1 k h3] at hi;cases hs:Sr.heap k with
     |none=>rw[hs] at h3;cases h3
     |some en=>
      rw[hs] at hi;cases en with
      |row T s=>cases hi
      |obj q T b s=>cases hi
      |orow T s g=>cases hi
      |cell cs0=>
       cases hi;show VRs C Z' ν2 (vs2 (ρ k)) _;simp only[vs2,hnm k h3];exact VRs.ren (p:=λid=>(Sr.heap id).isSome=E) (λj hj=>f1 j hj) (hr.livec k cs0 hs) (hr.cell k cs0 hs)
   · have r3:∀k,(Sr.heap k).isSome=E->ρ k≠i:=λk h3 h4=>hx ⟨k,h3,h4⟩
     rw[H2 i r3] at hi;cases hg:gone i with
     |true=>rw[hg] at hi;cases hi
     |false=>
      rw[hg,UC] at hi;cases hs:S.heap i with
      |none=>rw[hs] at hi;cases hi
      |some en=>
       rw[hs] at hi;cases en with
       |row T s=>cases hi
       |obj q T b s=>cases hi
       |orow T s g=>cases hi
       |cell cs0=>
        cases hi;show VRs C Z' ν2 (vs2 i) _;simp only[vs2,hnm0 i r3];exact VRs.kill (VRs.knx (q:=lent) f2 f3 (h.livec i cs0 hs) ((h.cell i cs0 hs).mono hle))
 ·exact VR.kill (VR.knx (q:=lent) f2 f3 (h.live t) ((h.env t).mono hle))
 · show(ν2.hdr i).oneCell'=E;simp only[ν2];cases nm i with
   |none=>exact h.one i
   |some k=>exact hr.one k
 ·exact AV.ok_mono live2 (AV.ok_kill (AV.ok_knx (h.live t)))
 · by_cases hx:∃k,(Sr.heap k).isSome=E/\ρ k=i
   · let⟨k,h3,h4⟩:=hx;subst h4;rw[H1 k h3] at hi;cases hs:Sr.heap k with
     |none=>rw[hs] at h3;cases h3
     |some en=>
      rw[hs] at hi;cases en with
      |row T s=>cases hi
      |obj q T b s=>cases hi
      |orow T s g=>cases hi
      |cell cs0=>cases hi;exact AV.oks_ren live1 (hr.livec k cs0 hs)
   · have r3:∀k,(Sr.heap k).isSome=E->ρ k≠i:=λk h3 h4=>hx ⟨k,h3,h4⟩
     rw[H2 i r3] at hi;cases hg:gone i with
     |true=>rw[hg] at hi;cases hi
     |false=>
      rw[hg,UC] at hi;cases hs:S.heap i with
      |none=>rw[hs] at hi;cases hi
      |some en=>
       rw[hs] at hi;cases en with
       |row T s=>cases hi
       |obj q T b s=>cases hi
       |orow T s g=>cases hi
       |cell cs0=>cases hi;exact AV.oks_mono live2 (AV.oks_kill (AV.oks_knx (h.livec i cs0 hs)))
 · have hsome:(S.heap k).isSome=true:=by
     by_cases hx:∃j,(Sr.heap j).isSome=E/\ρ j=k
     · let⟨j,h3,h4⟩:=hx;cases ej:Bl.fn bl j with
       |some a=>rw[hrs j a ej] at h4;rw[<- h4];exact hin j a ej
       |none=>
        rw[hrn j ej] at h4;have:=yL κ d j;omega
     · rw[H2 k λj h3 h4=>hx ⟨j,h3,h4⟩] at hs;cases hg:gone k with
       |true=>rw[hg] at hs;cases hs
       |false=>rw[hg] at hs;simpa using hs
   have:=h.keep k hk hsome;have e2:=f2 k hsome;refine⟨e2.1.symm.trans this.1,e2.2.symm.trans this.2.1,λhf=>?_⟩;by_cases hx:∃j,(Sr.heap j).isSome=E/\ρ j=k
   ·let⟨j,h3,h4⟩:=hx;subst h4;rw[H1 j h3] at hf;let⟨g1,g2⟩:=zxt hf;exact(fk j _ h3 (old j _ h3 hsome rfl) g1).symm.trans (this.2.2 g2)
   · have r3:∀j,(Sr.heap j).isSome=E->ρ j≠k:=λj h3 h4=>hx ⟨j,h3,h4⟩
     have e3:ν2.adr k=ν.adr k:=by simp[ν2,hnm0 k r3]
     rw[e3];refine this.2.2 ?_;rw[H2 k r3] at hf;cases hg:gone k with
     |true=>rw[hg] at hf;cases hf
     |false=>
      rw[hg,UC] at hf;cases hs2:S.heap k with
      |none=>rw[hs2] at hf;cases hf
      |some en=>rw[hs2] at hf;cases en<;>first | exact hf | cases hf
end
variable [Dfr]
section
variable {C:Cod}
def yk:(outs:List (XK×Sig))->zf C outs->List ESh
 |[],y=>y.elim
 |[o],_=>o.2.es
 |o::o2::r,y=>match(y:XK.ty C o.1 o.2⊕zf C (o2::r)) with
  | .inl _=>o.2.es
  | .inr y=>yk (o2::r) y
def zee(es:List ESh)(S:St C):Prop:=∀k,(S.heap k).isSome=E↔∃e,es[k]?=G e/\e.isGone=H
theorem zdj:∀(es:List ESh) (k0:Nat) (x:Sh.tys C (es.map ESh.sh)) (k:Nat),(ZN (λk=>k) es k0 x k).isSome=E↔∃j e,k=k0+j/\es[j]?=G e/\e.isGone=H
 |[],k0,x,k=>by simp[ZN]
 |e::es,k0,x,k=>by
  unfold ZN;cases hb:W k k0 with
  |true=>
   have hk:=ge hb;subst hk;rw[D1];constructor
   ·intro h;refine⟨0,e,rfl,rfl,?_⟩;cases e<;>first | rfl | (simp[ESh.ent] at h)
   ·rintro⟨j,e',h1,h2,h3⟩;have:j=0:=by omega
    subst this;simp at h2;subst h2;cases e<;>first | rfl | cases h3
  |false=>
   rw[UC,zdj es (k0+1)];constructor
   ·rintro⟨j,e',h1,h2,h3⟩;exact⟨j+1,e',by omega,by simpa using h2,h3⟩
   ·rintro⟨j,e',h1,h2,h3⟩;cases j with
    |zero=>subst h1;simp at hb
    |succ j=>grind
theorem xQ(g:Sig)(x:g.ty C):zee g.es (g.open x):=λk=>by
 show(ZN (λk=>k) g.es 0 (WU g.ts (g.es.map ESh.sh) x) k).isSome=E↔_;rw[zdj];constructor
 ·grind
 grind
theorem XA{α:Type}{Q:XE C->St C->Prop}{K:XE C->St C->α}{z:α}:∀{outs:List (XK×Sig)}{r:zf C outs},zR outs r K=z->zR outs r Q->∃e S,K e S=z/\Q e S/\zee (yk outs r) S
 |[],r,_,_=>r.elim
 |[o],r,h,q=>one h q
 |o::o2::l,r,h,q=>by
  unfold zR at h q;unfold yk;cases r with
  |inl a=>exact one h q
  |inr y=>exact XA h q
where
 one {α:Type} {Q:XE C->St C->Prop} {K:XE C->St C->α} {z:α} {o:XK×Sig} {y:XK.ty C o.1 o.2} (h:Yg o.1 o.2 y K=z) (q:Yg o.1 o.2 y Q):∃e S,K e S=z/\Q e S/\zee o.2.es S:=by
  let⟨k,g⟩:=o;cases k with
  |normal=>exact⟨_,_,h,q,xQ g _⟩
  |exit i=>exact⟨_,_,h,q,xQ g _⟩
  |ret=>exact⟨_,_,h,q,xQ g _⟩
  |pan s=>exact⟨_,_,h,q,xQ g _⟩
end
def vB:Nat:=1000000000
section
variable {κ:Kp}{C:Cod}{S:St C}{n:Nat}{w0:Start}{σ0 Z:FS}{P:Program}{L:List (Nat×Value)}{b:Nat->Value}{PV:List Priv}{ν:Val}{vs:Nat->List Value}{ids:List Nat}
def virt(S:St C)(As:List (AV C.D)):St C:={env:=λt=>bif O t vB then S.env t else(As[t - vB]?).getD .und,heap:=S.heap}
def unvirt(S:St C):St C:={env:=λt=>bif O t vB then S.env t else .und,heap:=S.heap}
def yl(L:List (Nat×Value))(b:Nat->Value)(us:List Value)(t:Nat):Value:=bif O t vB then look L b t else(us[t - vB]?).getD undef
omit [Dfr] in
theorem AbsL.virt(h:AbsL κ S ν vs ids L b Z PV){us:List Value}{As:List (AV C.D)}(hr:VRs C Z ν us As)(hl:AV.oks (λid=>(S.heap id).isSome=E) As):AbsL κ (virt S As) ν vs ids [] (yl L b us) Z PV:=by
 refine⟨⟨h.nd,h.dom,h.pv,h.cell,λt=>?_,h.one⟩,λt=>?_,h.livec,h.keep⟩
 ·show VR C Z ν (yl L b us t) (bif O t vB then S.env t else(As[t - vB]?).getD .und);unfold yl;cases O t vB with
  |true=>exact h.env t
  |false=>
   simp only[UC];cases e:As[t - vB]? with
   |none=>trivial
   |some A=>
    let⟨u,e1,e2⟩:=hr.get _ A e;grind
 ·show(bif O t vB then S.env t else(As[t - vB]?).getD .und).ok _;cases O t vB with
  |true=>exact h.live t
  |false=>
   simp only[UC];cases e:As[t - vB]? with
   |none=>trivial
   |some A=>exact AV.oks_iff.1 hl A (UW e)
omit [Dfr] in
theorem AbsL.unvirt{us:List Value}(h:AbsL κ S ν vs ids [] (yl L b us) Z PV):AbsL κ (unvirt S) ν vs ids L b Z PV:=by
 refine⟨⟨h.nd,h.dom,h.pv,h.cell,λt=>?_,h.one⟩,λt=>?_,h.livec,h.keep⟩
 ·show VR C Z ν _ (bif O t vB then S.env t else .und);have:=h.env t;have this:VR C Z ν (yl L b us t) (S.env t):=this;unfold yl at this;cases e:O t vB with
  |true=>grind
  |false=>trivial
 ·show(bif O t vB then S.env t else .und).ok _;cases O t vB with
  |true=>exact h.live t
  |false=>trivial
def Sig.shift(g:Sig):Sig:={ts:=g.ts.map λt=>(vB+t.1,t.2),es:=g.es}
def xb(S:St C):St C:={env:=λt=>S.env (vB+t),heap:=S.heap}
def YH(ins:Sig)(T:St C)(n:Nat):U7 (St C×Bl×ins.ty C):=
 let S2:=ins.shift.prep 0 T
 let bl:=Zy ins.shift 0 S2
 chk (W n ins.ts.length && X ins.es.length 64) ((YW ins 0 (xb S2) bl).map λx=>(S2,bl,x))
def YT(ins:Sig)(S:St C)(As:List (AV C.D)):U7 (St C×Bl×ins.ty C):=
 let S2:=ins.shift.prep 0 (virt S As)
 let bl:=Zy ins.shift 0 S2
 chk (W As.length ins.ts.length && X ins.es.length 64) ((YW ins 0 (xb S2) bl).map λx=>(S2,bl,x))
def VB(S Sr:St C)(d:Nat)(bl:Bl):Nat->Bool
 |0=>E
 |k+1=>(match Bl.fn bl k with
  |some _=>E
  |none=>isNone (Sr.heap k) || isNone (S.heap (nid d k))) && VB S Sr d bl k
theorem zdk{S Sr:St C}{d:Nat}{bl:Bl}:∀{N:Nat},VB S Sr d bl N=E->∀k,k < N->(Sr.heap k).isSome=E->Bl.fn bl k=M->S.heap (nid d k)=M
 |N+1,h,k,hk,h1,h2=>by
  simp only[VB,gf] at h;by_cases e:k=N
  ·subst e;rw[h2] at h;simp only[UR] at h;rcases h.1 with q | q
   ·rw[Ze q] at h1;cases h1
   ·exact Ze q
  ·exact zdk h.2 k (by omega) h1 h2
def zkW(ρ:Nat->Nat)(nr:Nat)(Sr:St C):AV C.D:=match nr with
 |1=>AV.ren ρ (Sr.env 0)
 |k =>.tup ((qo k).map λi=>AV.ren ρ (Sr.env i))
def Wa(S2:St C)(d nr:Nat)(bl:Bl)(es:List ESh)(e:XE C)(Sr:St C):U7 (Out C):=
 chk (VB S2 Sr d bl es.length) (match e with
  | .ret=>G (.go ((unvirt (Zx S2 Sr d bl es)).put d (zkW (xy d bl) nr Sr)))
  | .pan A=>G (.pan A (unvirt (Zx S2 Sr d bl es)))
  |_=>M)
def xz(s:Spec C)(d:Nat)(S2:St C)(bl:Bl)(x:s.ins.ty C):U7 (Out C):=
 (s.F x).bind λr=>chk (X s.ins.es.length (yk s.outs r).length) (zR s.outs r λe Sr=>Wa S2 d s.nr bl (yk s.outs r) e Sr)
mutual
def AV.flat{D:Nat->Type}:AV D->Bool
 | .int _ _=>E
 | .bool _=>E
 | .str _=>E
 | .pnil=>E
 | .nils=>E
 | .nilf=>E
 | .nili=>E
 | .und=>E
 | .agg cs=>AV.flats cs
 | .tup cs=>AV.flats cs
 | .clo _ cs=>AV.flats cs
 | .ifc _ A=>AV.flat A
 |_=>H
def AV.flats{D:Nat->Type}:List (AV D)->Bool
 |[]=>E
 |A::As=>AV.flat A && AV.flats As
end
omit [Dfr] in
mutual
theorem VR.flat{Z':FS}{ν':Val}:∀{A:AV C.D}{v:Value},A.flat=E->VR C Z ν v A->VR C Z' ν' v A
 | .int _ _,v,_,r=>by rw[r.int_inv];exact Rv.int
 | .bool _,v,_,r=>by rw[r.bool_inv];exact Rv.bool
 | .str _,v,_,r=>by rw[r.str_inv];exact Rv.str
 | .pnil,v,_,r=>by rw[r.pnil_inv];exact Rv.pnil
 | .nils,v,_,r=>r
 | .nilf,v,_,r=>by
  have:Rv C Z v .nilf:=r;cases this;exact Rv.nilf
 | .nili,v,_,r=>by rw[r.nili_inv];exact Rv.nili
 | .und,v,_,r=>trivial
 | .agg cs,v,h,⟨vs,e,r⟩=>⟨vs,e,VRs.flat h r⟩
 | .tup cs,v,h,⟨vs,e,r⟩=>⟨vs,e,VRs.flat h r⟩
 | .clo _ cs,v,h,⟨vs,e,r⟩=>⟨vs,e,VRs.flat h r⟩
 | .ifc _ A,v,h,⟨u,e,r⟩=>⟨u,e,VR.flat (A:=A) h r⟩
 | .sl _ _ _,_,h,_=>by cases h
 | .row _,_,h,_=>by cases h
 | .pc _ _,_,h,_=>by cases h
 | .pr _ _ _ _,_,h,_=>by cases h
 | .nx _ _ _ _,_,h,_=>by cases h
 | .pz _ _ _,_,h,_=>by cases h
theorem VRs.flat{Z':FS}{ν':Val}:∀{cs:List (AV C.D)}{vs:List Value},AV.flats cs=E->VRs C Z ν vs cs->VRs C Z' ν' vs cs
 |[],[],_,_=>trivial
 |A::As,v::vs,h,⟨r,s⟩=>by
  simp only[AV.flats,gf] at h;exact⟨VR.flat h.1 r,VRs.flat h.2 s⟩
 |[],_::_,_,r=>r.elim
 |_::_,[],_,r=>r.elim
end
omit [Dfr] in
mutual
theorem WL{D:Nat->Type}{p:Nat->Prop}:∀{A:AV D},A.flat=E->A.ok p
 | .int _ _,_=>trivial
 | .bool _,_=>trivial
 | .str _,_=>trivial
 | .pnil,_=>trivial
 | .nils,_=>trivial
 | .nilf,_=>trivial
 | .nili,_=>trivial
 | .und,_=>trivial
 | .agg cs,h=>zbQ (A:=cs) h
 | .tup cs,h=>zbQ (A:=cs) h
 | .clo _ cs,h=>zbQ (A:=cs) h
 | .ifc _ A,h=>WL (A:=A) h
 | .sl _ _ _,h=>by cases h
 | .row _,h=>by cases h
 | .pc _ _,h=>by cases h
 | .pr _ _ _ _,h=>by cases h
 | .nx _ _ _ _,h=>by cases h
 | .pz _ _ _,h=>by cases h
theorem zbQ{D:Nat->Type}{p:Nat->Prop}:∀{A:List (AV D)},AV.flats A=E->AV.oks p A
 |[],_=>trivial
 |A::As,h=>by
  simp only[AV.flats,gf] at h;exact⟨WL h.1,zbQ h.2⟩
end
mutual
def Sh.flat:Sh->Bool
 | .int _=>E
 | .bool=>E
 | .str=>E
 | .pnil=>E
 | .nilf=>E
 | .nili=>E
 | .und=>E
 | .tup l=>Sh.flats l
 | .ifc _ s=>Sh.flat s
 |_=>H
def Sh.flats:List Sh->Bool
 |[]=>E
 |s::l=>Sh.flat s && Sh.flats l
end
def Spec.view(s:Spec C):Bool:=s.ins.es.isEmpty && s.outs.all λo=>o.2.es.isEmpty && (Sh.flats (o.2.ts.map (·.2)) && (match o.1 with | .pan t=>t.flat | _=>E))
mutual
def AV.flatN{D:Nat->Type}:AV D->Bool
 | .int _ _=>E
 | .bool _=>E
 | .str _=>E
 | .pnil=>E
 | .nils=>E
 | .nilf=>E
 | .nili=>E
 | .und=>E
 | .row _=>E
 | .pc _ _=>E
 | .pr _ _ _ _=>E
 | .nx _ _ _ _=>E
 | .agg cs=>AV.flatNs cs
 | .tup cs=>AV.flatNs cs
 | .clo _ cs=>AV.flatNs cs
 | .ifc _ A=>AV.flatN A
 |_=>H
def AV.flatNs{D:Nat->Type}:List (AV D)->Bool
 |[]=>E
 |A::As=>AV.flatN A && AV.flatNs As
end
omit [Dfr] in
mutual
theorem VR.flatN{Z':FS}:∀{A:AV C.D}{v:Value},A.flatN=E->VR C Z ν v A->VR C Z' ν v A
 | .int _ _,v,_,r=>by rw[r.int_inv];exact Rv.int
 | .bool _,v,_,r=>by rw[r.bool_inv];exact Rv.bool
 | .str _,v,_,r=>by rw[r.str_inv];exact Rv.str
 | .pnil,v,_,r=>by rw[r.pnil_inv];exact Rv.pnil
 | .nils,v,_,r=>r
 | .nilf,v,_,r=>by
  have:Rv C Z v .nilf:=r;cases this;exact Rv.nilf
 | .nili,v,_,r=>by rw[r.nili_inv];exact Rv.nili
 | .und,v,_,r=>trivial
 | .row _,v,_,r=>r
 | .pc _ _,v,_,r=>r
 | .pr _ _ _ _,v,_,r=>r
 | .nx _ _ _ _,v,_,r=>r
 | .agg cs,v,h,⟨vs,e,r⟩=>⟨vs,e,VRs.flatN h r⟩
 | .tup cs,v,h,⟨vs,e,r⟩=>⟨vs,e,VRs.flatN h r⟩
 | .clo _ cs,v,h,⟨vs,e,r⟩=>⟨vs,e,VRs.flatN h r⟩
 | .ifc _ A,v,h,⟨u,e,r⟩=>⟨u,e,VR.flatN (A:=A) h r⟩
 | .sl _ _ _,_,h,_=>by cases h
 | .pz _ _ _,_,h,_=>by cases h
theorem VRs.flatN{Z':FS}:∀{cs:List (AV C.D)}{vs:List Value},AV.flatNs cs=E->VRs C Z ν vs cs->VRs C Z' ν vs cs
 |[],[],_,_=>trivial
 |A::As,v::vs,h,⟨r,s⟩=>by
  simp only[AV.flatNs,gf] at h;exact⟨VR.flatN h.1 r,VRs.flatN h.2 s⟩
 |[],_::_,_,r=>r.elim
 |_::_,[],_,r=>r.elim
end
mutual
def Sh.flatN:Sh->Bool
 | .int _=>E
 | .bool=>E
 | .str=>E
 | .pnil=>E
 | .nils=>E
 | .nilf=>E
 | .nili=>E
 | .und=>E
 | .row _=>E
 | .pc _ _=>E
 | .pr _ _ _=>E
 | .nx _ _=>E
 | .nxe _ _ _ _=>E
 | .nxp _ _ _=>E
 | .agg l=>Sh.flatNs l
 | .tup l=>Sh.flatNs l
 | .clo _ l=>Sh.flatNs l
 | .ifc _ s=>Sh.flatN s
 |_=>H
def Sh.flatNs:List Sh->Bool
 |[]=>E
 |s::l=>Sh.flatN s && Sh.flatNs l
end
omit [Dfr] in
mutual
theorem Sh.put_flatN{ρ:Nat->Nat}:∀(s:Sh) {x:s.ty C},s.flatN=E->(Sh.put ρ s x).flatN=E
 | .int _,_,_=>rfl
 | .bool,_,_=>rfl
 | .str,_,_=>rfl
 | .pnil,_,_=>rfl
 | .nils,_,_=>rfl
 | .nilf,_,_=>rfl
 | .nili,_,_=>rfl
 | .und,_,_=>rfl
 | .row _,_,_=>rfl
 | .pc _ _,_,_=>rfl
 | .pr _ _ _,_,_=>rfl
 | .nx _ _,_,_=>rfl
 | .nxe _ _ _ _,_,_=>rfl
 | .nxp _ _ _,_,_=>rfl
 | .agg l,x,h=>Sh.putc_flatN l h
 | .tup l,x,h=>Sh.puts_flatN l h
 | .clo _ l,x,h=>Sh.puts_flatN l h
 | .ifc _ s,x,h=>Sh.put_flatN s h
 | .val _,_,h=>by cases h
 | .sl _,_,h=>by cases h
 | .pz _ _,_,h=>by cases h
 | .orow _,_,h=>by cases h
theorem Sh.puts_flatN{ρ:Nat->Nat}:∀(l:List Sh) {x:Sh.tys C l},Sh.flatNs l=E->AV.flatNs (Sh.puts ρ l x)=E
 |[],_,_=>rfl
 |s::l,x,h=>by
  simp only[Sh.flatNs,gf] at h;simp only[Sh.puts,AV.flatNs,gf];exact⟨Sh.put_flatN s h.1,Sh.puts_flatN l h.2⟩
theorem Sh.putc_flatN{ρ:Nat->Nat}:∀(l:List Sh) {x:Sh.tys C l},Sh.flatNs l=E->AV.flatNs (Sh.putc ρ l x)=E
 |[],_,_=>rfl
 |s::l,x,h=>by
  simp only[Sh.flatNs,gf] at h;have hv:Sh.isVal s=none:=by cases s<;>first | rfl | (simp[Sh.flatN] at h)
  unfold Sh.putc;simp only[hv,AV.flatNs,gf];exact⟨Sh.put_flatN s h.1,Sh.putc_flatN l h.2⟩
end
def zA7:U7 Nat->Bool
 |none=>E
 |some _=>H
def Cod.flt(C:Cod)(T:Nat):Bool:=(C.lfs T).all zA7
def Cod.floE(C:Cod)(T:Nat):List (U7 Nat)->Nat->Bool
 |[],_=>E
 |none::r,k=>Cod.floE C T r (k+1)
 |some U::r,k=>W k (C.nst T) && (C.flt U && Cod.floE C T r (k+1))
def Cod.flo(C:Cod)(T:Nat):Bool:=Cod.floE C T (C.lfs T) 0
def ESh.free(C:Cod):ESh->Bool
 | .cell l=>Sh.flatNs l
 | .row T=>C.flt T
 | .orow T=>C.flo T
 | .gone=>E
 |_=>H
theorem zxv{T:Nat}(h:C.flt T=E){x:C.D T}{j:Nat}{A:AV C.D}(hj:(C.emb T x)[j]?=G A):A.num=true:=by
 rcases C.lfs_ok T x j A hj with h1 | ⟨U,s,_,h2⟩ | ⟨U,s,_,h2⟩
 ·exact h1
 ·have:=D0.1 h _ (UW h2);cases this
 ·have:=D0.1 h _ (UW h2);cases this
theorem zbe{T:Nat}:∀{l:List (U7 Nat)}{k j:Nat}{U:Nat},Cod.floE C T l k=E->l[j]?=G (G U)->k+j=C.nst T/\C.flt U=E
 |none::r,k,0,U,h,e=>by simp at e
 |none::r,k,j+1,U,h,e=>by
  have:=zbe (l:=r) (k:=k+1) (j:=j) (U:=U) h (by simpa using e);grind
 |some V::r,k,0,U,h,e=>by
  simp at e;subst e;simp only[Cod.floE,gf] at h;exact⟨by have:=ge h.1;omega,h.2.1⟩
 |some V::r,k,j+1,U,h,e=>by
  simp only[Cod.floE,gf] at h;have:=zbe (l:=r) (k:=k+1) (j:=j) (U:=U) h.2.2 (by simpa using e);grind
 |[],k,j,U,h,e=>by simp at e
theorem zkX{Z Z':FS}{u:Value}{A:AV C.D}(h:A.num=E)(r:Rv C Z u A):Rv C Z' u A:=by
 cases r<;>first | (cases h;done) | exact .int | exact .bool | exact .str
theorem zkY{α:Type}{T:OTy α}{e:TypeId}{v:Value}{s:Sl α}{Z Z':FS}{h:zc}(hf:∀x cs g,x∈s.xs->T.rel Z g cs x->T.rel Z' g cs x)(r:zn T e v s Z h):zn T e v s Z' h:=by
 rcases r with r | r | ⟨q,cap,cur,hb,gg,r1,r2,r3,r4,r5,r0,r6,r7,r8,r9,r10⟩
 ·exact .inl r
 ·exact .inr (.inl r)
 ·refine .inr (.inr ⟨q,cap,cur,hb,gg,r1,r2,r3,r4,r5,r0,r6,r7,r8,r9,?_⟩);let⟨h1,hs,h2,h3,h4⟩:=r10;exact⟨h1,hs,λi x hx=>hf x _ _ (UW hx) (h2 i x hx),h3,h4⟩
theorem znq{Z Z':FS}{T:Nat}{v:Value}{s:Sl (C.D T)}{h:zc}(hf:C.flt T=E)(r:zn (zx C T).o T v s Z h):zn (zx C T).o T v s Z' h:=
 zkY (λx cs g _ r=>⟨r.1,λj A hj=>by
  let⟨u,k1,k2⟩:=r.2 j A hj
  exact⟨u,k1,zkX (zxv hf hj) k2⟩⟩) r
theorem zxw{Z Z':FS}{T:Nat}{v:Value}{sub:Nat->Value}{s:Sl (C.D T)}{h:zc}(hf:C.flo T=E)(r:zn (Zd C T) T v (hpl C T sub s .all) Z h):zn (Zd C T) T v (hpl C T sub s .all) Z' h:=by
 refine zkY (λp cs g hp r=>?_) r;have h1:p.2.1=1:=by
  let⟨j,hj⟩:=qC.1 hp;simp only[hpl,Dx] at hj;cases hx:s.xs[j]? with
  |none=>grind
  |some x=>rw[hx] at hj;cases hj;rfl
 let⟨k1,k2,k3,k4,k5,k6⟩:=(r:yW C T Z g cs p);refine⟨k1,k2,λj A hj hn=>?_,k4,λe=>(by grind),λe=>?_⟩
 ·let⟨u,q1,q2⟩:=k3 j A hj hn;refine⟨u,q1,zkX ?_ q2⟩;rcases C.lfs_ok T p.1 j A hj with h2 | ⟨U,s',_,h2⟩ | ⟨U,s',_,h2⟩
  ·exact h2
  ·have:=(zbe hf h2).1;omega
  ·have:=(zbe hf h2).1;omega
 ·let⟨U,s',q1,q2⟩:=k6 e;refine⟨U,s',q1,znq ?_ q2⟩;have hh:Zn C T p.1 ≠.und:=by grind
  unfold Zn at q1 hh;cases hg:(C.emb T p.1)[C.nst T]? with
  |none=>grind
  |some A=>
   rw[hg] at q1;have q1:A = .sl U s' false:=q1;subst q1;rcases C.lfs_ok T p.1 _ _ hg with h2 | ⟨U',s2,e2,h2⟩ | ⟨U',s2,e2,h2⟩
   ·cases h2
   ·cases e2;exact(zbe hf h2).2
   ·cases e2
theorem zcV{ρ:Nat->Nat}:∀(ts:List (Nat×Sh)) (rest:List Sh) (x:Sh.tys C (ts.map (·.2)++rest)) (t:Nat),Sh.flatNs (ts.map (·.2))=E->(WT ρ ts rest x t).flatN=E
 |[],_,_,_,_=>rfl
 |(t0,s)::ts,rest,x,t,h=>by
  simp only[UI,Sh.flatNs,gf] at h;unfold WT;cases W t t0 with
  |true=>exact Sh.put_flatN s h.1
  |false=>exact zcV ts rest _ t h.2
theorem zcW{ρ:Nat->Nat}:∀(es:List ESh) (k0:Nat) (x:Sh.tys C (es.map ESh.sh)) (i:Nat) {e:Ent C},es.all (ESh.free C)=E->ZN ρ es k0 x i=G e->(∃cs,e = .cell cs/\AV.flatNs cs=E)\/(∃T s,e = .row T s/\C.flt T=E)\/∃T s,e = .orow T s .all/\C.flo T=E
 |[],k0,x,i,e,h,he=>by cases he
 |e0::es,k0,x,i,e,h,he=>by
  simp only[List.all_cons,gf] at h;unfold ZN at he;cases hb:W i (ρ k0) with
  |false=>rw[hb] at he;exact zcW es (k0+1) _ i h.2 he
  |true=>
   rw[hb,D1] at he;have h1:=h.1;cases e0 with
   |cell l=>cases he;exact .inl ⟨_,rfl,Sh.putc_flatN l h1⟩
   |row T=>cases he;exact .inr (.inl ⟨T,_,rfl,h1⟩)
   |orow T=>cases he;exact .inr (.inr ⟨T,_,rfl,h1⟩)
   |obj k T=>cases h1
   |xrow T=>cases h1
   |forow T=>cases h1
   |gone=>cases he
omit [Dfr] in
theorem AbsL.free {κ:Kp}{g:Sig}{x:g.ty C}{ν:Val}{vs:Nat->List Value}{ids:List Nat}{L:List (Nat×Value)}{b:Nat->Value}{Z Z':FS}{PV:List Priv}(h:AbsL κ (g.open x) ν vs ids L b Z' PV) (h1:Sh.flatNs (g.ts.map (·.2))=E) (h2:g.es.all (ESh.free C)=E) :
    AbsL κ (g.open x) ν vs ids L b Z PV/\∀hh,Sep Z' PV hh->Sep Z PV hh:=by
 have hent:∀i e,(g.open x).heap i=G e->(∃cs,e = .cell cs/\AV.flatNs cs=E)\/(∃T s,e = .row T s/\C.flt T=E)\/∃T s,e = .orow T s .all/\C.flo T=true:=λi e he=>zcW g.es 0 _ i h2 he
 refine⟨⟨⟨h.nd,h.dom,h.pv,λid cs hc=>?_,λt=>VR.flatN (zcV g.ts _ _ t h1) (h.env t),h.one⟩,h.live,h.livec,h.keep⟩,λhh hs=>?_⟩
 · rcases hent id _ hc with⟨cs',e,h3⟩ | ⟨T,s,e,_⟩ | ⟨T,s,e,_⟩
   ·cases e;exact VRs.flatN h3 (h.cell id cs hc)
   all_goals grind
 · let⟨hs',k1,k2,k3⟩:=hs;refine⟨hs',λi p hp=>?_,k2,k3⟩;have hold:=k1 i p hp;rw[h.pv,UE] at hp;cases hid:ids[i]? with
   |none=>grind
   |some id=>
    rw[hid] at hp;cases hp;have hsome:=(h.dom id).1 (UW hid);cases he:(g.open x).heap id with
    |none=>grind
    |some e=>
     have hold:(zH C ν vs id ((g.open x).heap id)).holds Z' (hs' i):=hold;show(zH C ν vs id ((g.open x).heap id)).holds Z (hs' i);rw[he] at hold |-
     rcases hent id e he with⟨cs',e1,_⟩ | ⟨T,s,e1,h3⟩ | ⟨T,s,e1,h3⟩
     ·subst e1;exact hold
     ·subst e1;exact znq h3 hold
     ·subst e1;exact zxw h3 hold
def Spec.viewO(s:Spec C):Bool:=s.ins.es.isEmpty && s.outs.all λo=>(o.2.es.all (ESh.free C) && Sh.flatNs (o.2.ts.map (·.2))) && X o.2.es.length 64
theorem Inv.past_own{w w':World}{τ Z':FS}{A':List Priv}(hi:Inv w0 σ0 Z PV w)(hle:Z.le τ)(k:Inv ⟨w,zc.none⟩ τ Z' A' w')(hf:∀h,Sep Z' A' h->Sep Z A' h):Inv w0 σ0 Z (A'++PV) w':=by
 let⟨h,hs,hg⟩:=hi.own;let⟨h',hs',hg'⟩:=k.own;have hl2:=hle.trans k.le
 have k2:Inv ⟨w,zc.none⟩ Z Z A' w':=⟨hl2.sub k.sub,.refl Z,λ_ _ _ e =>.inl e,⟨h',hf h' hs',hg'.sub,λq o e=>by
  cases hx:Z q o with
  |none=>rfl
  |some v=>exact absurd (hg'.apart q o e) (by rw[hl2 q o v hx];simp),hg'.mine⟩,k.ext⟩
 exact hi.call (A':=A') (C:=PV) (h1:=zc.none) (h2:=h) hg hs (zc.none_le _) (.refl _) (zc.none_disj _) k2
theorem ze4{α:Type}{Q:XE C->St C->Prop}{K:XE C->St C->α}{z:α}:∀{outs:List (XK×Sig)}{r:zf C outs},zR outs r K=z->zR outs r Q->∃e S,K e S=z/\Q e S/\zee (yk outs r) S/\∃o∈outs,∃x:o.2.ty C,S=o.2.open x
 |[],r,_,_=>r.elim
 |[o],r,h,q=>by
  let⟨e,S,h1,h2,h3,h4⟩:=one h q;exact⟨e,S,h1,h2,h3,o,by simp,h4⟩
 |o::o2::l,r,h,q=>by
  unfold zR at h q;unfold yk;cases r with
  |inl a=>
   let⟨e,S,h1,h2,h3,h4⟩:=one h q;grind
  |inr y=>
   let⟨e,S,h1,h2,h3,o',ho,h4⟩:=ze4 h q;grind
where
 one {α:Type} {Q:XE C->St C->Prop} {K:XE C->St C->α} {z:α} {o:XK×Sig} {y:XK.ty C o.1 o.2} (h:Yg o.1 o.2 y K=z) (q:Yg o.1 o.2 y Q):∃e S,K e S=z/\Q e S/\zee o.2.es S/\∃x:o.2.ty C,S=o.2.open x:=by
  let⟨k,g⟩:=o;cases k with
  |normal=>exact⟨_,_,h,q,xQ g _,_,rfl⟩
  |exit i=>exact⟨_,_,h,q,xQ g _,_,rfl⟩
  |ret=>exact⟨_,_,h,q,xQ g _,_,rfl⟩
  |pan s=>exact⟨_,_,h,q,xQ g _,_,rfl⟩
def zbf(S:St C)(d nr:Nat)(e:XE C)(Sr:St C):U7 (Out C):=match e with
 | .ret=>chk (zkW (λk=>k) nr Sr).flat (G (.go (S.put d (zkW (λk=>k) nr Sr))))
 | .pan A=>chk A.flat (G (.pan A S))
 |_=>M
def yP(s:Spec C)(d:Nat)(S:St C)(x:s.ins.ty C):U7 (Out C):=
 chk s.ins.es.isEmpty ((s.F x).bind λr=>zR s.outs r λe Sr=>zbf S d s.nr e Sr)
def zvK:XE C->Bool
 | .pan A=>A.flat
 |_=>E
def yD(s:Spec C)(d:Nat)(S:St C)(x:s.ins.ty C):U7 (Out C):=
 (s.F x).bind λr=>zR s.outs r λe Sr=>chk (zvK e) (Wa S d s.nr [] (yk s.outs r) e Sr)
theorem zhw {ρ:Nat->Nat}{ν':Val}{Sr:St C}{νr:Val}{vals:List Value}{p q:Nat->Prop}(henv:∀t,VR C Z νr (look (yo 0 vals) (λ_=>undef) t) (Sr.env t)) (hlive:∀t,(Sr.env t).ok p) (hν:∀k,p k->ν'.hdr (ρ k)=νr.hdr k/\ν'.adr (ρ k)=νr.adr k) (hq:∀k,p k->q (ρ k)) :
    VR C Z ν' (zdg vals) (zkW ρ vals.length Sr)/\(zkW ρ vals.length Sr).ok q:=by
 have key:∀i,VR C Z ν' ((vals[i]?).getD undef) (AV.ren ρ (Sr.env i))/\(AV.ren ρ (Sr.env i)).ok q:=λi=>by
  have:=henv i;rw[yp] at this;exact⟨this.ren hν (hlive i),AV.ok_ren hq (hlive i)⟩
 have many:∀(m:Nat) (l:List Value),(∀i,i < l.length->l[i]?=vals[m+i]?)->VRs C Z ν' l ((qk m l.length).map λi=>AV.ren ρ (Sr.env i))/\AV.oks q ((qk m l.length).map λi=>AV.ren ρ (Sr.env i)):=by
  intro m l
  induction l generalizing m with
  |nil=>exact λ_=>⟨trivial,trivial⟩
  |cons v l ih=>
   intro h;have h0:=h 0 (by simp);have k:=key m;rw[show vals[m]?=G v from by grind] at k;have:=ih (m+1) λi hi=>by
    have:=h (i+1) (by simpa using hi);grind
   simp only[jz,List.range'_succ,UI];exact⟨⟨k.1,this.1⟩,⟨k.2,this.2⟩⟩
 have hall:=many 0 vals λi _=>by grind
 rw[<- qA] at hall
 match vals,key,hall with
 |[],_,hall=>exact⟨⟨[],rfl,hall.1⟩,hall.2⟩
 |[v],key,_=>exact key 0
 |u::v::l,_,hall=>exact⟨⟨_,rfl,hall.1⟩,hall.2⟩
def Spec.OKc(s:Spec C)(us:List Value)(cl:World->(Ending->World->Prop)->Prop):Prop:=
 ∀(x:s.ins.ty C) r,s.F x=G r->∀(κ:Kp) (st:Start) (Z:FS),C.gl st.w Z->∀(PV:List Priv) (ν:Val) (vs:Nat->List Value) (ids:List Nat),κ.m=s.ins.es.length->us.length=s.ins.ts.length->AbsL κ (s.ins.open x) ν vs ids (yo 0 us) (λ_=>undef) Z PV->Pre st Z PV->cl st.w (vd κ st Z s.nr s.outs r)
theorem ze5 {s:Spec C}{us:List Value}{cl:World->(Ending->World->Prop)->Prop}(hs:s.OKc us cl) (hmono:∀{w:World}{Q Q':Ending->World->Prop},cl w Q->(∀e w,Q e w->Q' e w)->cl w Q') (hgl:C.gl w0.w σ0) {d:Nat}{As:List (AV C.D)}{S2:St C}{bl:Bl}{x:s.ins.ty C}(hl:YT s.ins S As=G (S2,bl,x))
    (h:AbsL κ S ν vs ids L b Z PV) (hr:VRs C Z ν us As) (hlive:AV.oks (λid=>(S.heap id).isSome=E) As) {out:Out C} (ho:xz s d S2 bl x=G out) {w:World} (hi:Inv w0 σ0 Z PV w) :
    cl w λe w'=>match e with
     | .returned v=>∃S' Z' PV',out = .go S'/\Inv w0 σ0 Z' PV' w'/\zy κ S' ((d,v)::L) b Z' PV'
     | .panicked chain=>∃A S' u Z' PV',out = .pan A S'/\chain=[{v:=u,recovered:=false}]/\Inv w0 σ0 Z' PV' w'/\Xy C Z' u A/\zy κ S' L b Z' PV'
     | .outgrown=>False:=by
 unfold YT at hl;let⟨hc,hl⟩:=zb hl;simp only[gf] at hc;have c1:=ge hc.1;have c2:=Dj hc.2;let⟨x',hx,he⟩:=DB.1 hl;cases he;let⟨σ1,PV1,hi1,ν1,vs1,ids1,h1⟩:=zce (g:=s.ins.shift) (m:=0) ⟨ν,vs,ids,h.virt hr hlive⟩ hi;generalize hS2:s.ins.shift.prep 0 (virt S As)=S2 at *
 generalize hbl:Zy s.ins.shift 0 S2=bl at *
 have henv:∀t,VR C σ1 ν1 (look (yo 0 us) (λ_=>undef) t) ((xb S2).env t):=λt=>by
  have:=h1.env (vB+t);rw[yp];have e:look [] (yl L b us) (vB+t)=(us[t]?).getD undef:=by
   show yl L b us (vB+t)=_;unfold yl;have:O (vB+t) vB=false:=by
    cases e:O (vB+t) vB with
    |false=>rfl
    |true=>rw[Dd] at e;omega
   rw[this];simp
  rw[e] at this;exact this
 let⟨ν',vs',ids',k1,k2,k3,k4,k5⟩:=h1.lend (T:=xb S2) rfl henv hx c2;have hB:=BdOK.of ((gf _ _).mp (zb hx).1).1;let⟨gg,hsep,hg⟩:=hi1.own;let⟨f1,f2,s1,s2,l1,l2,dd⟩:=(k5 gg hsep).split;let⟨r,hr',ho⟩:=gd ho;let⟨hlen,ho⟩:=zb ho;have hlen:=Dj hlen;have hus:us.length=s.ins.ts.length:=by rw[<- c1,hr.len]
 have hcalls:=hs x r hr' ⟨s.ins.es.length,c2,ν'⟩ ⟨w,f1⟩ σ1 (C.glm hi1.le hi1.ext hgl) _ ν' vs' ids' rfl hus k1 ⟨hi1.sub,s1,hg.sub.mono l1,(hg.mono l1).apart⟩;refine hmono hcalls ?_;intro e w' hp;let⟨e',Sr,q1,q2,q3⟩:=XA ho hp;unfold Wa at q1;let⟨hfr,q1⟩:=zb q1
 have merge:∀{Lr br Z' A'},zy ⟨s.ins.es.length,c2,ν'⟩ Sr Lr br Z' A'->Inv ⟨w,f1⟩ σ1 Z' A' w'->∃νr ν2 vs2 ids2 PV2,Inv w0 σ0 Z' PV2 w'/\AbsL κ (unvirt (Zx S2 Sr d bl (yk s.outs r))) ν2 vs2 ids2 L b Z' PV2/\(∀t,VR C Z' νr (look Lr br t) (Sr.env t))/\(∀t,(Sr.env t).ok λid=>(Sr.heap id).isSome=E)/\
     (∀k,(Sr.heap k).isSome=E->ν2.hdr (xy d bl k)=νr.hdr k/\ν2.adr (xy d bl k)=νr.adr k)/\∀k,(Sr.heap k).isSome=E->((Zx S2 Sr d bl (yk s.outs r)).heap (xy d bl k)).isSome=true:=by
  rintro Lr br Z' A' ⟨νr,vsr,idsr,hA⟩ hi';have hfree:∀k,(Sr.heap k).isSome=E->Bl.fn bl k=M->S2.heap (nid d k)=none:=λk hk hn=>by
   let⟨e,he,_⟩:=(q3 k).1 hk;exact zdk hfr k (UG.1 he).1 hk hn
  let⟨ν2,vs2,ids2,m1,m2,m3⟩:=h1.merge (d:=d) (es:=yk s.outs r) hA hi'.le hB.inj hB.lt k4 k2 q3 hfree hlen;exact⟨νr,ν2,vs2,ids2,_,hi1.call hg s2 l1 l2 dd hi',m1.unvirt,hA.env,hA.live,m2,m3⟩
 cases e' with
 |normal=>cases q1
 |exit i=>cases q1
 |ret=>
  cases e with
  |returned v=>
   obtain⟨vals,Z',A',rfl,hnr,hi',hA⟩:=q2;let⟨νr,ν2,vs2,ids2,PV2,m1,m2,m3,m4,m5,m6⟩:=merge hA hi';cases q1;have hres:=zhw (ρ:=xy d bl) (q:=λi=>((Zx S2 Sr d bl (yk s.outs r)).heap i).isSome=E) m3 m4 m5 m6;rw[hnr] at hres;exact⟨_,Z',PV2,rfl,m1,ν2,vs2,ids2,m2.put hres.1 hres.2⟩
  |panicked chain=>exact q2.elim
  |outgrown=>exact q2.elim
 |pan A=>
  cases e with
  |returned v=>exact q2.elim
  |outgrown=>exact q2.elim
  |panicked chain=>
   obtain⟨u,Z',A',rfl,hi',hp',hA⟩:=q2;let⟨νr,ν2,vs2,ids2,PV2,m1,m2,m3,m4,m5,m6⟩:=merge hA hi';cases q1;exact⟨_,_,u,Z',PV2,rfl,rfl,m1,hp',ν2,vs2,ids2,m2⟩
theorem zos {s:Spec C}(hs:s.OK P) (hgl:C.gl w0.w σ0) {d:Nat}{As:List (AV C.D)}{us:List Value}{S2:St C}{bl:Bl}{x:s.ins.ty C}(hl:YT s.ins S As=G (S2,bl,x))
    (h:AbsL κ S ν vs ids L b Z PV) (hr:VRs C Z ν us As) (hlive:AV.oks (λid=>(S.heap id).isSome=E) As) {out:Out C} (ho:xz s d S2 bl x=G out) {w:World} (hi:Inv w0 σ0 Z PV w) :
    Calls P s.f us.toArray w λe w'=>match e with
     | .returned v=>∃S' Z' PV',out = .go S'/\Inv w0 σ0 Z' PV' w'/\zy κ S' ((d,v)::L) b Z' PV'
     | .panicked chain=>∃A S' u Z' PV',out = .pan A S'/\chain=[{v:=u,recovered:=false}]/\Inv w0 σ0 Z' PV' w'/\Xy C Z' u A/\zy κ S' L b Z' PV'
     | .outgrown=>False:=by
 let⟨fn,hf,_,_,hs⟩:=hs;exact ze5 (cl:=λw Q=>Calls P s.f us.toArray w Q) (λx r hx κ st Z hgl PV ν vs ids h1 h2 h3 h4=>hs x r hx κ st Z hgl PV ν vs ids us h1 h2 h3 h4) (λh k=>Calls.mono h k) hgl hl h hr hlive ho hi
theorem ze6 {s:Spec C}(hs:s.OK P) (hgl:C.gl w0.w σ0) {d:Nat}{T:St C}{N:Nat}{us:List Value}{S2:St C}{bl:Bl}{x:s.ins.ty C}(hl:YH s.ins T N=G (S2,bl,x)) (hN:us.length=N)
    (h:AbsL κ S ν vs ids L b Z PV) {out:Out C} (ho:yP s d S x=G out) {w:World} (hi:Inv w0 σ0 Z PV w) (hT:∀w0 σ0,Inv w0 σ0 Z PV w->∃σ1 PV1,Inv w0 σ0 σ1 PV1 w/\zy κ T [] (yl L b us) σ1 PV1) :
    Calls P s.f us.toArray w λe w'=>match e with
     | .returned v=>∃S' Z' PV',out = .go S'/\Inv w0 σ0 Z' PV' w'/\zy κ S' ((d,v)::L) b Z' PV'
     | .panicked chain=>∃A S' u Z' PV',out = .pan A S'/\chain=[{v:=u,recovered:=false}]/\Inv w0 σ0 Z' PV' w'/\Xy C Z' u A/\zy κ S' L b Z' PV'
     | .outgrown=>False:=by
 let⟨hes,ho⟩:=zb ho;unfold YH at hl;let⟨hc,hl⟩:=zb hl;simp only[gf] at hc;have c1:=ge hc.1;have c2:=Dj hc.2;let⟨x',hx,he⟩:=DB.1 hl;cases he;let⟨gg,hsep,hg⟩:=hi.own;let⟨σ0',PV0',hi0',hA0'⟩:=hT ⟨w,gg⟩ Z ⟨hi.sub,.refl Z,λb o v hb =>.inl hb,⟨gg,hsep,hg.sub,hg.apart,λb i e =>.inr e⟩,.refl w gg⟩;let⟨σ1,PV1,hi1,ν1,vs1,ids1,h1⟩:=zce (g:=s.ins.shift) (m:=0) hA0' hi0';generalize hS2:s.ins.shift.prep 0 T=S2 at *
 generalize hbl:Zy s.ins.shift 0 S2=bl at *
 have henv:∀t,VR C σ1 ν1 (look (yo 0 us) (λ_=>undef) t) ((xb S2).env t):=λt=>by
  have:=h1.env (vB+t);rw[yp];have e:look [] (yl L b us) (vB+t)=(us[t]?).getD undef:=by
   show yl L b us (vB+t)=_;unfold yl;have:O (vB+t) vB=false:=by
    cases e:O (vB+t) vB with
    |false=>rfl
    |true=>rw[Dd] at e;omega
   rw[this];simp
  rw[e] at this;exact this
 let⟨ν',vs',ids',k1,k2,k3,k4,k5⟩:=h1.lend (T:=xb S2) rfl henv hx c2;have hB:=BdOK.of ((gf _ _).mp (zb hx).1).1;have hids:ids'=[]:=qF.2 λk hk=>by
  let⟨id,e⟩:=UQ.1 ((k3 k).1 hk);have:=hB.lt k id e;grind
 rw[hids] at k1;let⟨r,hr',ho⟩:=gd ho;have hus:us.length=s.ins.ts.length:=by rw[hN,c1]
 let⟨fn,hf,_,_,hs⟩:=hs;have hcalls:=hs x r hr' ⟨s.ins.es.length,c2,ν'⟩ ⟨w,zc.none⟩ σ1 (C.glm hi1.le hi1.ext (C.glm hi.le hi.ext hgl)) _ ν' vs' _ us rfl hus k1 (Pre.empty hi1.sub);refine Calls.mono hcalls ?_;intro e w' hp;let⟨e',Sr,q1,q2,q3⟩:=XA ho hp;unfold zbf at q1;cases e' with
 |normal=>cases q1
 |exit i=>cases q1
 |ret=>
  cases e with
  |returned v=>
   obtain⟨vals,Z',A',rfl,hnr,hi',νr,vsr,idsr,hA⟩:=q2;let⟨hfl,q1⟩:=zb q1;cases q1;have hres:=zhw (Z:=Z') (ρ:=λk=>k) (ν':=νr) (q:=λi=>(Sr.heap i).isSome=E) hA.env hA.live (λk _=>⟨rfl,rfl⟩) (λk hk=>hk);rw[hnr] at hres;exact⟨_,Z,PV,rfl,hi.past hi1.le hi',ν,vs,ids,h.put (VR.flat hfl hres.1) (WL hfl)⟩
  |panicked chain=>exact q2.elim
  |outgrown=>exact q2.elim
 |pan A=>
  cases e with
  |returned v=>exact q2.elim
  |outgrown=>exact q2.elim
  |panicked chain=>
   obtain⟨u,Z',A',rfl,hi',hp',hA⟩:=q2;let⟨hfl,q1⟩:=zb q1;cases q1;exact⟨_,_,u,Z,PV,rfl,rfl,hi.past hi1.le hi',⟨WL hfl,λν hν=>VR.flat hfl (hp'.2 ν hν)⟩,ν,vs,ids,h⟩
theorem AbsL.nilB {κs:Kp}{C:Cod}{S Sr:St C}{d:Nat}{es:List ESh}{νr:Val}{vsr:Nat->List Value}{idsr:List Nat}{Lr:List (Nat×Value)}{br:Nat->Value}{A':List Priv}{κ:Kp}{ν:Val}{vs:Nat->List Value}{ids:List Nat}{L:List (Nat×Value)}{b:Nat->Value}{Z:FS}{PV:List Priv}(h:AbsL κ S ν vs ids L b Z PV) (hr:AbsL κs Sr νr vsr idsr Lr br Z A') (hm:κs.m=0)
    (hal:zee es Sr) (hfr:∀k,(Sr.heap k).isSome=E->S.heap (nid d k)=M) :
    ∃ν2 vs2 ids2,AbsL κ (Go.Px.unvirt (Zx S Sr d [] es)) ν2 vs2 ids2 L b Z (A'++PV)/\
     (∀k,(Sr.heap k).isSome=E->ν2.hdr (xy d [] k)=νr.hdr k/\ν2.adr (xy d [] k)=νr.adr k)/\∀k,(Sr.heap k).isSome=E->((Go.Px.unvirt (Zx S Sr d [] es)).heap (xy d [] k)).isSome=true:=by
 let⟨ν2,vs2,ids2,m1,m2,m3⟩:=h.merge (bl:=[]) (d:=d) (es:=es) hr (.refl Z) (λi j id e=>by simp[Bl.fn] at e) (λk id e=>by simp[Bl.fn] at e) (λk id e=>by simp[Bl.fn] at e) (λk id e=>by simp[Bl.fn] at e) hal (λk hk _=>hfr k hk) (by omega);have hf:(ids.filter λj=> !yd j [])=ids:=List.filter_eq_self.2 λj _=>rfl
 rw[hf,<- h.pv] at m1;refine⟨ν2,vs2,ids2,?_,m2,m3⟩;refine⟨⟨m1.nd,m1.dom,m1.pv,m1.cell,λt=>?_,m1.one⟩,λt=>?_,m1.livec,m1.keep⟩
 · show VR C Z ν2 _ (bif O t vB then _ else .und);cases O t vB with
   |true=>exact m1.env t
   |false=>trivial
 · show(bif O t vB then _ else AV.und).ok _;cases O t vB with
   |true=>exact m1.live t
   |false=>trivial
theorem ze7 {s:Spec C}(hs:s.OK P) (hvo:s.viewO=E) (hgl:C.gl w0.w σ0) {d:Nat}{T:St C}{N:Nat}{us:List Value}{S2:St C}{bl:Bl}{x:s.ins.ty C}(hl:YH s.ins T N=G (S2,bl,x)) (hN:us.length=N)
    (h:AbsL κ S ν vs ids L b Z PV) {out:Out C} (ho:yD s d S x=G out) {w:World} (hi:Inv w0 σ0 Z PV w) (hT:∀w0 σ0,Inv w0 σ0 Z PV w->∃σ1 PV1,Inv w0 σ0 σ1 PV1 w/\zy κ T [] (yl L b us) σ1 PV1) :
    Calls P s.f us.toArray w λe w'=>match e with
     | .returned v=>∃S' Z' PV',out = .go S'/\Inv w0 σ0 Z' PV' w'/\zy κ S' ((d,v)::L) b Z' PV'
     | .panicked chain=>∃A S' u Z' PV',out = .pan A S'/\chain=[{v:=u,recovered:=false}]/\Inv w0 σ0 Z' PV' w'/\Xy C Z' u A/\zy κ S' L b Z' PV'
     | .outgrown=>False:=by
 simp only[Spec.viewO,gf] at hvo;let⟨hes,hvo⟩:=hvo;unfold YH at hl;let⟨hc,hl⟩:=zb hl;simp only[gf] at hc;have c1:=ge hc.1;have c2:=Dj hc.2;let⟨x',hx,he⟩:=DB.1 hl;cases he;let⟨gg,hsep,hg⟩:=hi.own;let⟨σ0',PV0',hi0',hA0'⟩:=hT ⟨w,gg⟩ Z ⟨hi.sub,.refl Z,λb o v hb =>.inl hb,⟨gg,hsep,hg.sub,hg.apart,λb i e =>.inr e⟩,.refl w gg⟩;let⟨σ1,PV1,hi1,ν1,vs1,ids1,h1⟩:=zce (g:=s.ins.shift) (m:=0) hA0' hi0';generalize hS2:s.ins.shift.prep 0 T=S2 at *
 generalize hbl:Zy s.ins.shift 0 S2=bl at *
 have henv:∀t,VR C σ1 ν1 (look (yo 0 us) (λ_=>undef) t) ((xb S2).env t):=λt=>by
  have:=h1.env (vB+t);rw[yp];have e:look [] (yl L b us) (vB+t)=(us[t]?).getD undef:=by
   show yl L b us (vB+t)=_;unfold yl;have:O (vB+t) vB=false:=by
    cases e:O (vB+t) vB with
    |false=>rfl
    |true=>rw[Dd] at e;omega
   rw[this];simp
  rw[e] at this;exact this
 let⟨ν',vs',ids',k1,k2,k3,k4,k5⟩:=h1.lend (T:=xb S2) rfl henv hx c2;have hB:=BdOK.of ((gf _ _).mp (zb hx).1).1;have hids:ids'=[]:=qF.2 λk hk=>by
  let⟨id,e⟩:=UQ.1 ((k3 k).1 hk);have:=hB.lt k id e;rw[qE.1 hes] at this;simp at this
 rw[hids] at k1;let⟨r,hr',ho⟩:=gd ho;have hus:us.length=s.ins.ts.length:=by rw[hN,c1]
 let⟨fn,hf,_,_,hs⟩:=hs;have hcalls:=hs x r hr' ⟨s.ins.es.length,c2,ν'⟩ ⟨w,zc.none⟩ σ1 (C.glm hi1.le hi1.ext (C.glm hi.le hi.ext hgl)) _ ν' vs' _ us rfl hus k1 (Pre.empty hi1.sub);refine Calls.mono hcalls ?_;intro e w' hp;obtain⟨e',Sr,q1,q2,q3,o,ho1,x1,rfl⟩:=ze4 ho hp;have hfree:=D0.1 hvo o ho1;simp only[gf] at hfree;let⟨hpf,q1⟩:=zb q1;unfold Wa at q1;let⟨hfr,q1⟩:=zb q1;have hm0:s.ins.es.length=0:=by rw[qE.1 hes];rfl
 have merge:∀{Lr br Z' A'},zy ⟨s.ins.es.length,c2,ν'⟩ (o.2.open x1) Lr br Z' A'->Inv ⟨w,zc.none⟩ σ1 Z' A' w'->∃νr ν2 vs2 ids2,Inv w0 σ0 Z (A'++PV) w'/\AbsL κ (unvirt (Zx S (o.2.open x1) d [] (yk s.outs r))) ν2 vs2 ids2 L b Z (A'++PV)/\(∀t,VR C Z νr (look Lr br t) ((o.2.open x1).env t))/\(∀t,((o.2.open x1).env t).ok λid=>((o.2.open x1).heap id).isSome=E)/\
     (∀k,((o.2.open x1).heap k).isSome=E->ν2.hdr (xy d [] k)=νr.hdr k/\ν2.adr (xy d [] k)=νr.adr k)/\∀k,((o.2.open x1).heap k).isSome=E->((unvirt (Zx S (o.2.open x1) d [] (yk s.outs r))).heap (xy d [] k)).isSome=true:=by
  rintro Lr br Z' A' ⟨νr,vsr,idsr,hA⟩ hi';let⟨hA0,hsp⟩:=hA.free (Z:=Z) hfree.1.2 hfree.1.1;let⟨ν2,vs2,ids2,m1,m2,m3⟩:=h.nilB (d:=d) hA0 hm0 q3 λk hk=>by
   let⟨e,he,_⟩:=(q3 k).1 hk;exact zdk hfr k (UG.1 he).1 hk (by simp[Bl.fn])
  exact⟨νr,ν2,vs2,ids2,hi.past_own hi1.le hi' hsp,m1,hA0.env,hA0.live,m2,m3⟩
 cases e' with
 |normal=>cases q1
 |exit i=>cases q1
 |ret=>
  cases e with
  |returned v=>
   obtain⟨vals,Z',A',rfl,hnr,hi',hA⟩:=q2;let⟨νr,ν2,vs2,ids2,m1,m2,m3,m4,m5,m6⟩:=merge hA hi';cases q1;have hres:=zhw (ρ:=xy d []) (q:=λi=>((unvirt (Zx S (o.2.open x1) d [] (yk s.outs r))).heap i).isSome=E) m3 m4 m5 m6;rw[hnr] at hres;exact⟨_,Z,_,rfl,m1,ν2,vs2,ids2,m2.put hres.1 hres.2⟩
  |panicked chain=>exact q2.elim
  |outgrown=>exact q2.elim
 |pan A=>
  cases e with
  |returned v=>exact q2.elim
  |outgrown=>exact q2.elim
  |panicked chain=>
   obtain⟨u,Z',A',rfl,hi',hp',hA⟩:=q2;let⟨νr,ν2,vs2,ids2,m1,m2,m3,m4,m5,m6⟩:=merge hA hi';cases q1;exact⟨_,_,u,Z,_,rfl,rfl,m1,⟨WL hpf,λν hν=>VR.flat hpf (hp'.2 ν hν)⟩,ν2,vs2,ids2,m2⟩
end
variable [Dfr]
section
variable {κ:Kp}{C:Cod}{S:St C}{n:Nat}{w0:Start}{σ0 Z:FS}{P:Program}{L:List (Nat×Value)}{b:Nat->Value}{PV:List Priv}{ν:Val}{vs:Nat->List Value}{ids:List Nat}
mutual
def AV.nxs{D:Nat->Type}:AV D->List Nat
 | .nx id _ _ _=>[id]
 | .agg cs=>AV.nxss cs
 |_=>[]
def AV.nxss{D:Nat->Type}:List (AV D)->List Nat
 |[]=>[]
 |A::As=>AV.nxs A++AV.nxss As
end
mutual
def vI{α:Type}(S:St C):AV C.D->(AV C.D->U7 α)->U7 α
 | .nx id T i .whole,K=>zJ S id T i λU u=>K (.sl U u H)
 | .agg cs,K=>Wb S cs λcs'=>K (.agg cs')
 |A,K=>K A
def Wb{α:Type}(S:St C):List (AV C.D)->(List (AV C.D)->U7 α)->U7 α
 |[],K=>K []
 |A::As,K=>vI S A λA'=>Wb S As λAs'=>K (A'::As')
end
mutual
def zhx(S:St C):AV C.D->AV C.D->Prop
 | .nx id T i .whole,B=>∃s g q U u c,S.heap id=G (.orow T s g)/\g.rd=E/\za s i=G q/\Zn C T q = .sl U u c/\B = .sl U u H
 | .agg cs,B=>∃ds,B = .agg ds/\vR S cs ds
 |A,B=>B=A
def vR(S:St C):List (AV C.D)->List (AV C.D)->Prop
 |[],Bs=>Bs=[]
 |A::As,Bs=>∃B Bs',Bs=B::Bs'/\zhx S A B/\vR S As Bs'
end
theorem zot{α:Type}{id T:Nat}{i:Int}{K:(U:Nat)->Sl (C.D U)->U7 α}{a:α}(h:zJ S id T i K=G a):∃s g q U u c,S.heap id=G (.orow T s g)/\g.rd=E/\za s i=G q/\Zn C T q = .sl U u c/\K U u=G a:=by
 unfold zJ at h;split at h
 ·rename_i T' s g hs;let⟨hc,h⟩:=zb h;simp only[gf] at hc;obtain rfl:=ge hc.1;let⟨q,hq,h⟩:=gd h;grind
 ·cases h
omit [Dfr] in
mutual
theorem zxx{α:Type}{r:α}:∀{A:AV C.D}{K:AV C.D->U7 α},vI S A K=G r->∃B,K B=G r/\zhx S A B
 | .nx id T i .whole,K,h=>by
  let⟨s,g,q,U,u,c,h1,h2,h3,h4,h5⟩:=zot h;exact⟨_,h5,s,g,q,U,u,c,h1,h2,h3,h4,rfl⟩
 | .agg cs,K,h=>by
  let⟨ds,h1,h2⟩:=zbR (As:=cs) h;exact⟨_,h1,ds,rfl,h2⟩
 | .nx _ _ _ (.part _ _ _),K,h=>⟨_,h,rfl⟩
 | .nx _ _ _ (.elem _ _ _),K,h=>⟨_,h,rfl⟩
 | .int _ _,K,h=>⟨_,h,rfl⟩
 | .bool _,K,h=>⟨_,h,rfl⟩
 | .str _,K,h=>⟨_,h,rfl⟩
 | .tup _,K,h=>⟨_,h,rfl⟩
 | .sl _ _ _,K,h=>⟨_,h,rfl⟩
 | .row _,K,h=>⟨_,h,rfl⟩
 | .pc _ _,K,h=>⟨_,h,rfl⟩
 | .pr _ _ _ _,K,h=>⟨_,h,rfl⟩
 | .pz _ _ _,K,h=>⟨_,h,rfl⟩
 | .pnil,K,h=>⟨_,h,rfl⟩
 | .nils,K,h=>⟨_,h,rfl⟩
 | .clo _ _,K,h=>⟨_,h,rfl⟩
 | .nilf,K,h=>⟨_,h,rfl⟩
 | .ifc _ _,K,h=>⟨_,h,rfl⟩
 | .nili,K,h=>⟨_,h,rfl⟩
 | .und,K,h=>⟨_,h,rfl⟩
theorem zbR{α:Type}{r:α}:∀{As:List (AV C.D)}{K:List (AV C.D)->U7 α},Wb S As K=G r->∃Bs,K Bs=G r/\vR S As Bs
 |[],K,h=>⟨_,h,rfl⟩
 |A::As,K,h=>by
  let⟨B,h1,h2⟩:=zxx (A:=A) h;let⟨Bs,h3,h4⟩:=zbR (As:=As) h1;exact⟨_,h3,B,Bs,rfl,h2,h4⟩
end
omit [Dfr] in
mutual
theorem zrS{α β:Type}{k:α->U7 β}:∀{A:AV C.D}{K:AV C.D->U7 α},(vI S A K).bind k=vI S A λB=>(K B).bind k
 | .nx id T i .whole,K=>by
  show(zJ S id T i _).bind k=zJ S id T i _;unfold zJ;split
  ·cases hc:(W T _ && Own.rd _) with
   |false=>rfl
   |true=>
    show((za _ i).bind _).bind k=(za _ i).bind _;grind
  ·rfl
 | .agg cs,K=>zbS (As:=cs)
 | .nx _ _ _ (.part _ _ _),K=>rfl
 | .nx _ _ _ (.elem _ _ _),K=>rfl
 | .int _ _,K=>rfl
 | .bool _,K=>rfl
 | .str _,K=>rfl
 | .tup _,K=>rfl
 | .sl _ _ _,K=>rfl
 | .row _,K=>rfl
 | .pc _ _,K=>rfl
 | .pr _ _ _ _,K=>rfl
 | .pz _ _ _,K=>rfl
 | .pnil,K=>rfl
 | .nils,K=>rfl
 | .clo _ _,K=>rfl
 | .nilf,K=>rfl
 | .ifc _ _,K=>rfl
 | .nili,K=>rfl
 | .und,K=>rfl
theorem zbS{α β:Type}{k:α->U7 β}:∀{As:List (AV C.D)}{K:List (AV C.D)->U7 α},(Wb S As K).bind k=Wb S As λBs=>(K Bs).bind k
 |[],K=>rfl
 |A::As,K=>by
  show(vI S A _).bind k=vI S A _;rw[zrS (A:=A)];congr 1;funext B;exact zbS (As:=As)
end
def AV.bas{D:Nat->Type}:AV D->Bool
 | .agg cs=>cs.all AV.base
 |A=>A.base
def FzR(C:Cod)(S:St C)(ν:Val)(τ:FS)(l:List Nat):Prop:=∀id∈l,∀T s g,S.heap id=G (.orow T s g)->g.rd=E->∀i q U u c,za s i=G q->Zn C T q = .sl U u c->Rv C τ ((ν.adr id).sub i.toNat) (.sl U u c)
theorem zxy(h:AbsL κ S ν vs ids L b Z PV)(id:Nat){w:World}(hi:Inv w0 σ0 Z PV w):∃Z' PV' ids',Inv w0 σ0 Z' PV' w/\AbsL κ (S.frz1 id) ν vs ids' L b Z' PV'/\Z.le Z'/\FzR C S ν Z' [id]:=by
 unfold St.frz1;split
 ·rename_i T s hs;let⟨m,hm,hid⟩:=h.at hs;let⟨h1,hh,hsub,hle,hi'⟩:=hi.freeze hm;have hh:zn (zx C T).o T (ν.hdr id) s Z h1:=hh;refine⟨_,_,_,hi',h.sub hid hle ((Rv.of_vrel (hh.fast hle λb o v e=>Xx b o v e)).vr) trivial rfl,hle,?_⟩;intro j hj T' s' g he;grind
 ·rename_i T s g hs;cases hg:g.rd with
  |false=>
   refine⟨Z,PV,ids,hi,h,.refl Z,?_⟩;intro j hj T' s' g' he hg';grind
  |true=>
   let⟨m,hm,hid⟩:=h.at hs;let⟨h1,hh,hsub,hle,hi'⟩:=hi.freeze hm;have hh:zn (Zd C T) T (ν.hdr id) (hpl C T (ν.adr id).sub s g) Z h1:=hh;have hv:=hh.fast hle λb o v e=>Xx b o v e
   refine⟨_,_,_,hi',h.sub hid hle ((Rv.of_vrel (zkJ hg hv)).vr) trivial rfl,hle,?_⟩;intro j hj T' s' g' he hg' i q U u c hq hu;have hj:=D2.1 hj;subst hj;rw[hs] at he;cases he;exact zxh hg hv hq hu
 ·rename_i h1 h2;refine⟨Z,PV,ids,hi,h,.refl Z,?_⟩;intro j hj T' s' g' he;grind
theorem zrT{id j T:Nat}{s:Sl (C.D T)}{g:Own}(hne:j≠id)(h:S.heap j=G (.orow T s g)):(S.frz1 id).heap j=G (.orow T s g):=by
 have key:∀R:AV C.D,(S.sub id R).heap j=G (.orow T s g):=λR=>by
  show(bif W j id then M else(S.heap j).map _)=_;cases hb:W j id with
  |true=>exact absurd (ge hb) hne
  |false=>rw[h];rfl
 unfold St.frz1;grind
theorem zkZ:∀(l:List Nat) {S:St C}{Z:FS}{PV:List Priv}{ids:List Nat}(h:AbsL κ S ν vs ids L b Z PV) {w:World}(hi:Inv w0 σ0 Z PV w),∃Z' PV' ids',Inv w0 σ0 Z' PV' w/\AbsL κ (S.frz l) ν vs ids' L b Z' PV'/\Z.le Z'/\FzR C S ν Z' l
 |[],S,Z,PV,ids,h,w,hi=>⟨Z,PV,ids,hi,h,.refl Z,λid hid=>by cases hid⟩
 |id::r,S,Z,PV,ids,h,w,hi=>by
  let⟨σ1,PV1,ids1,hi1,h1,l1,f1⟩:=zxy h id hi;let⟨σ2,PV2,ids2,hi2,h2,l2,f2⟩:=zkZ r h1 hi1;refine⟨σ2,PV2,ids2,hi2,h2,l1.trans l2,?_⟩;intro j hj T s g he hg i q U u c hq hu;by_cases e:j=id
  ·exact(f1 j (by simp[e]) T s g he hg i q U u c hq hu).mono l2
  ·have hj':j∈r:=by
    grind
   exact f2 j hj' T s g (zrT e he) hg i q U u c hq hu
omit [Dfr] in
mutual
theorem zhx.vr{τ:FS}{l:List Nat}(hl:Z.le τ)(hf:FzR C S ν τ l):∀{A B:AV C.D}{v:Value},zhx S A B->(∀j∈A.nxs,j∈l)->VR C Z ν v A->VR C τ ν v B
 | .nx id T i .whole,B,v,⟨s,g,q,U,u,c,h1,h2,h3,h4,h5⟩,hm,r=>by
  subst h5;have:=hf id (hm id (by simp[AV.nxs])) T s g h1 h2 i q U u c h3 h4;rw[show v=(ν.adr id).sub i.toNat from r.1];exact(Rv.of_vrel this.vrel).vr
 | .agg cs,B,v,⟨ds,e,h⟩,hm,⟨vs,e2,r⟩=>by
  subst e;exact⟨vs,e2,vR.vr hl hf h hm r⟩
 | .nx _ _ _ (.part _ _ _),B,v,h,hm,r=>by rw[show B=_ from h];exact r.mono hl
 | .nx _ _ _ (.elem _ _ _),B,v,h,hm,r=>by rw[show B=_ from h];exact r.mono hl
 | .int _ _,B,v,h,hm,r=>by rw[show B=_ from h];exact r.mono hl
 | .bool _,B,v,h,hm,r=>by rw[show B=_ from h];exact r.mono hl
 | .str _,B,v,h,hm,r=>by rw[show B=_ from h];exact r.mono hl
 | .tup _,B,v,h,hm,r=>by rw[show B=_ from h];exact r.mono hl
 | .sl _ _ _,B,v,h,hm,r=>by rw[show B=_ from h];exact r.mono hl
 | .row _,B,v,h,hm,r=>by rw[show B=_ from h];exact r.mono hl
 | .pc _ _,B,v,h,hm,r=>by rw[show B=_ from h];exact r.mono hl
 | .pr _ _ _ _,B,v,h,hm,r=>by rw[show B=_ from h];exact r.mono hl
 | .pz _ _ _,B,v,h,hm,r=>by rw[show B=_ from h];exact r.mono hl
 | .pnil,B,v,h,hm,r=>by rw[show B=_ from h];exact r.mono hl
 | .nils,B,v,h,hm,r=>by rw[show B=_ from h];exact r.mono hl
 | .clo _ _,B,v,h,hm,r=>by rw[show B=_ from h];exact r.mono hl
 | .nilf,B,v,h,hm,r=>by rw[show B=_ from h];exact r.mono hl
 | .ifc _ _,B,v,h,hm,r=>by rw[show B=_ from h];exact r.mono hl
 | .nili,B,v,h,hm,r=>by rw[show B=_ from h];exact r.mono hl
 | .und,B,v,h,hm,r=>by rw[show B=_ from h];trivial
theorem vR.vr{τ:FS}{l:List Nat}(hl:Z.le τ)(hf:FzR C S ν τ l):∀{As Bs:List (AV C.D)}{us:List Value},vR S As Bs->(∀j∈AV.nxss As,j∈l)->VRs C Z ν us As->VRs C τ ν us Bs
 |[],Bs,[],h,_,_=>by rw[show Bs=[] from h];trivial
 |A::As,Bs,u::us,⟨B,Bs',e,h1,h2⟩,hm,⟨r1,r2⟩=>by
  subst e;exact⟨zhx.vr hl hf h1 (λj hj=>hm j (by simp only[AV.nxss,U9];exact .inl hj)) r1,vR.vr hl hf h2 (λj hj=>hm j (by simp only[AV.nxss,U9];exact .inr hj)) r2⟩
 |[],_,_::_,_,_,r=>r.elim
 |_::_,_,[],_,_,r=>r.elim
end
def zaX{D:Nat->Type}:List (AV D)->List (AV D)->Nat->U7 (AV D)
 |A::_,B::_,0=>bif A.nxs.isEmpty then M else G B
 |_::As,_::Bs,t+1=>zaX As Bs t
 |_,_,_=>M
def zgb(S:St C)(As Bs:List (AV C.D)):St C:=
 let T:=(virt S As).frz (AV.nxss As)
 {env:=λt=>bif O t vB then T.env t else match zaX As Bs (t - vB) with
     |some B=>B
     |none=>T.env t,heap:=T.heap}
def okX{D:Nat->Type}:List (AV D)->List (AV D)->Bool
 |A::As,B::Bs=>(A.nxs.isEmpty || B.bas) && okX As Bs
 |_,_=>E
omit [Dfr] in
theorem VR.bas{Z:FS}{ν ν':Val}{A:AV C.D}{v:Value}(h:A.bas=E)(r:VR C Z ν v A):VR C Z ν' v A/\A.ok (λ_=>False):=by
 by_cases e:∃cs,A = .agg cs
 ·obtain⟨cs,rfl⟩:=e;let⟨vs,e,r⟩:=r;have hb:∀B∈cs,B.base=true:=λB hB=>D0.1 h B hB
  refine⟨⟨vs,e,.of r.len λj u B h1 h2=>((r.rel h1 h2).rv (hb B (UW h2))).vr⟩,?_⟩;exact AV.oks_iff.2 λB hB=>Vj (hb B hB)
 ·have hb:A.base=true:=by
   cases A<;>first | exact h | grind
  exact⟨(r.rv hb).vr,Vj hb⟩
theorem zhy{ν':Val}{τ:FS}{l:List Nat}(hl:Z.le τ)(hf:FzR C S ν τ l):∀{As Bs:List (AV C.D)}{us:List Value}{t:Nat}{B:AV C.D},vR S As Bs->okX As Bs=E->(∀j∈AV.nxss As,j∈l)->VRs C Z ν us As->zaX As Bs t=G B->VR C τ ν' ((us[t]?).getD undef) B/\B.ok (λ_=>False)
 |A::As,B0::Bs,u::us,0,B,⟨B1,Bs1,e,h1,h2⟩,hk,hm,⟨r1,r2⟩,hs=>by
  cases e;simp only[okX,gf] at hk;unfold zaX at hs;cases hn:A.nxs.isEmpty with
  |true=>grind
  |false=>
   rw[hn] at hs hk;cases hs;have:=zhx.vr hl hf h1 (λj hj=>hm j (by simp only[AV.nxss,U9];exact .inl hj)) r1;exact VR.bas (by grind) this
 |A::As,B0::Bs,u::us,t+1,B,⟨B1,Bs1,e,h1,h2⟩,hk,hm,⟨r1,r2⟩,hs=>by
  cases e;simp only[okX,gf] at hk;have:=zhy (ν':=ν') hl hf (t:=t) h2 hk.2 (λj hj=>hm j (by simp only[AV.nxss,U9];exact .inr hj)) r2 hs;grind
 |[],Bs,us,t,B,h,_,_,_,hs=>by
  rw[show Bs=[] from h] at hs;cases t<;>cases hs
 |A::As,[],us,t,B,⟨_,_,e,_⟩,_,_,_,hs=>by cases e
 |A::As,B0::Bs,[],t,B,_,_,_,r,hs=>r.elim
theorem ztq (h:AbsL κ S ν vs ids L b Z PV) {us:List Value}{As Bs:List (AV C.D)}(hr:VRs C Z ν us As) (hlive:AV.oks (λid=>(S.heap id).isSome=E) As) (hk:okX As Bs=E) (hR:vR S As Bs) {w:World}{w0:Start}{σ0:FS}(hi:Inv w0 σ0 Z PV w) :
    ∃σ1 PV1,Inv w0 σ0 σ1 PV1 w/\zy κ (zgb S As Bs) [] (yl L b us) σ1 PV1:=by
 let⟨σ1,PV1,ids1,hi1,h1,l1,f1⟩:=zkZ (AV.nxss As) (h.virt hr hlive) hi;have f1':FzR C S ν σ1 (AV.nxss As):=f1;refine⟨σ1,PV1,hi1,ν,vs,ids1,⟨h1.nd,h1.dom,h1.pv,h1.cell,λt=>?_,h1.one⟩,λt=>?_,h1.livec,h1.keep⟩
 · show VR C σ1 ν (look [] (yl L b us) t) (bif O t vB then _ else match zaX As Bs (t - vB) with | some B=>B | none=>_);cases hb:O t vB with
   |true=>exact h1.env t
   |false=>
    simp only[UC];cases hs:zaX As Bs (t - vB) with
    |none=>exact h1.env t
    |some B=>
     have:=(zhy (ν':=ν) l1 f1' hR hk (λj hj=>hj) hr hs).1;show VR C σ1 ν (yl L b us t) B;unfold yl;grind
 · show(bif O t vB then _ else match zaX As Bs (t - vB) with | some B=>B | none=>_:AV C.D).ok _;cases hb:O t vB with
   |true=>exact h1.live t
   |false=>
    simp only[UC];cases hs:zaX As Bs (t - vB) with
    |none=>exact h1.live t
    |some B=>exact AV.ok_mono (λ_ h=>h.elim) (zhy (ν':=ν) l1 f1' hR hk (λj hj=>hj) hr hs).2
def XB(S:St C)(id:Nat):List Nat:=match S.heap id with
 |some (.cell cs)=>AV.rowss cs
 |_=>[]
def wA{α:Type}:List (Nat×Sh)->St C->(St C->U7 α)->U7 α
 |[],T,K=>K T
 |(t,s)::ts,T,K=>match s,T.env (vB+t) with
  | .pz T0 _,.pc id off=>(match(T.frz (XB T id)).heap id with
   |some (.cell cs)=>(C.imp T0 cs).bind λq=>wA ts {env:=upd ((T.frz (XB T id)).sub id .und).env (vB+t) (.pz T0 q off),heap:=((T.frz (XB T id)).sub id .und).heap} K
   |_=>M)
  |_,_=>wA ts T K
theorem zbT{α β:Type}{k:α->U7 β}:∀{ts:List (Nat×Sh)}{T:St C}{K:St C->U7 α},(wA ts T K).bind k=wA ts T λT'=>(K T').bind k
 |[],T,K=>rfl
 |(t,s)::ts,T,K=>by
  unfold wA;split
  ·split
   ·rw[gh];congr 1;funext q;exact zbT
   ·rfl
  ·exact zbT
theorem zy.envv{T:St C}{L:List (Nat×Value)}{b:Nat->Value}(h:AbsL κ T ν vs ids L b Z PV){t:Nat}{A:AV C.D}(hv:VR C Z ν (look L b t) A)(ho:A.ok λid=>(T.heap id).isSome=E):AbsL κ {env:=upd T.env t A,heap:=T.heap} ν vs ids L b Z PV:=by
 refine⟨⟨h.nd,h.dom,h.pv,h.cell,λi=>?_,h.one⟩,λi=>?_,h.livec,h.keep⟩
 ·show VR C Z ν _ (upd T.env t A i);by_cases e:i=t
  ·subst e;rw[zp];exact hv
  ·rw[zq e];exact h.env i
 ·show(upd T.env t A i).ok _;by_cases e:i=t
  ·subst e;rw[zp];exact ho
  ·rw[zq e];exact h.live i
theorem zxz {T:St C}{L:List (Nat×Value)}{b:Nat->Value}(h:AbsL κ T ν vs ids L b Z PV) {t id off T0:Nat}{cs:List (AV C.D)}{q:C.D T0}(he:look L b t = .pointer (G ((ν.adr id).a.add off))) (hc:T.heap id=G (.cell cs)) (hq:C.imp T0 cs=G q) {w:World}{w0:Start}{σ0:FS}(hi:Inv w0 σ0 Z PV w) :
    ∃σ1 PV1,Inv w0 σ0 σ1 PV1 w/\zy κ {env:=upd (T.sub id .und).env t (.pz T0 q off),heap:=(T.sub id .und).heap} L b σ1 PV1:=by
 let⟨m,hm,hid⟩:=h.at hc;let⟨h1,hh,hsub,hle,hi'⟩:=hi.freeze hm;have hh:Z2 (ν.adr id).a (vs id) h1:=hh;have h2:=h.sub hid hle (R :=.und) trivial trivial rfl;refine⟨_,_,hi',ν,vs,_,zy.envv h2 (A :=.pz T0 q off) ?_ trivial⟩;rw[he];have hcv:=(h.cell id cs hc).mono hle;have hrel:=WI (ν:=ν) hcv hq;have hlen:=hrel.1;refine Rv.pz (λj=>((vs id)[j]?).getD default) (λj A hj=>?_) (λj A hj=>?_)
 ·let⟨u,e1,e2⟩:=hrel.2 j A hj;rw[e1];rw[Addr.add_eq _ hh.1];simpa[FS.cell] using Xx (Z:=Z) _ _ _ (hh.2 j u e1)
 ·let⟨u,e1,e2⟩:=hrel.2 j A hj;grind
theorem vS {α:Type}{r:α}:∀{ts:List (Nat×Sh)}{T:St C}{K:St C->U7 α},wA ts T K=G r->
    ∃T',K T'=G r/\∀{κ:Kp} {L:List (Nat×Value)} {b:Nat->Value} {us:List Value} {w:World} {w0:Start} {σ0 Z:FS} {PV:List Priv},zy κ T [] (yl L b us) Z PV->Inv w0 σ0 Z PV w->∃σ1 PV1,Inv w0 σ0 σ1 PV1 w/\zy κ T' [] (yl L b us) σ1 PV1
 |[],T,K,h=>⟨T,h,λhA hi=>⟨_,_,hi,hA⟩⟩
 |(t,s)::ts,T,K,h=>by
   unfold wA at h;split at h
   · rename_i T0 o id off e;split at h
     ·rename_i cs hcs;let⟨q,hq,h⟩:=gd h;let⟨T',h1,h2⟩:=vS h;refine⟨T',h1,λhA hi=>?_⟩;let⟨ν,vs,ids,hA⟩:=hA;have he:=hA.env (vB+t);rw[e] at he;let⟨σ1,PV1,ids1,hi1,h3,_,_⟩:=zkZ (XB T id) hA hi;let⟨σ2,PV2,hi2,h4⟩:=zxz h3 he hcs hq hi1;grind
     ·cases h
   ·exact vS h
def xA(Γ:List (Spec C))(S:St C)(d f:Nat)(As:List (AV C.D)):U7 (Out C):=match Γ with
 |[]=>M
 |s :: Γ=>bif W s.f f && (s.view || s.viewO) then Wb S As λBs=>chk (okX As Bs) (wA s.ins.ts (zgb S As Bs) λT=>match YH s.ins T As.length with
    |some (_,_,x)=>bif s.view then yP s d S x else yD s d S x
    |none=>M) else xA Γ S d f As
def YI(Γ0 Γ:List (Spec C))(S:St C)(d f:Nat)(As:List (AV C.D)):U7 (Out C):=match Γ with
 |[]=>xA Γ0 S d f As
 |s::Γ=>bif W s.f f then(match YT s.ins S As with
  |some (S2,bl,x)=>bif s.view then yP s d S x else bif s.viewO then yD s d S x else xz s d S2 bl x
  |none=>YI Γ0 Γ S d f As) else YI Γ0 Γ S d f As
def vv(Γ:List (Spec C))(S:St C)(d f:Nat)(As:List (AV C.D)):U7 (Out C):=YI Γ Γ S d f As
theorem zgc (hgl:C.gl w0.w σ0) {d:Nat}{f:FuncId}{As:List (AV C.D)}{us:List Value}{out:Out C}(h:AbsL κ S ν vs ids L b Z PV) (hr:VRs C Z ν us As) (hlive:AV.oks (λid=>(S.heap id).isSome=E) As) {w:World}(hi:Inv w0 σ0 Z PV w):∀{Γ:List (Spec C)},(∀s∈Γ,s.OK P)->xA Γ S d f As=G out->
    ∃ fn, P.funcs[f]? = G fn /\ (fn.name == "runtime.NumGoroutine") = H /\ fn.body.isNone = H /\ Calls P f us.toArray w fun e w' => match e with
     | .returned v=>∃S' Z' PV',out = .go S'/\Inv w0 σ0 Z' PV' w'/\zy κ S' ((d,v)::L) b Z' PV'
     | .panicked chain=>∃A S' u Z' PV',out = .pan A S'/\chain=[{v:=u,recovered:=false}]/\Inv w0 σ0 Z' PV' w'/\Xy C Z' u A/\zy κ S' L b Z' PV'
     | .outgrown=>False
 |[],_,ho=>by cases ho
 |s::Γ,hΓ,ho=>by
  unfold xA at ho;cases hf:(W s.f f && (s.view || s.viewO)) with
  |false=>
   rw[hf,UC] at ho;exact zgc hgl h hr hlive hi (λs hs=>hΓ s (D5 _ hs)) ho
  |true=>
   rw[hf,D1] at ho;simp only[gf,UR] at hf;have:=ge hf.1;subst this;let⟨Bs,ho,hR⟩:=zbR ho;let⟨hk,ho⟩:=zb ho;let⟨T,hT,hTA⟩:=vS ho;have hTi:∀w0 σ0,Inv w0 σ0 Z PV w->∃σ1 PV1,Inv w0 σ0 σ1 PV1 w/\zy κ T [] (yl L b us) σ1 PV1:=λw0 σ0 hi=>by
    let⟨σ1,PV1,hi1,hA1⟩:=ztq h hr hlive hk hR hi;grind
   let⟨fn,h1,h2,h3,_⟩:=hΓ s (by simp);split at hT
   · rename_i S2 bl x hl;have hN:us.length=As.length:=hr.len;cases hv:s.view with
     |true=>rw[hv] at hT;exact⟨fn,h1,h2,h3,ze6 (hΓ s (by simp)) hgl hl hN h hT hi hTi⟩
     |false=>
      rw[hv] at hT;have hvo:s.viewO=true:=by grind
      exact⟨fn,h1,h2,h3,ze7 (hΓ s (by simp)) hvo hgl hl hN h hT hi hTi⟩
   ·cases hT
theorem zbU (hgl:C.gl w0.w σ0) {d:Nat}{f:FuncId}{As:List (AV C.D)}{us:List Value}{out:Out C}(h:AbsL κ S ν vs ids L b Z PV) (hr:VRs C Z ν us As) (hlive:AV.oks (λid=>(S.heap id).isSome=E) As) {w:World}(hi:Inv w0 σ0 Z PV w):∀{Γ0 Γ:List (Spec C)},(∀s∈Γ0,s.OK P)->(∀s∈Γ,s.OK P)->YI Γ0 Γ S d f As=G out->
    ∃ fn, P.funcs[f]? = G fn /\ (fn.name == "runtime.NumGoroutine") = H /\ fn.body.isNone = H /\ Calls P f us.toArray w fun e w' => match e with
     | .returned v=>∃S' Z' PV',out = .go S'/\Inv w0 σ0 Z' PV' w'/\zy κ S' ((d,v)::L) b Z' PV'
     | .panicked chain=>∃A S' u Z' PV',out = .pan A S'/\chain=[{v:=u,recovered:=false}]/\Inv w0 σ0 Z' PV' w'/\Xy C Z' u A/\zy κ S' L b Z' PV'
     | .outgrown=>False
 |Γ0,[],hΓ0,_,ho=>zgc hgl h hr hlive hi hΓ0 ho
 |Γ0,s::Γ,hΓ0,hΓ,ho=>by
  unfold YI at ho;cases hf:W s.f f with
  |false=>
   rw[hf,UC] at ho;exact zbU hgl h hr hlive hi hΓ0 (λs hs=>hΓ s (D5 _ hs)) ho
  |true=>
   rw[hf,D1] at ho;have:=ge hf;subst this;split at ho
   · rename_i S2 bl x hl;have hs:=hΓ s (by simp);let⟨fn,h1,h2,h3,_⟩:=hs;cases hv:s.view with
     |true=>rw[hv] at ho;exact⟨fn,h1,h2,h3,ze6 (hΓ s (by simp)) hgl (T:=virt S As) (N:=As.length) hl hr.len h ho hi (λw0 σ0 hi=>⟨Z,PV,hi,ν,vs,ids,h.virt hr hlive⟩)⟩
     |false=>
      rw[hv,UC] at ho;cases hv2:s.viewO with
      |true=>rw[hv2] at ho;exact⟨fn,h1,h2,h3,ze7 (hΓ s (by simp)) hv2 hgl (T:=virt S As) (N:=As.length) hl hr.len h ho hi (λw0 σ0 hi=>⟨Z,PV,hi,ν,vs,ids,h.virt hr hlive⟩)⟩
      |false=>rw[hv2] at ho;exact⟨fn,h1,h2,h3,zos (hΓ s (by simp)) hgl hl h hr hlive ho hi⟩
   ·exact zbU hgl h hr hlive hi hΓ0 (λs hs=>hΓ s (D5 _ hs)) ho
theorem ziw (hgl:C.gl w0.w σ0) {d:Nat}{f:FuncId}{As:List (AV C.D)}{us:List Value}{out:Out C}(h:AbsL κ S ν vs ids L b Z PV) (hr:VRs C Z ν us As) (hlive:AV.oks (λid=>(S.heap id).isSome=E) As) {w:World}(hi:Inv w0 σ0 Z PV w) {Γ:List (Spec C)}(hΓ:∀s∈Γ,s.OK P) (ho:vv Γ S d f As=G out) :
    ∃ fn, P.funcs[f]? = G fn /\ (fn.name == "runtime.NumGoroutine") = H /\ fn.body.isNone = H /\ Calls P f us.toArray w fun e w' => match e with
     | .returned v=>∃S' Z' PV',out = .go S'/\Inv w0 σ0 Z' PV' w'/\zy κ S' ((d,v)::L) b Z' PV'
     | .panicked chain=>∃A S' u Z' PV',out = .pan A S'/\chain=[{v:=u,recovered:=false}]/\Inv w0 σ0 Z' PV' w'/\Xy C Z' u A/\zy κ S' L b Z' PV'
     | .outgrown=>False:=zbU hgl h hr hlive hi hΓ hΓ ho
end
end
end Go.Px
